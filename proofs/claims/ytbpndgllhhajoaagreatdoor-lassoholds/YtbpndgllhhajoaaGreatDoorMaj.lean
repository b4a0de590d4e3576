/- Made by a program of the session's own (tools/gen_scan.py): what functions come to, segment by segment. -/
import Derived.Test.YtbpndgllhhajoaaGreatDoorMai
set_option linter.unusedVariables false
set_option linter.unusedSimpArgs false
namespace Go.Sd
open Go Go.Cm Go.Proofs Go.Sc
set_option maxRecDepth 100000
namespace L44
  section
  variable (B:Option Nat×Option Nat×Option Nat×Option Nat)
noncomputable def X:Fx:=⟨Tryz.prog,WF B,4,1⟩
def j0 (op:ByteArray) (nm:ByteArray) (ks:List D) (p:Int) (x32:Bool):S:=⟨Tm.mk 34 [(1,.rp 2 0),(3,.d false 0 (D.int .i64 (-1:Int))),(19,.d false 0 (D.bool x32))],[(2,true,[.d true 0 (D.str op),.d true 0 (D.str nm),.d true 0 (D.sl 5 ks),.d true 0 (D.int .i64 p)])]⟩
def j1 (op:ByteArray) (nm:ByteArray) (ks:List D) (p:Int) (x36:Bool):S:=⟨Tm.mk 34 [(1,.rp 2 0),(3,.d false 0 (D.int .i64 (-1:Int))),(5,.d true 0 (D.str op)),(15,.d false 0 (D.bool x36))],[(2,true,[.d true 0 (D.str op),.d true 0 (D.str nm),.d true 0 (D.sl 5 ks),.d true 0 (D.int .i64 p)])]⟩
def j2 (op:ByteArray) (nm:ByteArray) (ks:List D) (p:Int) (x41:Bool):S:=⟨Tm.mk 34 [(1,.rp 2 0),(3,.d false 0 (D.int .i64 (-1:Int))),(5,.d true 0 (D.str op)),(10,.d false 0 (D.bool x41))],[(2,true,[.d true 0 (D.str op),.d true 0 (D.str nm),.d true 0 (D.sl 5 ks),.d true 0 (D.int .i64 p)])]⟩
def j3 (op:ByteArray) (nm:ByteArray) (ks:List D) (p:Int) (x46:Bool):S:=⟨Tm.mk 34 [(1,.rp 2 0),(3,.d false 0 (D.int .i64 (-1:Int))),(5,.d true 0 (D.str op)),(6,.d false 0 (D.bool x46))],[(2,true,[.d true 0 (D.str op),.d true 0 (D.str nm),.d true 0 (D.sl 5 ks),.d true 0 (D.int .i64 p)])]⟩
def j4 (op:ByteArray) (nm:ByteArray) (ks:List D) (p:Int):S:=⟨Tm.mk 34 [(1,.rp 2 0),(3,.d false 0 (D.int .i64 (-1:Int))),(5,.d true 0 (D.str op))],[(2,true,[.d true 0 (D.str op),.d true 0 (D.str nm),.d true 0 (D.sl 5 ks),.d true 0 (D.int .i64 p)])]⟩
def j5 (op:ByteArray) (nm:ByteArray) (ks:List D) (p:Int):S:=⟨Tm.mk 34 [(1,.rp 2 0),(3,.d false 0 (D.int .i64 (-1:Int))),(5,.d true 0 (D.str op))],[(2,true,[.d true 0 (D.str op),.d true 0 (D.str nm),.d true 0 (D.sl 5 ks),.d true 0 (D.int .i64 p)])]⟩
def j6 (op:ByteArray) (nm:ByteArray) (ks:List D) (p:Int):S:=⟨Tm.mk 34 [(1,.rp 2 0),(3,.d false 0 (D.int .i64 (-1:Int))),(5,.d true 0 (D.str op))],[(2,true,[.d true 0 (D.str op),.d true 0 (D.str nm),.d true 0 (D.sl 5 ks),.d true 0 (D.int .i64 p)])]⟩
noncomputable abbrev J0 {β:Type} (op:ByteArray) (nm:ByteArray) (ks:List D) (p:Int) (k:List TV→List TV→Option β):S→Option β:=applyK (X B) (finK Tryz.prog Tryz.f44 [.d true 5 (D.ag [D.str op,D.str nm,D.sl 5 ks,D.int .i64 p])] k) [Kf.seq [(1,2),(2,2),(3,2),(4,2),(0,10)] (sub [1,1,0,1,0,0,0,0,0,0,0,0,0,1,1,1,1] (body Tryz.f44)) 10,Kf.seq [(1,2),(2,2),(3,2),(4,2),(0,10)] (sub [1,1,0,1,0,0,0,0,0,0,0,0,1] (body Tryz.f44)) 2,Kf.block 1 2,Kf.seq [(2,2),(3,2),(4,2),(0,10)] (sub [1,1,0,1,0,0,0,0,0,0,1] (body Tryz.f44)) 2,Kf.block 2 2,Kf.seq [(3,2),(4,2),(0,10)] (sub [1,1,0,1,0,0,0,0,1] (body Tryz.f44)) 2,Kf.block 3 2,Kf.block 4 2,Kf.seq [(0,10)] (sub [1,1,0,1,0,1] (body Tryz.f44)) 10,Kf.block 0 10,Kf.seq [] (sub [1,1,1] (body Tryz.f44)) 4] Ex.norm
noncomputable abbrev J1 {β:Type} (op:ByteArray) (nm:ByteArray) (ks:List D) (p:Int) (k:List TV→List TV→Option β):S→Option β:=applyK (X B) (finK Tryz.prog Tryz.f44 [.d true 5 (D.ag [D.str op,D.str nm,D.sl 5 ks,D.int .i64 p])] k) [Kf.seq [(1,2),(2,2),(3,2),(4,2),(0,10)] (sub [1,1,0,1,0,0,0,0,0,0,0,0,0,1,1,0,1] (body Tryz.f44)) 42,Kf.seq [(1,2),(2,2),(3,2),(4,2),(0,10)] (sub [1,1,0,1,0,0,0,0,0,0,0,0,0,1,1,1] (body Tryz.f44)) 10,Kf.seq [(1,2),(2,2),(3,2),(4,2),(0,10)] (sub [1,1,0,1,0,0,0,0,0,0,0,0,1] (body Tryz.f44)) 2,Kf.block 1 2,Kf.seq [(2,2),(3,2),(4,2),(0,10)] (sub [1,1,0,1,0,0,0,0,0,0,1] (body Tryz.f44)) 2,Kf.block 2 2,Kf.seq [(3,2),(4,2),(0,10)] (sub [1,1,0,1,0,0,0,0,1] (body Tryz.f44)) 2,Kf.block 3 2,Kf.block 4 2,Kf.seq [(0,10)] (sub [1,1,0,1,0,1] (body Tryz.f44)) 10,Kf.block 0 10,Kf.seq [] (sub [1,1,1] (body Tryz.f44)) 4] Ex.norm
noncomputable abbrev J2 {β:Type} (op:ByteArray) (nm:ByteArray) (ks:List D) (p:Int) (k:List TV→List TV→Option β):S→Option β:=applyK (X B) (finK Tryz.prog Tryz.f44 [.d true 5 (D.ag [D.str op,D.str nm,D.sl 5 ks,D.int .i64 p])] k) [Kf.seq [(1,2),(2,2),(3,2),(4,2),(0,10)] (sub [1,1,0,1,0,0,0,0,0,0,0,0,0,1,0,1] (body Tryz.f44)) 42,Kf.seq [(1,2),(2,2),(3,2),(4,2),(0,10)] (sub [1,1,0,1,0,0,0,0,0,0,0,0,0,1,1] (body Tryz.f44)) 10,Kf.seq [(1,2),(2,2),(3,2),(4,2),(0,10)] (sub [1,1,0,1,0,0,0,0,0,0,0,0,1] (body Tryz.f44)) 2,Kf.block 1 2,Kf.seq [(2,2),(3,2),(4,2),(0,10)] (sub [1,1,0,1,0,0,0,0,0,0,1] (body Tryz.f44)) 2,Kf.block 2 2,Kf.seq [(3,2),(4,2),(0,10)] (sub [1,1,0,1,0,0,0,0,1] (body Tryz.f44)) 2,Kf.block 3 2,Kf.block 4 2,Kf.seq [(0,10)] (sub [1,1,0,1,0,1] (body Tryz.f44)) 10,Kf.block 0 10,Kf.seq [] (sub [1,1,1] (body Tryz.f44)) 4] Ex.norm
noncomputable abbrev J3 {β:Type} (op:ByteArray) (nm:ByteArray) (ks:List D) (p:Int) (k:List TV→List TV→Option β):S→Option β:=applyK (X B) (finK Tryz.prog Tryz.f44 [.d true 5 (D.ag [D.str op,D.str nm,D.sl 5 ks,D.int .i64 p])] k) [Kf.seq [(1,2),(2,2),(3,2),(4,2),(0,10)] (sub [1,1,0,1,0,0,0,0,0,0,0,0,0,0,1] (body Tryz.f44)) 42,Kf.seq [(1,2),(2,2),(3,2),(4,2),(0,10)] (sub [1,1,0,1,0,0,0,0,0,0,0,0,0,1] (body Tryz.f44)) 10,Kf.seq [(1,2),(2,2),(3,2),(4,2),(0,10)] (sub [1,1,0,1,0,0,0,0,0,0,0,0,1] (body Tryz.f44)) 2,Kf.block 1 2,Kf.seq [(2,2),(3,2),(4,2),(0,10)] (sub [1,1,0,1,0,0,0,0,0,0,1] (body Tryz.f44)) 2,Kf.block 2 2,Kf.seq [(3,2),(4,2),(0,10)] (sub [1,1,0,1,0,0,0,0,1] (body Tryz.f44)) 2,Kf.block 3 2,Kf.block 4 2,Kf.seq [(0,10)] (sub [1,1,0,1,0,1] (body Tryz.f44)) 10,Kf.block 0 10,Kf.seq [] (sub [1,1,1] (body Tryz.f44)) 4] Ex.norm
noncomputable abbrev J4 {β:Type} (op:ByteArray) (nm:ByteArray) (ks:List D) (p:Int) (k:List TV→List TV→Option β):S→Option β:=applyK (X B) (finK Tryz.prog Tryz.f44 [.d true 5 (D.ag [D.str op,D.str nm,D.sl 5 ks,D.int .i64 p])] k) [Kf.seq [(1,2),(2,2),(3,2),(4,2),(0,10)] (sub [1,1,0,1,0,0,0,0,0,0,0,0,0,1,1,1] (body Tryz.f44)) 10,Kf.seq [(1,2),(2,2),(3,2),(4,2),(0,10)] (sub [1,1,0,1,0,0,0,0,0,0,0,0,1] (body Tryz.f44)) 2,Kf.block 1 2,Kf.seq [(2,2),(3,2),(4,2),(0,10)] (sub [1,1,0,1,0,0,0,0,0,0,1] (body Tryz.f44)) 2,Kf.block 2 2,Kf.seq [(3,2),(4,2),(0,10)] (sub [1,1,0,1,0,0,0,0,1] (body Tryz.f44)) 2,Kf.block 3 2,Kf.block 4 2,Kf.seq [(0,10)] (sub [1,1,0,1,0,1] (body Tryz.f44)) 10,Kf.block 0 10,Kf.seq [] (sub [1,1,1] (body Tryz.f44)) 4] Ex.norm
noncomputable abbrev J5 {β:Type} (op:ByteArray) (nm:ByteArray) (ks:List D) (p:Int) (k:List TV→List TV→Option β):S→Option β:=applyK (X B) (finK Tryz.prog Tryz.f44 [.d true 5 (D.ag [D.str op,D.str nm,D.sl 5 ks,D.int .i64 p])] k) [Kf.seq [(1,2),(2,2),(3,2),(4,2),(0,10)] (sub [1,1,0,1,0,0,0,0,0,0,0,0,0,1,1] (body Tryz.f44)) 10,Kf.seq [(1,2),(2,2),(3,2),(4,2),(0,10)] (sub [1,1,0,1,0,0,0,0,0,0,0,0,1] (body Tryz.f44)) 2,Kf.block 1 2,Kf.seq [(2,2),(3,2),(4,2),(0,10)] (sub [1,1,0,1,0,0,0,0,0,0,1] (body Tryz.f44)) 2,Kf.block 2 2,Kf.seq [(3,2),(4,2),(0,10)] (sub [1,1,0,1,0,0,0,0,1] (body Tryz.f44)) 2,Kf.block 3 2,Kf.block 4 2,Kf.seq [(0,10)] (sub [1,1,0,1,0,1] (body Tryz.f44)) 10,Kf.block 0 10,Kf.seq [] (sub [1,1,1] (body Tryz.f44)) 4] Ex.norm
noncomputable abbrev J6 {β:Type} (op:ByteArray) (nm:ByteArray) (ks:List D) (p:Int) (k:List TV→List TV→Option β):S→Option β:=applyK (X B) (finK Tryz.prog Tryz.f44 [.d true 5 (D.ag [D.str op,D.str nm,D.sl 5 ks,D.int .i64 p])] k) [Kf.seq [(1,2),(2,2),(3,2),(4,2),(0,10)] (sub [1,1,0,1,0,0,0,0,0,0,0,0,0,1] (body Tryz.f44)) 10,Kf.seq [(1,2),(2,2),(3,2),(4,2),(0,10)] (sub [1,1,0,1,0,0,0,0,0,0,0,0,1] (body Tryz.f44)) 2,Kf.block 1 2,Kf.seq [(2,2),(3,2),(4,2),(0,10)] (sub [1,1,0,1,0,0,0,0,0,0,1] (body Tryz.f44)) 2,Kf.block 2 2,Kf.seq [(3,2),(4,2),(0,10)] (sub [1,1,0,1,0,0,0,0,1] (body Tryz.f44)) 2,Kf.block 3 2,Kf.block 4 2,Kf.seq [(0,10)] (sub [1,1,0,1,0,1] (body Tryz.f44)) 10,Kf.block 0 10,Kf.seq [] (sub [1,1,1] (body Tryz.f44)) 4] Ex.norm
theorem start {β:Type} (op:ByteArray) (nm:ByteArray) (ks:List D) (p:Int) (k:List TV→List TV→Option β):evalF Tryz.prog (WF B) Tryz.f44 [.d true 5 (D.ag [D.str op,D.str nm,D.sl 5 ks,D.int .i64 p])] k=if(op.toList==[116,114,117,101])=true then J3 B op nm ks p k (j3 op nm ks p (op.toList==[116,114,117,101]))else if(op.toList==[102,97,108,115,101])=true then J3 B op nm ks p k (j3 op nm ks p (op.toList==[102,97,108,115,101]))else J3 B op nm ks p k (j3 op nm ks p (op.toList==[108,97,98,101,108])):=by kernel_rfl
theorem j0_eq {β:Type} (op:ByteArray) (nm:ByteArray) (ks:List D) (p:Int) (x32:Bool) (k:List TV→List TV→Option β):J0 B op nm ks p k (j0 op nm ks p x32)=if x32=true then if((ks.length:Int)==2)=true then match ofDL ks with
   |some fs93=>if bdL B.snd.snd.snd fs93 then k [.d false 0 (D.bool !!lformL fs93)] []else none
   |none=>none else k [.d false 0 (D.bool false)] []else if((ks.length:Int)==(-1:Int))=true then match ofDL ks with
   |some fs95=>if bdL B.snd.snd.snd fs95 then k [.d false 0 (D.bool !!lformL fs95)] []else none
   |none=>none else k [.d false 0 (D.bool false)] []:=by kernel_rfl
theorem j1_eq {β:Type} (op:ByteArray) (nm:ByteArray) (ks:List D) (p:Int) (x36:Bool) (k:List TV→List TV→Option β):J1 B op nm ks p k (j1 op nm ks p x36)=if x36=true then if((ks.length:Int)==2)=true then match ofDL ks with
   |some fs99=>if bdL B.snd.snd.snd fs99 then k [.d false 0 (D.bool !!lformL fs99)] []else none
   |none=>none else k [.d false 0 (D.bool false)] []else J4 B op nm ks p k (j4 op nm ks p):=by kernel_rfl
theorem j2_eq {β:Type} (op:ByteArray) (nm:ByteArray) (ks:List D) (p:Int) (x41:Bool) (k:List TV→List TV→Option β):J2 B op nm ks p k (j2 op nm ks p x41)=if x41=true then if((ks.length:Int)==1)=true then match ofDL ks with
   |some fs103=>if bdL B.snd.snd.snd fs103 then k [.d false 0 (D.bool !!lformL fs103)] []else none
   |none=>none else k [.d false 0 (D.bool false)] []else J5 B op nm ks p k (j5 op nm ks p):=by kernel_rfl
theorem j3_eq {β:Type} (op:ByteArray) (nm:ByteArray) (ks:List D) (p:Int) (x46:Bool) (k:List TV→List TV→Option β):J3 B op nm ks p k (j3 op nm ks p x46)=if x46=true then if((ks.length:Int)==0)=true then match ofDL ks with
   |some fs107=>if bdL B.snd.snd.snd fs107 then k [.d false 0 (D.bool !!lformL fs107)] []else none
   |none=>none else k [.d false 0 (D.bool false)] []else J6 B op nm ks p k (j6 op nm ks p):=by kernel_rfl
theorem j4_eq {β:Type} (op:ByteArray) (nm:ByteArray) (ks:List D) (p:Int) (k:List TV→List TV→Option β):J4 B op nm ks p k (j4 op nm ks p)=if(op.toList==[85])=true then J0 B op nm ks p k (j0 op nm ks p (op.toList==[85]))else if(op.toList==[87])=true then J0 B op nm ks p k (j0 op nm ks p (op.toList==[87]))else J0 B op nm ks p k (j0 op nm ks p (op.toList==[82])):=by kernel_rfl
theorem j5_eq {β:Type} (op:ByteArray) (nm:ByteArray) (ks:List D) (p:Int) (k:List TV→List TV→Option β):J5 B op nm ks p k (j5 op nm ks p)=if(op.toList==[38])=true then J1 B op nm ks p k (j1 op nm ks p (op.toList==[38]))else if(op.toList==[124])=true then J1 B op nm ks p k (j1 op nm ks p (op.toList==[124]))else J1 B op nm ks p k (j1 op nm ks p (op.toList==[61,62])):=by kernel_rfl
theorem j6_eq {β:Type} (op:ByteArray) (nm:ByteArray) (ks:List D) (p:Int) (k:List TV→List TV→Option β):J6 B op nm ks p k (j6 op nm ks p)=if(op.toList==[33])=true then J2 B op nm ks p k (j2 op nm ks p (op.toList==[33]))else if(op.toList==[88])=true then J2 B op nm ks p k (j2 op nm ks p (op.toList==[88]))else if(op.toList==[70])=true then J2 B op nm ks p k (j2 op nm ks p (op.toList==[70]))else J2 B op nm ks p k (j2 op nm ks p (op.toList==[71])):=by kernel_rfl
end
end L44
namespace L67
  section
  variable (B:Option Nat×Option Nat×Option Nat×Option Nat)
theorem start {β:Type} (op:ByteArray) (nm:ByteArray) (ks:List D) (p:Int) (k:List TV→List TV→Option β):evalF Tryz.prog (WF B) Tryz.f67 [.d true 5 (D.ag [D.str op,D.str nm,D.sl 5 ks,D.int .i64 p])] k=match ofD (D.ag [D.str op,D.str nm,D.sl 5 ks,D.int .i64 p])with
   |some f2=>if bd B.fst f2 then k [.d false 0 (D.bool !lformF f2)] []else none
   |none=>none:=by kernel_rfl
end
end L67
namespace L96
  section
  variable (B:Option Nat×Option Nat×Option Nat×Option Nat)
noncomputable def X:Fx:=⟨Tryz.prog,WF B,16,2⟩
def s0 (ys:List D) (x58:Int):S:=⟨Tm.mk 19 [(0,.d true 0 (D.sl 5 ys)),(1,.d true 0 (D.fn 67 [])),(7,.d false 0 (D.int .i64 (ys.length:Int))),(8,.d false 0 (D.int .i64 x58))],[]⟩
def e0r (x117:Int):S:=⟨Tm.mk 19 [(4,.d false 0 (D.int .i64 x117))],[]⟩
def e0x0:S:=⟨Tm.mk 19 [],[]⟩
noncomputable abbrev L0:S→Option (S ⊕ (Ex×S)):=roundK (X B) [(0,0)] (sub [1,0,1,0,0] (body Tryz.f96))
theorem start {β:Type} (ys:List D) (k:List TV→List TV→Option β):evalF Tryz.prog (WF B) Tryz.f96 [.d true 0 (D.sl 5 ys),.d true 0 (D.fn (67:FuncId) [])] k=goLp (X B) [(0,0)] (sub [1,0,1,0,0] (body Tryz.f96)) [Kf.block 0 0,Kf.seq [] (sub [1,1] (body Tryz.f96)) 16] (finK Tryz.prog Tryz.f96 [.d true 0 (D.sl 5 ys),.d true 0 (D.fn (67:FuncId) [])] k) (s0 ys (0:Int)):=by kernel_rfl
theorem round0_0 (ys:List D) (x57:Int):roundK (X B) [(0,0)] (sub [1,0,1,0,0] (body Tryz.f96)) (s0 ys x57)=if decide (x57<(ys.length:Int))=true then if 0≤x57 then match ys[x57.toNat]? with
   |some x125=>match x125 with
    |D.ag xs126=>match xs126 with
     |x127::r128=>match x127 with
      |D.str s129=>match r128 with
       |x130::r131=>match x130 with
        |D.str s132=>match r131 with
         |x133::r134=>match x133 with
          |D.sl sh135 xs136=>if sh135=5 then match r134 with
           |x137::r138=>match x137 with
            |D.int j139 m140=>if j139=IntKind.i64 then match r138 with
             |[]=>match ofD (D.ag [D.str s129,D.str s132,D.sl 5 xs136,D.int .i64 m140])with
              |some f142=>if bd B.snd.fst f142 then if(!lformF f142)=true then some (Sum.inr (Ex.ret,e0r x57))else some (Sum.inl (s0 ys (IntKind.wrap .i64 (x57+1))))else none
              |none=>none
             |x=>none else none
            |x=>none
           |[]=>none else none
          |x=>none
         |[]=>none
        |x=>none
       |[]=>none
      |x=>none
     |[]=>none
    |x=>none
   |none=>none else none else some (Sum.inr (Ex.exit 0,e0x0)):=by kernel_rfl
theorem behind0r {β:Type} (ys:List D) (x117:Int) (k:List TV→List TV→Option β):applyK (X B) (finK Tryz.prog Tryz.f96 [.d true 0 (D.sl 5 ys),.d true 0 (D.fn (67:FuncId) [])] k) [Kf.block 0 0,Kf.seq [] (sub [1,1] (body Tryz.f96)) 16] Ex.ret (e0r x117)=k [.d false 0 (D.int .i64 x117)] []:=by kernel_rfl
theorem behind0x0 {β:Type} (ys:List D) (k:List TV→List TV→Option β):applyK (X B) (finK Tryz.prog Tryz.f96 [.d true 0 (D.sl 5 ys),.d true 0 (D.fn (67:FuncId) [])] k) [Kf.block 0 0,Kf.seq [] (sub [1,1] (body Tryz.f96)) 16] (Ex.exit 0) e0x0=k [.d false 0 (D.int .i64 (-1:Int))] []:=by kernel_rfl
end
end L96
namespace L66
  section
  variable (B:Option Nat×Option Nat×Option Nat×Option Nat)
theorem start {β:Type} (ys:List D) (k:List TV→List TV→Option β):evalF Tryz.prog (WF B) Tryz.f66 [.d true 0 (D.sl 5 ys),.d true 0 (D.fn (67:FuncId) [])] k=match ofDL ys with
   |some fs2=>if bdL B.snd.snd.fst fs2 then k [.d false 0 (D.bool (decide (idxNF fs2 0≥(0:Int))))] []else none
   |none=>none:=by kernel_rfl
end
end L66
end Go.Sd
set_option maxRecDepth 100000
namespace Go.Sc
open Go Go.Cm
theorem idxNF_all:∀(fs:List Fm) (i:Nat),decide (idxNF fs i≥0)= !lformL fs
 |[],i=>rfl
 |f::fs,i=>by
  have ih:=idxNF_all fs (i+1)
  by_cases h:lformF f=true
  ·have e:idxNF (f::fs) i=idxNF fs (i+1):=by simp[idxNF,h]
   rw[show decide (idxNF (f::fs) i≥0)=decide (idxNF fs (i+1)≥0)from by simp only[e],ih]
   simp[lformL,h]
  ·have e:idxNF (f::fs) i=(i:Int):=by simp[idxNF,h]
   rw[show decide (idxNF (f::fs) i≥0)=decide ((i:Int)≥0)from by simp only[e]]
   simp[lformL,h]
end Go.Sc
namespace Go.Sd
open Go Go.Cm Go.Proofs Go.Sc
abbrev BT:=Option Nat×Option Nat×Option Nat×Option Nat
theorem ev_form {B:BT} {op nm:ByteArray} {fs:List Fm} {p:Int} (hb:bdL B.2.2.2 fs) {γ:Type} (q:List TV→List TV→Option γ):
  evalF Tryz.prog (WF B) Tryz.f44 [.d true 5 (.ag [.str op,.str nm,.sl 5 (Fm.dL fs),.int .i64 p])] q=q [.d false 0 (.bool (lformF (.mk op nm fs p)))] []:=by
 have fin:∀w:Int,wantN op=w→(if(((Fm.dL fs).length:Int)==w)=true then q [.d false 0 (.bool !!lformL fs)] []else q [.d false 0 (.bool false)] [])=q [.d false 0 (.bool (lformF (.mk op nm fs p)))] []:=by
  intro w hw
  simp only[lformF,hw,dL_len]
  by_cases h:(fs.length:Int)=w
  ·rw[if_pos (by simpa using h)];simp[h]
  ·rw[if_neg (by simpa using h)];simp[h]
 rw[L44.start]
 simp only[L44.j3_eq,L44.j6_eq,L44.j2_eq,L44.j5_eq,L44.j1_eq,L44.j4_eq,L44.j0_eq,ofDL_d,if_pos hb]
 unfold wantN at fin
 by_cases a1:(op.toList==[116,114,117,101])=true
 ·simp only[a1,if_true];exact fin 0 (by simp[a1])
 by_cases a2:(op.toList==[102,97,108,115,101])=true
 ·simp only[a1,a2,if_true,if_false];exact fin 0 (by simp[a2])
 by_cases a3:(op.toList==[108,97,98,101,108])=true
 ·simp only[a1,a2,a3,if_true,if_false];exact fin 0 (by simp[a3])
 have e0:¬((op.toList==[116,114,117,101])=true∨(op.toList==[102,97,108,115,101])=true∨(op.toList==[108,97,98,101,108])=true):=by simp only[not_or];exact⟨a1,a2,a3⟩
 simp only[if_neg e0]at fin
 simp only[if_neg a1,if_neg a2,if_neg a3]
 by_cases b1:(op.toList==[33])=true
 ·simp only[b1,if_true];exact fin 1 (by simp[b1])
 by_cases b2:(op.toList==[88])=true
 ·simp only[b1,b2,if_true,if_false];exact fin 1 (by simp[b2])
 by_cases b3:(op.toList==[70])=true
 ·simp only[b1,b2,b3,if_true,if_false];exact fin 1 (by simp[b3])
 by_cases b4:(op.toList==[71])=true
 ·simp only[b1,b2,b3,b4,if_true,if_false];exact fin 1 (by simp[b4])
 have e1:¬((op.toList==[33])=true∨(op.toList==[88])=true∨(op.toList==[70])=true∨(op.toList==[71])=true):=by simp only[not_or];exact⟨b1,b2,b3,b4⟩
 simp only[if_neg e1]at fin
 simp only[if_neg b1,if_neg b2,if_neg b3,if_neg b4]
 by_cases c1:(op.toList==[38])=true
 ·simp only[c1,if_true];exact fin 2 (by simp[c1])
 by_cases c2:(op.toList==[124])=true
 ·simp only[c1,c2,if_true,if_false];exact fin 2 (by simp[c2])
 by_cases c3:(op.toList==[61,62])=true
 ·simp only[c1,c2,c3,if_true,if_false];exact fin 2 (by simp[c3])
 by_cases c4:(op.toList==[85])=true
 ·simp only[c1,c2,c3,c4,if_true,if_false];exact fin 2 (by simp[c4])
 by_cases c5:(op.toList==[87])=true
 ·simp only[c1,c2,c3,c4,c5,if_true,if_false];exact fin 2 (by simp[c5])
 by_cases c6:(op.toList==[82])=true
 ·simp only[c1,c2,c3,c4,c5,c6,if_true,if_false];exact fin 2 (by simp[c6])
 simp only[if_neg c1,if_neg c2,if_neg c3,if_neg c4,if_neg c5,if_neg c6]
 exact fin (-1) (by simp[c1,c2,c3,c4,c5,c6])
theorem nf_loop {B:BT} {fs:List Fm} (hl:fs.length≤4096) (hb:∀f∈fs,bd B.2.1 f):∀(gs:List Fm) (i:Nat),fs.drop i=gs→i≤fs.length→
  (idxNF gs i= -1∧Lp (L96.L0 B) (L96.s0 (Fm.dL fs) i)=some (.exit 0,L96.e0x0))∨(0≤idxNF gs i∧Lp (L96.L0 B) (L96.s0 (Fm.dL fs) i)=some (.ret,L96.e0r (idxNF gs i)))
 |[],i,hi,hle=>by
  have hr:=L96.round0_0 B (Fm.dL fs) i
  have:fs.length≤i:=by have:=congrArg List.length hi;simp at this;omega
  rw[dL_len,if_neg (by simp;omega)]at hr
  exact .inl ⟨rfl,Lp_exit hr⟩
 |f::gs,i,hi,hle=>by
  have hr:=L96.round0_0 B (Fm.dL fs) i
  have hlt:i<fs.length:=by
   rcases Nat.lt_or_ge i fs.length with h|h
   ·exact h
   ·rw[List.drop_eq_nil_of_le h]at hi;cases hi
  have hc:=List.drop_eq_getElem_cons hlt
  rw[hi]at hc
  have hf:fs[i]=f:=(List.cons.inj hc).1.symm
  have hgs:fs.drop (i+1)=gs:=(List.cons.inj hc).2.symm
  rw[dL_len,if_pos (by simp;omega),if_pos (by omega),Int.toNat_natCast,dL_get hlt,hf]at hr
  have hbf:=hb f (hf▸List.getElem_mem hlt)
  have ih:=nf_loop hl hb gs (i+1) hgs (by omega)
  cases f with
  |mk o n ks q=>
   have hof:=ofD_d (.mk o n ks q)
   simp only[Fm.d]at hr hof
   simp only[hof,if_true,if_pos hbf,wrap_id (show -9223372036854775808≤(i:Int)+1 by omega) (by omega)]at hr
   simp only[idxNF]
   by_cases h:lformF (.mk o n ks q)=true
   ·rw[if_pos h]
    rw[if_neg (by simp[h])]at hr
    rcases ih with⟨h1,h2⟩|⟨h1,h2⟩
    ·exact .inl ⟨h1,Lp_step hr h2⟩
    ·exact .inr ⟨h1,Lp_step hr h2⟩
   ·rw[if_neg h]
    rw[if_pos (by simpa using h)]at hr
    exact .inr ⟨by omega,Lp_exit hr⟩
theorem ev_nf {B:BT} {fs:List Fm} (hl:fs.length≤4096) (hb:∀f∈fs,bd B.2.1 f) {γ:Type} (q:List TV→List TV→Option γ):
  evalF Tryz.prog (WF B) Tryz.f96 [.d true 0 (.sl 5 (Fm.dL fs)),.d true 0 (.fn 67 [])] q=q [.d false 0 (.int .i64 (idxNF fs 0))] []:=by
 rw[L96.start]
 rcases nf_loop (B:=B) hl hb fs 0 rfl (by omega)with⟨h1,h2⟩|⟨h1,h2⟩
 ·have h':Lp (L96.L0 B) (L96.s0 (Fm.dL fs) 0)=_:=h2
  rw[goLp_of h',L96.behind0x0,h1]
 ·have h':Lp (L96.L0 B) (L96.s0 (Fm.dL fs) 0)=_:=h2
  rw[goLp_of h',L96.behind0r]
end Go.Sd
set_option maxRecDepth 100000
namespace Go.Sd
open Go Go.Cm Go.Proofs Go.Sc
def VC (g:FuncId) (c:{β:Type}→List TV→(List TV→List TV→Option β)→Option β):Prop:=
 ∀(β:Type) (args:List TV) (k:List TV→List TV→Option β) (r:β),c args k=some r→∃res outs,k res outs=some r∧Valid glS Tryz.prog g args res outs
theorem wf_mk {B:BT} (h1:VC 44 (cLF B.1)) (h2:VC 67 (cLN B.2.1)) (h3:VC 96 (cLI B.2.2.1)) (h4:VC 66 (cLC B.2.2.2)):EnvOk glS Tryz.prog (WF B):=
 (((EnvOk.none.add h1).add h2).add h3).add h4
theorem bd_lt {n:Nat} {f:Fm} (h:bd (some n) f):f.dep<n:=h.2
theorem vc44 {B:BT} {n:Nat} (hE:EnvOk glS Tryz.prog (WF B)) (hB:B.2.2.2=some n):VC 44 (cLF (some (n+1))):=by
 intro β args k r hr
 change cLF _ args k=some r at hr;unfold cLF at hr
 split at hr
 ·split at hr
  ·rename_i x f hf
   obtain⟨h0,hr⟩:=chkK_ok hr
   rw[d_ofD _ _ hf]
   cases f with
   |mk op nm ks p=>
    have hs:=h0.1
    have hd:=bd_lt h0
    simp only[Fm.sm,Bool.and_eq_true,Fm.dep]at hs hd
    simp only[Fm.d]
    exact⟨_,_,hr,valid_of hE mixed Tryz.func44 (by kernel_rfl) (ev_form (by rw[hB];exact⟨hs.1,hs.2,by simp only;omega⟩) _)⟩
  ·cases hr
 ·cases hr
theorem vc67 {B:BT} {n:Nat} (hE:EnvOk glS Tryz.prog (WF B)) (hB:B.1=some n):VC 67 (cLN (some n)):=by
 intro β args k r hr
 change cLN _ args k=some r at hr;unfold cLN at hr
 split at hr
 ·split at hr
  ·rename_i x f hf
   obtain⟨h0,hr⟩:=chkK_ok hr
   rw[d_ofD _ _ hf]
   cases f with
   |mk op nm ks p=>
    have hof:=ofD_d (.mk op nm ks p)
    simp only[Fm.d]at hof ⊢
    refine⟨_,_,hr,valid_of hE mixed Tryz.func67 (by kernel_rfl) ?_⟩
    have h0:bd B.fst (.mk op nm ks p):=by rw[hB];exact h0
    rw[L67.start]
    simp only[hof,if_pos h0]
  ·cases hr
 ·cases hr
theorem vc96 {B:BT} {n:Nat} (hE:EnvOk glS Tryz.prog (WF B)) (hB:B.2.1=some n):VC 96 (cLI (some n)):=by
 intro β args k r hr
 change cLI _ args k=some r at hr;unfold cLI at hr
 split at hr
 ·split at hr
  ·rename_i ys fs hf
   obtain⟨h0,hr⟩:=chkK_ok hr
   rw[dL_ofDL _ _ hf]
   refine⟨_,_,hr,valid_of hE mixed Tryz.func96 (by kernel_rfl) (ev_nf (by simpa using h0.1) (fun f hf=>?_) _)⟩
   rw[hB]
   refine⟨sm_mem h0.2.1 hf,?_⟩
   have:=dep_mem hf
   have h2:=h0.2.2
   simp only at h2 ⊢
   omega
  ·cases hr
 ·cases hr
theorem vc66 {B:BT} {n:Nat} (hE:EnvOk glS Tryz.prog (WF B)) (hB:B.2.2.1=some n):VC 66 (cLC (some n)):=by
 intro β args k r hr
 change cLC _ args k=some r at hr;unfold cLC at hr
 split at hr
 ·split at hr
  ·rename_i ys fs hf
   obtain⟨h0,hr⟩:=chkK_ok hr
   rw[dL_ofDL _ _ hf]
   refine⟨_,_,hr,valid_of hE mixed Tryz.func66 (by kernel_rfl) ?_⟩
   have h0:bdL B.snd.snd.fst fs:=by rw[hB];exact h0
   rw[L66.start]
   simp only[ofDL_d,if_pos h0,idxNF_all]
  ·cases hr
 ·cases hr
theorem wf_of {B:BT} (h:EnvOk glS Tryz.prog (WF B)):VC 44 (cLF B.1)∧VC 67 (cLN B.2.1)∧VC 96 (cLI B.2.2.1)∧VC 66 (cLC B.2.2.2):=
 ⟨fun β args k r hr=>h β 44 args k r hr,fun β args k r hr=>h β 67 args k r hr,fun β args k r hr=>h β 96 args k r hr,fun β args k r hr=>h β 66 args k r hr⟩
theorem vc_zero:EnvOk glS Tryz.prog (WF (some 0,some 0,some 0,some 0)):=by
 refine wf_mk ?_ ?_ ?_ ?_
 ·intro β args k r hr
  change cLF _ args k=some r at hr;unfold cLF at hr
  split at hr
  ·split at hr
   ·obtain⟨h0,_⟩:=chkK_ok hr;have:=h0.2;simp only at this;omega
   ·cases hr
  ·cases hr
 ·intro β args k r hr
  change cLN _ args k=some r at hr;unfold cLN at hr
  split at hr
  ·split at hr
   ·obtain⟨h0,_⟩:=chkK_ok hr;have:=h0.2;simp only at this;omega
   ·cases hr
  ·cases hr
 ·intro β args k r hr
  change cLI _ args k=some r at hr;unfold cLI at hr
  split at hr
  ·split at hr
   ·obtain⟨h0,_⟩:=chkK_ok hr;have:=h0.2.2;simp only at this;omega
   ·cases hr
  ·cases hr
 ·intro β args k r hr
  change cLC _ args k=some r at hr;unfold cLC at hr
  split at hr
  ·split at hr
   ·obtain⟨h0,_⟩:=chkK_ok hr;have:=h0.2.2;simp only at this;omega
   ·cases hr
  ·cases hr
theorem vc_all:∀n,EnvOk glS Tryz.prog (WF (some n,some n,some n,some n))
 |0=>vc_zero
 |n+1=>by
  have ih:=vc_all n
  obtain⟨i1,i2,i3,i4⟩:=wf_of ih
  have a1:VC 44 (cLF (some (n+1))):=vc44 ih rfl
  have e1:=wf_mk (B:=(some (n+1),some n,some n,some n)) a1 i2 i3 i4
  have a2:VC 67 (cLN (some (n+1))):=vc67 e1 rfl
  have e2:=wf_mk (B:=(some (n+1),some (n+1),some n,some n)) a1 a2 i3 i4
  have a3:VC 96 (cLI (some (n+1))):=vc96 e2 rfl
  have e3:=wf_mk (B:=(some (n+1),some (n+1),some (n+1),some n)) a1 a2 a3 i4
  exact wf_mk a1 a2 a3 (vc66 e3 rfl)
theorem vcForm:VC 44 (cLF none):=by
 intro β args k r hr
 change cLF _ args k=some r at hr;unfold cLF at hr
 split at hr
 ·split at hr
  ·rename_i x f hf
   obtain⟨h0,hr⟩:=chkK_ok hr
   refine(wf_of (vc_all (f.dep+1))).1 β _ k r ?_
   simp only[cLF,hf]
   unfold chkK
   rw[if_pos ⟨h0.1,by simp⟩]
   exact hr
  ·cases hr
 ·cases hr
end Go.Sd
namespace Go.Sd
open Go Go.Cm Go.Proofs Go.Sc
set_option maxRecDepth 100000
namespace A57
noncomputable def X:Fx:=⟨Tryz.prog,Q0,16,2⟩
theorem start {β:Type} (xs:List D) (a:Int) (d:Int) (n:Int) (k:List TV→List TV→Option β):evalF Tryz.prog Q0 Tryz.f42 [.ob true [.ob true [.own true 4 xs,.d false 0 (.int .i64 a)],.d false 0 (.int .i64 d)],.d true 0 (.ifc (84:TypeId) (.int .i64 n))] k=if 0≤a then match xs[a.toNat]? with
   |some (.ag [D.int .i64 c2,D.str t3,D.int .i64 p4])=>k [.d true 0 (.ifc 114 (.pt 3 (.ag [D.int .i64 p4,D.ifc 84 (.int .i64 n)])))] [.ob true [.ob true [.own true 4 xs,.d false 0 (.int .i64 a)],.d false 0 (.int .i64 d)]]
   |x=>none else none:=by kernel_rfl
end A57
namespace A107
noncomputable def X:Fx:=⟨Tryz.prog,Q1,64,3⟩
theorem start {β:Type} (s:ByteArray) (o:ByteArray) (nm:ByteArray) (o2:ByteArray) (nm2:ByteArray) (ks:List D) (ks2:List D) (p:Int) (p2:Int) (k:List TV→List TV→Option β):evalF Tryz.prog Q1 Tryz.f94 [.d true 0 (.str s),.d true 5 (.ag [D.str o,D.str nm,D.sl 5 ks,D.int .i64 p]),.d true 5 (.ag [D.str o2,D.str nm2,D.sl 5 ks2,D.int .i64 p2])] k=k [.d true 5 (.ag [D.str s,D.str (ByteArray.mk #[]),D.sl 5 [D.ag [D.str o,D.str nm,D.sl 5 ks,D.int .i64 p],D.ag [D.str o2,D.str nm2,D.sl 5 ks2,D.int .i64 p2]],D.int .i64 p])] []:=by kernel_rfl
end A107
end Go.Sd
namespace Go.Sd
open Go Go.Cm Go.Proofs Go.Sc
set_option maxRecDepth 100000
namespace B108
  section
  variable (B:Bd)
noncomputable def X:Fx:=⟨Tryz.prog,QP B,48,2⟩
theorem start {β:Type} (xs:List D) (a:Int) (d:Int) (lv:Int) (k:List TV→List TV→Option β):evalF Tryz.prog (QP B) Tryz.f95 [.ob true [.ob true [.own true 4 xs,.d false 0 (.int .i64 a)],.d false 0 (.int .i64 d)],.d true 0 (.int .i64 lv)] k=if decide (lv>d)=true then if 0≤a then match xs[a.toNat]? with
   |some (.ag [D.int .i64 n4,D.str s5,D.int .i64 p6])=>k [.d false 5 (.ag [D.str (ByteArray.mk #[]),D.str (ByteArray.mk #[]),D.sl 5 [],D.int .i64 0]),.d true 0 (.ifc 114 (.pt 3 (.ag [D.int .i64 p6,D.ifc 84 (.int .i64 21)])))] [.ob true [.ob true [.own true 4 xs,.d false 0 (.int .i64 a)],.d false 0 (.int .i64 d)]]
   |x=>none else none else if 0≤a then match xs[a.toNat]? with
   |some (.ag [D.int .i64 c8,D.str t9,D.int .i64 p10])=>if(c8==3)=true then if 0≤a∧a<34359738368 then match xs[a.toNat]? with
    |some (.ag [D.int .i64 c14,D.str t15,D.int .i64 p16])=>if(!c14==0)=true then k [.d true 5 (.ag [D.str (ByteArray.mk #[108,97,98,101,108]),D.str t9,D.sl 5 [],D.int .i64 p10]),.d false 0 D.nili] [.ob true [.ob true [.own true 4 xs,.d false 0 (.int .i64 (a+1))],.d false 0 (.int .i64 d)]]else k [.d true 5 (.ag [D.str (ByteArray.mk #[108,97,98,101,108]),D.str t9,D.sl 5 [],D.int .i64 p10]),.d false 0 D.nili] [.ob true [.ob true [.own true 4 xs,.d false 0 (.int .i64 a)],.d false 0 (.int .i64 d)]]
    |x=>none else none else if 0≤a then match xs[a.toNat]? with
    |some (.ag [D.int .i64 c20,D.str t21,D.int .i64 n22])=>if((c20==1||c20==4)&&t21.toList==[116,114,117,101])=true then if((c20==1||c20==4)&&t21.toList==[116,114,117,101])=true then if 0≤a∧a<34359738368 then match xs[a.toNat]? with
     |some (.ag [D.int .i64 c26,D.str t27,D.int .i64 p28])=>if(!c26==0)=true then k [.d true 5 (.ag [D.str t9,D.str (ByteArray.mk #[]),D.sl 5 [],D.int .i64 p10]),.d false 0 D.nili] [.ob true [.ob true [.own true 4 xs,.d false 0 (.int .i64 (a+1))],.d false 0 (.int .i64 d)]]else k [.d true 5 (.ag [D.str t9,D.str (ByteArray.mk #[]),D.sl 5 [],D.int .i64 p10]),.d false 0 D.nili] [.ob true [.ob true [.own true 4 xs,.d false 0 (.int .i64 a)],.d false 0 (.int .i64 d)]]
     |x=>none else none else if 0≤a then match xs[a.toNat]? with
     |some (.ag [D.int .i64 c32,D.str t33,D.int .i64 n34])=>if((c32==1||c32==4)&&t33.toList==[33])=true then if((c32==1||c32==4)&&t33.toList==[33])=true then if 0≤a∧a<34359738368 then match xs[a.toNat]? with
      |some (.ag [D.int .i64 c38,D.str t39,D.int .i64 p40])=>if(!c38==0)=true then if okP xs (a+1) d (IntKind.wrap .i64 (lv+1)) B.ns then match pSingle xs (Int.toNat (d+1 - IntKind.wrap .i64 (lv+1))) (a+1)with
       |PR.ok op42 nm43 ks44 p45 a46=>k [.d true 5 (.ag [D.str t9,D.str (ByteArray.mk #[]),D.sl 5 [D.ag [D.str op42,D.str nm43,D.sl 5 ks44,D.int .i64 p45]],D.int .i64 p10]),.d false 0 D.nili] [.ob true [.ob true [.own true 4 xs,.d false 0 (.int .i64 a46)],.d false 0 (.int .i64 d)]]
       |PR.syn p50 a51=>k [.d false 5 (.ag [D.str (ByteArray.mk #[]),D.str (ByteArray.mk #[]),D.sl 5 [],D.int .i64 0]),.d false 0 (.ifc 114 (.pt 3 (.ag [D.int .i64 p50,D.ifc 84 (.int .i64 20)])))] [.ob true [.ob true [.own true 4 xs,.d false 0 (.int .i64 a51)],.d false 0 (.int .i64 d)]]
       |PR.deep p55 a56=>k [.d false 5 (.ag [D.str (ByteArray.mk #[]),D.str (ByteArray.mk #[]),D.sl 5 [],D.int .i64 0]),.d true 0 (.ifc 114 (.pt 3 (.ag [D.int .i64 p55,D.ifc 84 (.int .i64 21)])))] [.ob true [.ob true [.own true 4 xs,.d false 0 (.int .i64 a56)],.d false 0 (.int .i64 d)]]
       |PR.no=>none else none else if okP xs a d (IntKind.wrap .i64 (lv+1)) B.ns then match pSingle xs (Int.toNat (d+1 - IntKind.wrap .i64 (lv+1))) a with
       |PR.ok op61 nm62 ks63 p64 a65=>k [.d true 5 (.ag [D.str t9,D.str (ByteArray.mk #[]),D.sl 5 [D.ag [D.str op61,D.str nm62,D.sl 5 ks63,D.int .i64 p64]],D.int .i64 p10]),.d false 0 D.nili] [.ob true [.ob true [.own true 4 xs,.d false 0 (.int .i64 a65)],.d false 0 (.int .i64 d)]]
       |PR.syn p69 a70=>k [.d false 5 (.ag [D.str (ByteArray.mk #[]),D.str (ByteArray.mk #[]),D.sl 5 [],D.int .i64 0]),.d false 0 (.ifc 114 (.pt 3 (.ag [D.int .i64 p69,D.ifc 84 (.int .i64 20)])))] [.ob true [.ob true [.own true 4 xs,.d false 0 (.int .i64 a70)],.d false 0 (.int .i64 d)]]
       |PR.deep p74 a75=>k [.d false 5 (.ag [D.str (ByteArray.mk #[]),D.str (ByteArray.mk #[]),D.sl 5 [],D.int .i64 0]),.d true 0 (.ifc 114 (.pt 3 (.ag [D.int .i64 p74,D.ifc 84 (.int .i64 21)])))] [.ob true [.ob true [.own true 4 xs,.d false 0 (.int .i64 a75)],.d false 0 (.int .i64 d)]]
       |PR.no=>none else none
      |x=>none else none else if 0≤a∧a<34359738368 then match xs[a.toNat]? with
      |some (.ag [D.int .i64 c80,D.str t81,D.int .i64 p82])=>if((c80==1||c80==4)&&t81.toList==[40])=true then if okP xs (a+1) d (IntKind.wrap .i64 (lv+1)) B.ni then match pImply xs (Int.toNat (d+1 - IntKind.wrap .i64 (lv+1))) (a+1)with
       |PR.ok op86 nm87 ks88 p89 a90=>if 0≤a90∧a90<34359738368 then match xs[a90.toNat]? with
        |some (.ag [D.int .i64 c94,D.str t95,D.int .i64 p96])=>if((c94==1||c94==4)&&t95.toList==[41])=true then k [.d true 5 (.ag [D.str op86,D.str nm87,D.sl 5 ks88,D.int .i64 p10]),.d false 0 D.nili] [.ob true [.ob true [.own true 4 xs,.d false 0 (.int .i64 (a90+1))],.d false 0 (.int .i64 d)]]else k [.d false 5 (.ag [D.str (ByteArray.mk #[]),D.str (ByteArray.mk #[]),D.sl 5 [],D.int .i64 0]),.d false 0 (.ifc 114 (.pt 3 (.ag [D.int .i64 p96,D.ifc 84 (.int .i64 20)])))] [.ob true [.ob true [.own true 4 xs,.d false 0 (.int .i64 a90)],.d false 0 (.int .i64 d)]]
        |x=>none else none
       |PR.syn p104 a105=>k [.d false 5 (.ag [D.str (ByteArray.mk #[]),D.str (ByteArray.mk #[]),D.sl 5 [],D.int .i64 0]),.d false 0 (.ifc 114 (.pt 3 (.ag [D.int .i64 p104,D.ifc 84 (.int .i64 20)])))] [.ob true [.ob true [.own true 4 xs,.d false 0 (.int .i64 a105)],.d false 0 (.int .i64 d)]]
       |PR.deep p109 a110=>k [.d false 5 (.ag [D.str (ByteArray.mk #[]),D.str (ByteArray.mk #[]),D.sl 5 [],D.int .i64 0]),.d true 0 (.ifc 114 (.pt 3 (.ag [D.int .i64 p109,D.ifc 84 (.int .i64 21)])))] [.ob true [.ob true [.own true 4 xs,.d false 0 (.int .i64 a110)],.d false 0 (.int .i64 d)]]
       |PR.no=>none else none else k [.d false 5 (.ag [D.str (ByteArray.mk #[]),D.str (ByteArray.mk #[]),D.sl 5 [],D.int .i64 0]),.d false 0 (.ifc 114 (.pt 3 (.ag [D.int .i64 p82,D.ifc 84 (.int .i64 20)])))] [.ob true [.ob true [.own true 4 xs,.d false 0 (.int .i64 a)],.d false 0 (.int .i64 d)]]
      |x=>none else none else if 0≤a then match xs[a.toNat]? with
      |some (.ag [D.int .i64 c118,D.str t119,D.int .i64 n120])=>if((c118==1||c118==4)&&t119.toList==[88])=true then if((c118==1||c118==4)&&t119.toList==[88])=true then if 0≤a∧a<34359738368 then match xs[a.toNat]? with
       |some (.ag [D.int .i64 c124,D.str t125,D.int .i64 p126])=>if(!c124==0)=true then if okP xs (a+1) d (IntKind.wrap .i64 (lv+1)) B.ns then match pSingle xs (Int.toNat (d+1 - IntKind.wrap .i64 (lv+1))) (a+1)with
        |PR.ok op128 nm129 ks130 p131 a132=>k [.d true 5 (.ag [D.str t9,D.str (ByteArray.mk #[]),D.sl 5 [D.ag [D.str op128,D.str nm129,D.sl 5 ks130,D.int .i64 p131]],D.int .i64 p10]),.d false 0 D.nili] [.ob true [.ob true [.own true 4 xs,.d false 0 (.int .i64 a132)],.d false 0 (.int .i64 d)]]
        |PR.syn p136 a137=>k [.d false 5 (.ag [D.str (ByteArray.mk #[]),D.str (ByteArray.mk #[]),D.sl 5 [],D.int .i64 0]),.d false 0 (.ifc 114 (.pt 3 (.ag [D.int .i64 p136,D.ifc 84 (.int .i64 20)])))] [.ob true [.ob true [.own true 4 xs,.d false 0 (.int .i64 a137)],.d false 0 (.int .i64 d)]]
        |PR.deep p141 a142=>k [.d false 5 (.ag [D.str (ByteArray.mk #[]),D.str (ByteArray.mk #[]),D.sl 5 [],D.int .i64 0]),.d true 0 (.ifc 114 (.pt 3 (.ag [D.int .i64 p141,D.ifc 84 (.int .i64 21)])))] [.ob true [.ob true [.own true 4 xs,.d false 0 (.int .i64 a142)],.d false 0 (.int .i64 d)]]
        |PR.no=>none else none else if okP xs a d (IntKind.wrap .i64 (lv+1)) B.ns then match pSingle xs (Int.toNat (d+1 - IntKind.wrap .i64 (lv+1))) a with
        |PR.ok op147 nm148 ks149 p150 a151=>k [.d true 5 (.ag [D.str t9,D.str (ByteArray.mk #[]),D.sl 5 [D.ag [D.str op147,D.str nm148,D.sl 5 ks149,D.int .i64 p150]],D.int .i64 p10]),.d false 0 D.nili] [.ob true [.ob true [.own true 4 xs,.d false 0 (.int .i64 a151)],.d false 0 (.int .i64 d)]]
        |PR.syn p155 a156=>k [.d false 5 (.ag [D.str (ByteArray.mk #[]),D.str (ByteArray.mk #[]),D.sl 5 [],D.int .i64 0]),.d false 0 (.ifc 114 (.pt 3 (.ag [D.int .i64 p155,D.ifc 84 (.int .i64 20)])))] [.ob true [.ob true [.own true 4 xs,.d false 0 (.int .i64 a156)],.d false 0 (.int .i64 d)]]
        |PR.deep p160 a161=>k [.d false 5 (.ag [D.str (ByteArray.mk #[]),D.str (ByteArray.mk #[]),D.sl 5 [],D.int .i64 0]),.d true 0 (.ifc 114 (.pt 3 (.ag [D.int .i64 p160,D.ifc 84 (.int .i64 21)])))] [.ob true [.ob true [.own true 4 xs,.d false 0 (.int .i64 a161)],.d false 0 (.int .i64 d)]]
        |PR.no=>none else none
       |x=>none else none else if 0≤a∧a<34359738368 then match xs[a.toNat]? with
       |some (.ag [D.int .i64 c166,D.str t167,D.int .i64 p168])=>if((c166==1||c166==4)&&t167.toList==[40])=true then if okP xs (a+1) d (IntKind.wrap .i64 (lv+1)) B.ni then match pImply xs (Int.toNat (d+1 - IntKind.wrap .i64 (lv+1))) (a+1)with
        |PR.ok op172 nm173 ks174 p175 a176=>if 0≤a176∧a176<34359738368 then match xs[a176.toNat]? with
         |some (.ag [D.int .i64 c180,D.str t181,D.int .i64 p182])=>if((c180==1||c180==4)&&t181.toList==[41])=true then k [.d true 5 (.ag [D.str op172,D.str nm173,D.sl 5 ks174,D.int .i64 p10]),.d false 0 D.nili] [.ob true [.ob true [.own true 4 xs,.d false 0 (.int .i64 (a176+1))],.d false 0 (.int .i64 d)]]else k [.d false 5 (.ag [D.str (ByteArray.mk #[]),D.str (ByteArray.mk #[]),D.sl 5 [],D.int .i64 0]),.d false 0 (.ifc 114 (.pt 3 (.ag [D.int .i64 p182,D.ifc 84 (.int .i64 20)])))] [.ob true [.ob true [.own true 4 xs,.d false 0 (.int .i64 a176)],.d false 0 (.int .i64 d)]]
         |x=>none else none
        |PR.syn p190 a191=>k [.d false 5 (.ag [D.str (ByteArray.mk #[]),D.str (ByteArray.mk #[]),D.sl 5 [],D.int .i64 0]),.d false 0 (.ifc 114 (.pt 3 (.ag [D.int .i64 p190,D.ifc 84 (.int .i64 20)])))] [.ob true [.ob true [.own true 4 xs,.d false 0 (.int .i64 a191)],.d false 0 (.int .i64 d)]]
        |PR.deep p195 a196=>k [.d false 5 (.ag [D.str (ByteArray.mk #[]),D.str (ByteArray.mk #[]),D.sl 5 [],D.int .i64 0]),.d true 0 (.ifc 114 (.pt 3 (.ag [D.int .i64 p195,D.ifc 84 (.int .i64 21)])))] [.ob true [.ob true [.own true 4 xs,.d false 0 (.int .i64 a196)],.d false 0 (.int .i64 d)]]
        |PR.no=>none else none else k [.d false 5 (.ag [D.str (ByteArray.mk #[]),D.str (ByteArray.mk #[]),D.sl 5 [],D.int .i64 0]),.d false 0 (.ifc 114 (.pt 3 (.ag [D.int .i64 p168,D.ifc 84 (.int .i64 20)])))] [.ob true [.ob true [.own true 4 xs,.d false 0 (.int .i64 a)],.d false 0 (.int .i64 d)]]
       |x=>none else none else if 0≤a then match xs[a.toNat]? with
       |some (.ag [D.int .i64 c204,D.str t205,D.int .i64 n206])=>if((c204==1||c204==4)&&t205.toList==[70])=true then if((c204==1||c204==4)&&t205.toList==[70])=true then if 0≤a∧a<34359738368 then match xs[a.toNat]? with
        |some (.ag [D.int .i64 c210,D.str t211,D.int .i64 p212])=>if(!c210==0)=true then if okP xs (a+1) d (IntKind.wrap .i64 (lv+1)) B.ns then match pSingle xs (Int.toNat (d+1 - IntKind.wrap .i64 (lv+1))) (a+1)with
         |PR.ok op214 nm215 ks216 p217 a218=>k [.d true 5 (.ag [D.str t9,D.str (ByteArray.mk #[]),D.sl 5 [D.ag [D.str op214,D.str nm215,D.sl 5 ks216,D.int .i64 p217]],D.int .i64 p10]),.d false 0 D.nili] [.ob true [.ob true [.own true 4 xs,.d false 0 (.int .i64 a218)],.d false 0 (.int .i64 d)]]
         |PR.syn p222 a223=>k [.d false 5 (.ag [D.str (ByteArray.mk #[]),D.str (ByteArray.mk #[]),D.sl 5 [],D.int .i64 0]),.d false 0 (.ifc 114 (.pt 3 (.ag [D.int .i64 p222,D.ifc 84 (.int .i64 20)])))] [.ob true [.ob true [.own true 4 xs,.d false 0 (.int .i64 a223)],.d false 0 (.int .i64 d)]]
         |PR.deep p227 a228=>k [.d false 5 (.ag [D.str (ByteArray.mk #[]),D.str (ByteArray.mk #[]),D.sl 5 [],D.int .i64 0]),.d true 0 (.ifc 114 (.pt 3 (.ag [D.int .i64 p227,D.ifc 84 (.int .i64 21)])))] [.ob true [.ob true [.own true 4 xs,.d false 0 (.int .i64 a228)],.d false 0 (.int .i64 d)]]
         |PR.no=>none else none else if okP xs a d (IntKind.wrap .i64 (lv+1)) B.ns then match pSingle xs (Int.toNat (d+1 - IntKind.wrap .i64 (lv+1))) a with
         |PR.ok op233 nm234 ks235 p236 a237=>k [.d true 5 (.ag [D.str t9,D.str (ByteArray.mk #[]),D.sl 5 [D.ag [D.str op233,D.str nm234,D.sl 5 ks235,D.int .i64 p236]],D.int .i64 p10]),.d false 0 D.nili] [.ob true [.ob true [.own true 4 xs,.d false 0 (.int .i64 a237)],.d false 0 (.int .i64 d)]]
         |PR.syn p241 a242=>k [.d false 5 (.ag [D.str (ByteArray.mk #[]),D.str (ByteArray.mk #[]),D.sl 5 [],D.int .i64 0]),.d false 0 (.ifc 114 (.pt 3 (.ag [D.int .i64 p241,D.ifc 84 (.int .i64 20)])))] [.ob true [.ob true [.own true 4 xs,.d false 0 (.int .i64 a242)],.d false 0 (.int .i64 d)]]
         |PR.deep p246 a247=>k [.d false 5 (.ag [D.str (ByteArray.mk #[]),D.str (ByteArray.mk #[]),D.sl 5 [],D.int .i64 0]),.d true 0 (.ifc 114 (.pt 3 (.ag [D.int .i64 p246,D.ifc 84 (.int .i64 21)])))] [.ob true [.ob true [.own true 4 xs,.d false 0 (.int .i64 a247)],.d false 0 (.int .i64 d)]]
         |PR.no=>none else none
        |x=>none else none else if 0≤a∧a<34359738368 then match xs[a.toNat]? with
        |some (.ag [D.int .i64 c252,D.str t253,D.int .i64 p254])=>if((c252==1||c252==4)&&t253.toList==[40])=true then if okP xs (a+1) d (IntKind.wrap .i64 (lv+1)) B.ni then match pImply xs (Int.toNat (d+1 - IntKind.wrap .i64 (lv+1))) (a+1)with
         |PR.ok op258 nm259 ks260 p261 a262=>if 0≤a262∧a262<34359738368 then match xs[a262.toNat]? with
          |some (.ag [D.int .i64 c266,D.str t267,D.int .i64 p268])=>if((c266==1||c266==4)&&t267.toList==[41])=true then k [.d true 5 (.ag [D.str op258,D.str nm259,D.sl 5 ks260,D.int .i64 p10]),.d false 0 D.nili] [.ob true [.ob true [.own true 4 xs,.d false 0 (.int .i64 (a262+1))],.d false 0 (.int .i64 d)]]else k [.d false 5 (.ag [D.str (ByteArray.mk #[]),D.str (ByteArray.mk #[]),D.sl 5 [],D.int .i64 0]),.d false 0 (.ifc 114 (.pt 3 (.ag [D.int .i64 p268,D.ifc 84 (.int .i64 20)])))] [.ob true [.ob true [.own true 4 xs,.d false 0 (.int .i64 a262)],.d false 0 (.int .i64 d)]]
          |x=>none else none
         |PR.syn p276 a277=>k [.d false 5 (.ag [D.str (ByteArray.mk #[]),D.str (ByteArray.mk #[]),D.sl 5 [],D.int .i64 0]),.d false 0 (.ifc 114 (.pt 3 (.ag [D.int .i64 p276,D.ifc 84 (.int .i64 20)])))] [.ob true [.ob true [.own true 4 xs,.d false 0 (.int .i64 a277)],.d false 0 (.int .i64 d)]]
         |PR.deep p281 a282=>k [.d false 5 (.ag [D.str (ByteArray.mk #[]),D.str (ByteArray.mk #[]),D.sl 5 [],D.int .i64 0]),.d true 0 (.ifc 114 (.pt 3 (.ag [D.int .i64 p281,D.ifc 84 (.int .i64 21)])))] [.ob true [.ob true [.own true 4 xs,.d false 0 (.int .i64 a282)],.d false 0 (.int .i64 d)]]
         |PR.no=>none else none else k [.d false 5 (.ag [D.str (ByteArray.mk #[]),D.str (ByteArray.mk #[]),D.sl 5 [],D.int .i64 0]),.d false 0 (.ifc 114 (.pt 3 (.ag [D.int .i64 p254,D.ifc 84 (.int .i64 20)])))] [.ob true [.ob true [.own true 4 xs,.d false 0 (.int .i64 a)],.d false 0 (.int .i64 d)]]
        |x=>none else none else if 0≤a then match xs[a.toNat]? with
        |some (.ag [D.int .i64 c290,D.str t291,D.int .i64 n292])=>if((c290==1||c290==4)&&t291.toList==[71])=true then if 0≤a∧a<34359738368 then match xs[a.toNat]? with
         |some (.ag [D.int .i64 c295,D.str t296,D.int .i64 p297])=>if(!c295==0)=true then if okP xs (a+1) d (IntKind.wrap .i64 (lv+1)) B.ns then match pSingle xs (Int.toNat (d+1 - IntKind.wrap .i64 (lv+1))) (a+1)with
          |PR.ok op299 nm300 ks301 p302 a303=>k [.d true 5 (.ag [D.str t9,D.str (ByteArray.mk #[]),D.sl 5 [D.ag [D.str op299,D.str nm300,D.sl 5 ks301,D.int .i64 p302]],D.int .i64 p10]),.d false 0 D.nili] [.ob true [.ob true [.own true 4 xs,.d false 0 (.int .i64 a303)],.d false 0 (.int .i64 d)]]
          |PR.syn p307 a308=>k [.d false 5 (.ag [D.str (ByteArray.mk #[]),D.str (ByteArray.mk #[]),D.sl 5 [],D.int .i64 0]),.d false 0 (.ifc 114 (.pt 3 (.ag [D.int .i64 p307,D.ifc 84 (.int .i64 20)])))] [.ob true [.ob true [.own true 4 xs,.d false 0 (.int .i64 a308)],.d false 0 (.int .i64 d)]]
          |PR.deep p312 a313=>k [.d false 5 (.ag [D.str (ByteArray.mk #[]),D.str (ByteArray.mk #[]),D.sl 5 [],D.int .i64 0]),.d true 0 (.ifc 114 (.pt 3 (.ag [D.int .i64 p312,D.ifc 84 (.int .i64 21)])))] [.ob true [.ob true [.own true 4 xs,.d false 0 (.int .i64 a313)],.d false 0 (.int .i64 d)]]
          |PR.no=>none else none else if okP xs a d (IntKind.wrap .i64 (lv+1)) B.ns then match pSingle xs (Int.toNat (d+1 - IntKind.wrap .i64 (lv+1))) a with
          |PR.ok op318 nm319 ks320 p321 a322=>k [.d true 5 (.ag [D.str t9,D.str (ByteArray.mk #[]),D.sl 5 [D.ag [D.str op318,D.str nm319,D.sl 5 ks320,D.int .i64 p321]],D.int .i64 p10]),.d false 0 D.nili] [.ob true [.ob true [.own true 4 xs,.d false 0 (.int .i64 a322)],.d false 0 (.int .i64 d)]]
          |PR.syn p326 a327=>k [.d false 5 (.ag [D.str (ByteArray.mk #[]),D.str (ByteArray.mk #[]),D.sl 5 [],D.int .i64 0]),.d false 0 (.ifc 114 (.pt 3 (.ag [D.int .i64 p326,D.ifc 84 (.int .i64 20)])))] [.ob true [.ob true [.own true 4 xs,.d false 0 (.int .i64 a327)],.d false 0 (.int .i64 d)]]
          |PR.deep p331 a332=>k [.d false 5 (.ag [D.str (ByteArray.mk #[]),D.str (ByteArray.mk #[]),D.sl 5 [],D.int .i64 0]),.d true 0 (.ifc 114 (.pt 3 (.ag [D.int .i64 p331,D.ifc 84 (.int .i64 21)])))] [.ob true [.ob true [.own true 4 xs,.d false 0 (.int .i64 a332)],.d false 0 (.int .i64 d)]]
          |PR.no=>none else none
         |x=>none else none else if 0≤a∧a<34359738368 then match xs[a.toNat]? with
         |some (.ag [D.int .i64 c337,D.str t338,D.int .i64 p339])=>if((c337==1||c337==4)&&t338.toList==[40])=true then if okP xs (a+1) d (IntKind.wrap .i64 (lv+1)) B.ni then match pImply xs (Int.toNat (d+1 - IntKind.wrap .i64 (lv+1))) (a+1)with
          |PR.ok op343 nm344 ks345 p346 a347=>if 0≤a347∧a347<34359738368 then match xs[a347.toNat]? with
           |some (.ag [D.int .i64 c351,D.str t352,D.int .i64 p353])=>if((c351==1||c351==4)&&t352.toList==[41])=true then k [.d true 5 (.ag [D.str op343,D.str nm344,D.sl 5 ks345,D.int .i64 p10]),.d false 0 D.nili] [.ob true [.ob true [.own true 4 xs,.d false 0 (.int .i64 (a347+1))],.d false 0 (.int .i64 d)]]else k [.d false 5 (.ag [D.str (ByteArray.mk #[]),D.str (ByteArray.mk #[]),D.sl 5 [],D.int .i64 0]),.d false 0 (.ifc 114 (.pt 3 (.ag [D.int .i64 p353,D.ifc 84 (.int .i64 20)])))] [.ob true [.ob true [.own true 4 xs,.d false 0 (.int .i64 a347)],.d false 0 (.int .i64 d)]]
           |x=>none else none
          |PR.syn p361 a362=>k [.d false 5 (.ag [D.str (ByteArray.mk #[]),D.str (ByteArray.mk #[]),D.sl 5 [],D.int .i64 0]),.d false 0 (.ifc 114 (.pt 3 (.ag [D.int .i64 p361,D.ifc 84 (.int .i64 20)])))] [.ob true [.ob true [.own true 4 xs,.d false 0 (.int .i64 a362)],.d false 0 (.int .i64 d)]]
          |PR.deep p366 a367=>k [.d false 5 (.ag [D.str (ByteArray.mk #[]),D.str (ByteArray.mk #[]),D.sl 5 [],D.int .i64 0]),.d true 0 (.ifc 114 (.pt 3 (.ag [D.int .i64 p366,D.ifc 84 (.int .i64 21)])))] [.ob true [.ob true [.own true 4 xs,.d false 0 (.int .i64 a367)],.d false 0 (.int .i64 d)]]
          |PR.no=>none else none else k [.d false 5 (.ag [D.str (ByteArray.mk #[]),D.str (ByteArray.mk #[]),D.sl 5 [],D.int .i64 0]),.d false 0 (.ifc 114 (.pt 3 (.ag [D.int .i64 p339,D.ifc 84 (.int .i64 20)])))] [.ob true [.ob true [.own true 4 xs,.d false 0 (.int .i64 a)],.d false 0 (.int .i64 d)]]
         |x=>none else none
        |x=>none else none
       |x=>none else none
      |x=>none else none
     |x=>none else none else if 0≤a then match xs[a.toNat]? with
     |some (.ag [D.int .i64 c375,D.str t376,D.int .i64 n377])=>if((c375==1||c375==4)&&t376.toList==[102,97,108,115,101])=true then if 0≤a∧a<34359738368 then match xs[a.toNat]? with
      |some (.ag [D.int .i64 c380,D.str t381,D.int .i64 p382])=>if(!c380==0)=true then k [.d true 5 (.ag [D.str t9,D.str (ByteArray.mk #[]),D.sl 5 [],D.int .i64 p10]),.d false 0 D.nili] [.ob true [.ob true [.own true 4 xs,.d false 0 (.int .i64 (a+1))],.d false 0 (.int .i64 d)]]else k [.d true 5 (.ag [D.str t9,D.str (ByteArray.mk #[]),D.sl 5 [],D.int .i64 p10]),.d false 0 D.nili] [.ob true [.ob true [.own true 4 xs,.d false 0 (.int .i64 a)],.d false 0 (.int .i64 d)]]
      |x=>none else none else if 0≤a then match xs[a.toNat]? with
      |some (.ag [D.int .i64 c386,D.str t387,D.int .i64 n388])=>if((c386==1||c386==4)&&t387.toList==[33])=true then if((c386==1||c386==4)&&t387.toList==[33])=true then if 0≤a∧a<34359738368 then match xs[a.toNat]? with
       |some (.ag [D.int .i64 c392,D.str t393,D.int .i64 p394])=>if(!c392==0)=true then if okP xs (a+1) d (IntKind.wrap .i64 (lv+1)) B.ns then match pSingle xs (Int.toNat (d+1 - IntKind.wrap .i64 (lv+1))) (a+1)with
        |PR.ok op396 nm397 ks398 p399 a400=>k [.d true 5 (.ag [D.str t9,D.str (ByteArray.mk #[]),D.sl 5 [D.ag [D.str op396,D.str nm397,D.sl 5 ks398,D.int .i64 p399]],D.int .i64 p10]),.d false 0 D.nili] [.ob true [.ob true [.own true 4 xs,.d false 0 (.int .i64 a400)],.d false 0 (.int .i64 d)]]
        |PR.syn p404 a405=>k [.d false 5 (.ag [D.str (ByteArray.mk #[]),D.str (ByteArray.mk #[]),D.sl 5 [],D.int .i64 0]),.d false 0 (.ifc 114 (.pt 3 (.ag [D.int .i64 p404,D.ifc 84 (.int .i64 20)])))] [.ob true [.ob true [.own true 4 xs,.d false 0 (.int .i64 a405)],.d false 0 (.int .i64 d)]]
        |PR.deep p409 a410=>k [.d false 5 (.ag [D.str (ByteArray.mk #[]),D.str (ByteArray.mk #[]),D.sl 5 [],D.int .i64 0]),.d true 0 (.ifc 114 (.pt 3 (.ag [D.int .i64 p409,D.ifc 84 (.int .i64 21)])))] [.ob true [.ob true [.own true 4 xs,.d false 0 (.int .i64 a410)],.d false 0 (.int .i64 d)]]
        |PR.no=>none else none else if okP xs a d (IntKind.wrap .i64 (lv+1)) B.ns then match pSingle xs (Int.toNat (d+1 - IntKind.wrap .i64 (lv+1))) a with
        |PR.ok op415 nm416 ks417 p418 a419=>k [.d true 5 (.ag [D.str t9,D.str (ByteArray.mk #[]),D.sl 5 [D.ag [D.str op415,D.str nm416,D.sl 5 ks417,D.int .i64 p418]],D.int .i64 p10]),.d false 0 D.nili] [.ob true [.ob true [.own true 4 xs,.d false 0 (.int .i64 a419)],.d false 0 (.int .i64 d)]]
        |PR.syn p423 a424=>k [.d false 5 (.ag [D.str (ByteArray.mk #[]),D.str (ByteArray.mk #[]),D.sl 5 [],D.int .i64 0]),.d false 0 (.ifc 114 (.pt 3 (.ag [D.int .i64 p423,D.ifc 84 (.int .i64 20)])))] [.ob true [.ob true [.own true 4 xs,.d false 0 (.int .i64 a424)],.d false 0 (.int .i64 d)]]
        |PR.deep p428 a429=>k [.d false 5 (.ag [D.str (ByteArray.mk #[]),D.str (ByteArray.mk #[]),D.sl 5 [],D.int .i64 0]),.d true 0 (.ifc 114 (.pt 3 (.ag [D.int .i64 p428,D.ifc 84 (.int .i64 21)])))] [.ob true [.ob true [.own true 4 xs,.d false 0 (.int .i64 a429)],.d false 0 (.int .i64 d)]]
        |PR.no=>none else none
       |x=>none else none else if 0≤a∧a<34359738368 then match xs[a.toNat]? with
       |some (.ag [D.int .i64 c434,D.str t435,D.int .i64 p436])=>if((c434==1||c434==4)&&t435.toList==[40])=true then if okP xs (a+1) d (IntKind.wrap .i64 (lv+1)) B.ni then match pImply xs (Int.toNat (d+1 - IntKind.wrap .i64 (lv+1))) (a+1)with
        |PR.ok op440 nm441 ks442 p443 a444=>if 0≤a444∧a444<34359738368 then match xs[a444.toNat]? with
         |some (.ag [D.int .i64 c448,D.str t449,D.int .i64 p450])=>if((c448==1||c448==4)&&t449.toList==[41])=true then k [.d true 5 (.ag [D.str op440,D.str nm441,D.sl 5 ks442,D.int .i64 p10]),.d false 0 D.nili] [.ob true [.ob true [.own true 4 xs,.d false 0 (.int .i64 (a444+1))],.d false 0 (.int .i64 d)]]else k [.d false 5 (.ag [D.str (ByteArray.mk #[]),D.str (ByteArray.mk #[]),D.sl 5 [],D.int .i64 0]),.d false 0 (.ifc 114 (.pt 3 (.ag [D.int .i64 p450,D.ifc 84 (.int .i64 20)])))] [.ob true [.ob true [.own true 4 xs,.d false 0 (.int .i64 a444)],.d false 0 (.int .i64 d)]]
         |x=>none else none
        |PR.syn p458 a459=>k [.d false 5 (.ag [D.str (ByteArray.mk #[]),D.str (ByteArray.mk #[]),D.sl 5 [],D.int .i64 0]),.d false 0 (.ifc 114 (.pt 3 (.ag [D.int .i64 p458,D.ifc 84 (.int .i64 20)])))] [.ob true [.ob true [.own true 4 xs,.d false 0 (.int .i64 a459)],.d false 0 (.int .i64 d)]]
        |PR.deep p463 a464=>k [.d false 5 (.ag [D.str (ByteArray.mk #[]),D.str (ByteArray.mk #[]),D.sl 5 [],D.int .i64 0]),.d true 0 (.ifc 114 (.pt 3 (.ag [D.int .i64 p463,D.ifc 84 (.int .i64 21)])))] [.ob true [.ob true [.own true 4 xs,.d false 0 (.int .i64 a464)],.d false 0 (.int .i64 d)]]
        |PR.no=>none else none else k [.d false 5 (.ag [D.str (ByteArray.mk #[]),D.str (ByteArray.mk #[]),D.sl 5 [],D.int .i64 0]),.d false 0 (.ifc 114 (.pt 3 (.ag [D.int .i64 p436,D.ifc 84 (.int .i64 20)])))] [.ob true [.ob true [.own true 4 xs,.d false 0 (.int .i64 a)],.d false 0 (.int .i64 d)]]
       |x=>none else none else if 0≤a then match xs[a.toNat]? with
       |some (.ag [D.int .i64 c472,D.str t473,D.int .i64 n474])=>if((c472==1||c472==4)&&t473.toList==[88])=true then if((c472==1||c472==4)&&t473.toList==[88])=true then if 0≤a∧a<34359738368 then match xs[a.toNat]? with
        |some (.ag [D.int .i64 c478,D.str t479,D.int .i64 p480])=>if(!c478==0)=true then if okP xs (a+1) d (IntKind.wrap .i64 (lv+1)) B.ns then match pSingle xs (Int.toNat (d+1 - IntKind.wrap .i64 (lv+1))) (a+1)with
         |PR.ok op482 nm483 ks484 p485 a486=>k [.d true 5 (.ag [D.str t9,D.str (ByteArray.mk #[]),D.sl 5 [D.ag [D.str op482,D.str nm483,D.sl 5 ks484,D.int .i64 p485]],D.int .i64 p10]),.d false 0 D.nili] [.ob true [.ob true [.own true 4 xs,.d false 0 (.int .i64 a486)],.d false 0 (.int .i64 d)]]
         |PR.syn p490 a491=>k [.d false 5 (.ag [D.str (ByteArray.mk #[]),D.str (ByteArray.mk #[]),D.sl 5 [],D.int .i64 0]),.d false 0 (.ifc 114 (.pt 3 (.ag [D.int .i64 p490,D.ifc 84 (.int .i64 20)])))] [.ob true [.ob true [.own true 4 xs,.d false 0 (.int .i64 a491)],.d false 0 (.int .i64 d)]]
         |PR.deep p495 a496=>k [.d false 5 (.ag [D.str (ByteArray.mk #[]),D.str (ByteArray.mk #[]),D.sl 5 [],D.int .i64 0]),.d true 0 (.ifc 114 (.pt 3 (.ag [D.int .i64 p495,D.ifc 84 (.int .i64 21)])))] [.ob true [.ob true [.own true 4 xs,.d false 0 (.int .i64 a496)],.d false 0 (.int .i64 d)]]
         |PR.no=>none else none else if okP xs a d (IntKind.wrap .i64 (lv+1)) B.ns then match pSingle xs (Int.toNat (d+1 - IntKind.wrap .i64 (lv+1))) a with
         |PR.ok op501 nm502 ks503 p504 a505=>k [.d true 5 (.ag [D.str t9,D.str (ByteArray.mk #[]),D.sl 5 [D.ag [D.str op501,D.str nm502,D.sl 5 ks503,D.int .i64 p504]],D.int .i64 p10]),.d false 0 D.nili] [.ob true [.ob true [.own true 4 xs,.d false 0 (.int .i64 a505)],.d false 0 (.int .i64 d)]]
         |PR.syn p509 a510=>k [.d false 5 (.ag [D.str (ByteArray.mk #[]),D.str (ByteArray.mk #[]),D.sl 5 [],D.int .i64 0]),.d false 0 (.ifc 114 (.pt 3 (.ag [D.int .i64 p509,D.ifc 84 (.int .i64 20)])))] [.ob true [.ob true [.own true 4 xs,.d false 0 (.int .i64 a510)],.d false 0 (.int .i64 d)]]
         |PR.deep p514 a515=>k [.d false 5 (.ag [D.str (ByteArray.mk #[]),D.str (ByteArray.mk #[]),D.sl 5 [],D.int .i64 0]),.d true 0 (.ifc 114 (.pt 3 (.ag [D.int .i64 p514,D.ifc 84 (.int .i64 21)])))] [.ob true [.ob true [.own true 4 xs,.d false 0 (.int .i64 a515)],.d false 0 (.int .i64 d)]]
         |PR.no=>none else none
        |x=>none else none else if 0≤a∧a<34359738368 then match xs[a.toNat]? with
        |some (.ag [D.int .i64 c520,D.str t521,D.int .i64 p522])=>if((c520==1||c520==4)&&t521.toList==[40])=true then if okP xs (a+1) d (IntKind.wrap .i64 (lv+1)) B.ni then match pImply xs (Int.toNat (d+1 - IntKind.wrap .i64 (lv+1))) (a+1)with
         |PR.ok op526 nm527 ks528 p529 a530=>if 0≤a530∧a530<34359738368 then match xs[a530.toNat]? with
          |some (.ag [D.int .i64 c534,D.str t535,D.int .i64 p536])=>if((c534==1||c534==4)&&t535.toList==[41])=true then k [.d true 5 (.ag [D.str op526,D.str nm527,D.sl 5 ks528,D.int .i64 p10]),.d false 0 D.nili] [.ob true [.ob true [.own true 4 xs,.d false 0 (.int .i64 (a530+1))],.d false 0 (.int .i64 d)]]else k [.d false 5 (.ag [D.str (ByteArray.mk #[]),D.str (ByteArray.mk #[]),D.sl 5 [],D.int .i64 0]),.d false 0 (.ifc 114 (.pt 3 (.ag [D.int .i64 p536,D.ifc 84 (.int .i64 20)])))] [.ob true [.ob true [.own true 4 xs,.d false 0 (.int .i64 a530)],.d false 0 (.int .i64 d)]]
          |x=>none else none
         |PR.syn p544 a545=>k [.d false 5 (.ag [D.str (ByteArray.mk #[]),D.str (ByteArray.mk #[]),D.sl 5 [],D.int .i64 0]),.d false 0 (.ifc 114 (.pt 3 (.ag [D.int .i64 p544,D.ifc 84 (.int .i64 20)])))] [.ob true [.ob true [.own true 4 xs,.d false 0 (.int .i64 a545)],.d false 0 (.int .i64 d)]]
         |PR.deep p549 a550=>k [.d false 5 (.ag [D.str (ByteArray.mk #[]),D.str (ByteArray.mk #[]),D.sl 5 [],D.int .i64 0]),.d true 0 (.ifc 114 (.pt 3 (.ag [D.int .i64 p549,D.ifc 84 (.int .i64 21)])))] [.ob true [.ob true [.own true 4 xs,.d false 0 (.int .i64 a550)],.d false 0 (.int .i64 d)]]
         |PR.no=>none else none else k [.d false 5 (.ag [D.str (ByteArray.mk #[]),D.str (ByteArray.mk #[]),D.sl 5 [],D.int .i64 0]),.d false 0 (.ifc 114 (.pt 3 (.ag [D.int .i64 p522,D.ifc 84 (.int .i64 20)])))] [.ob true [.ob true [.own true 4 xs,.d false 0 (.int .i64 a)],.d false 0 (.int .i64 d)]]
        |x=>none else none else if 0≤a then match xs[a.toNat]? with
        |some (.ag [D.int .i64 c558,D.str t559,D.int .i64 n560])=>if((c558==1||c558==4)&&t559.toList==[70])=true then if((c558==1||c558==4)&&t559.toList==[70])=true then if 0≤a∧a<34359738368 then match xs[a.toNat]? with
         |some (.ag [D.int .i64 c564,D.str t565,D.int .i64 p566])=>if(!c564==0)=true then if okP xs (a+1) d (IntKind.wrap .i64 (lv+1)) B.ns then match pSingle xs (Int.toNat (d+1 - IntKind.wrap .i64 (lv+1))) (a+1)with
          |PR.ok op568 nm569 ks570 p571 a572=>k [.d true 5 (.ag [D.str t9,D.str (ByteArray.mk #[]),D.sl 5 [D.ag [D.str op568,D.str nm569,D.sl 5 ks570,D.int .i64 p571]],D.int .i64 p10]),.d false 0 D.nili] [.ob true [.ob true [.own true 4 xs,.d false 0 (.int .i64 a572)],.d false 0 (.int .i64 d)]]
          |PR.syn p576 a577=>k [.d false 5 (.ag [D.str (ByteArray.mk #[]),D.str (ByteArray.mk #[]),D.sl 5 [],D.int .i64 0]),.d false 0 (.ifc 114 (.pt 3 (.ag [D.int .i64 p576,D.ifc 84 (.int .i64 20)])))] [.ob true [.ob true [.own true 4 xs,.d false 0 (.int .i64 a577)],.d false 0 (.int .i64 d)]]
          |PR.deep p581 a582=>k [.d false 5 (.ag [D.str (ByteArray.mk #[]),D.str (ByteArray.mk #[]),D.sl 5 [],D.int .i64 0]),.d true 0 (.ifc 114 (.pt 3 (.ag [D.int .i64 p581,D.ifc 84 (.int .i64 21)])))] [.ob true [.ob true [.own true 4 xs,.d false 0 (.int .i64 a582)],.d false 0 (.int .i64 d)]]
          |PR.no=>none else none else if okP xs a d (IntKind.wrap .i64 (lv+1)) B.ns then match pSingle xs (Int.toNat (d+1 - IntKind.wrap .i64 (lv+1))) a with
          |PR.ok op587 nm588 ks589 p590 a591=>k [.d true 5 (.ag [D.str t9,D.str (ByteArray.mk #[]),D.sl 5 [D.ag [D.str op587,D.str nm588,D.sl 5 ks589,D.int .i64 p590]],D.int .i64 p10]),.d false 0 D.nili] [.ob true [.ob true [.own true 4 xs,.d false 0 (.int .i64 a591)],.d false 0 (.int .i64 d)]]
          |PR.syn p595 a596=>k [.d false 5 (.ag [D.str (ByteArray.mk #[]),D.str (ByteArray.mk #[]),D.sl 5 [],D.int .i64 0]),.d false 0 (.ifc 114 (.pt 3 (.ag [D.int .i64 p595,D.ifc 84 (.int .i64 20)])))] [.ob true [.ob true [.own true 4 xs,.d false 0 (.int .i64 a596)],.d false 0 (.int .i64 d)]]
          |PR.deep p600 a601=>k [.d false 5 (.ag [D.str (ByteArray.mk #[]),D.str (ByteArray.mk #[]),D.sl 5 [],D.int .i64 0]),.d true 0 (.ifc 114 (.pt 3 (.ag [D.int .i64 p600,D.ifc 84 (.int .i64 21)])))] [.ob true [.ob true [.own true 4 xs,.d false 0 (.int .i64 a601)],.d false 0 (.int .i64 d)]]
          |PR.no=>none else none
         |x=>none else none else if 0≤a∧a<34359738368 then match xs[a.toNat]? with
         |some (.ag [D.int .i64 c606,D.str t607,D.int .i64 p608])=>if((c606==1||c606==4)&&t607.toList==[40])=true then if okP xs (a+1) d (IntKind.wrap .i64 (lv+1)) B.ni then match pImply xs (Int.toNat (d+1 - IntKind.wrap .i64 (lv+1))) (a+1)with
          |PR.ok op612 nm613 ks614 p615 a616=>if 0≤a616∧a616<34359738368 then match xs[a616.toNat]? with
           |some (.ag [D.int .i64 c620,D.str t621,D.int .i64 p622])=>if((c620==1||c620==4)&&t621.toList==[41])=true then k [.d true 5 (.ag [D.str op612,D.str nm613,D.sl 5 ks614,D.int .i64 p10]),.d false 0 D.nili] [.ob true [.ob true [.own true 4 xs,.d false 0 (.int .i64 (a616+1))],.d false 0 (.int .i64 d)]]else k [.d false 5 (.ag [D.str (ByteArray.mk #[]),D.str (ByteArray.mk #[]),D.sl 5 [],D.int .i64 0]),.d false 0 (.ifc 114 (.pt 3 (.ag [D.int .i64 p622,D.ifc 84 (.int .i64 20)])))] [.ob true [.ob true [.own true 4 xs,.d false 0 (.int .i64 a616)],.d false 0 (.int .i64 d)]]
           |x=>none else none
          |PR.syn p630 a631=>k [.d false 5 (.ag [D.str (ByteArray.mk #[]),D.str (ByteArray.mk #[]),D.sl 5 [],D.int .i64 0]),.d false 0 (.ifc 114 (.pt 3 (.ag [D.int .i64 p630,D.ifc 84 (.int .i64 20)])))] [.ob true [.ob true [.own true 4 xs,.d false 0 (.int .i64 a631)],.d false 0 (.int .i64 d)]]
          |PR.deep p635 a636=>k [.d false 5 (.ag [D.str (ByteArray.mk #[]),D.str (ByteArray.mk #[]),D.sl 5 [],D.int .i64 0]),.d true 0 (.ifc 114 (.pt 3 (.ag [D.int .i64 p635,D.ifc 84 (.int .i64 21)])))] [.ob true [.ob true [.own true 4 xs,.d false 0 (.int .i64 a636)],.d false 0 (.int .i64 d)]]
          |PR.no=>none else none else k [.d false 5 (.ag [D.str (ByteArray.mk #[]),D.str (ByteArray.mk #[]),D.sl 5 [],D.int .i64 0]),.d false 0 (.ifc 114 (.pt 3 (.ag [D.int .i64 p608,D.ifc 84 (.int .i64 20)])))] [.ob true [.ob true [.own true 4 xs,.d false 0 (.int .i64 a)],.d false 0 (.int .i64 d)]]
         |x=>none else none else if 0≤a then match xs[a.toNat]? with
         |some (.ag [D.int .i64 c644,D.str t645,D.int .i64 n646])=>if((c644==1||c644==4)&&t645.toList==[71])=true then if 0≤a∧a<34359738368 then match xs[a.toNat]? with
          |some (.ag [D.int .i64 c649,D.str t650,D.int .i64 p651])=>if(!c649==0)=true then if okP xs (a+1) d (IntKind.wrap .i64 (lv+1)) B.ns then match pSingle xs (Int.toNat (d+1 - IntKind.wrap .i64 (lv+1))) (a+1)with
           |PR.ok op653 nm654 ks655 p656 a657=>k [.d true 5 (.ag [D.str t9,D.str (ByteArray.mk #[]),D.sl 5 [D.ag [D.str op653,D.str nm654,D.sl 5 ks655,D.int .i64 p656]],D.int .i64 p10]),.d false 0 D.nili] [.ob true [.ob true [.own true 4 xs,.d false 0 (.int .i64 a657)],.d false 0 (.int .i64 d)]]
           |PR.syn p661 a662=>k [.d false 5 (.ag [D.str (ByteArray.mk #[]),D.str (ByteArray.mk #[]),D.sl 5 [],D.int .i64 0]),.d false 0 (.ifc 114 (.pt 3 (.ag [D.int .i64 p661,D.ifc 84 (.int .i64 20)])))] [.ob true [.ob true [.own true 4 xs,.d false 0 (.int .i64 a662)],.d false 0 (.int .i64 d)]]
           |PR.deep p666 a667=>k [.d false 5 (.ag [D.str (ByteArray.mk #[]),D.str (ByteArray.mk #[]),D.sl 5 [],D.int .i64 0]),.d true 0 (.ifc 114 (.pt 3 (.ag [D.int .i64 p666,D.ifc 84 (.int .i64 21)])))] [.ob true [.ob true [.own true 4 xs,.d false 0 (.int .i64 a667)],.d false 0 (.int .i64 d)]]
           |PR.no=>none else none else if okP xs a d (IntKind.wrap .i64 (lv+1)) B.ns then match pSingle xs (Int.toNat (d+1 - IntKind.wrap .i64 (lv+1))) a with
           |PR.ok op672 nm673 ks674 p675 a676=>k [.d true 5 (.ag [D.str t9,D.str (ByteArray.mk #[]),D.sl 5 [D.ag [D.str op672,D.str nm673,D.sl 5 ks674,D.int .i64 p675]],D.int .i64 p10]),.d false 0 D.nili] [.ob true [.ob true [.own true 4 xs,.d false 0 (.int .i64 a676)],.d false 0 (.int .i64 d)]]
           |PR.syn p680 a681=>k [.d false 5 (.ag [D.str (ByteArray.mk #[]),D.str (ByteArray.mk #[]),D.sl 5 [],D.int .i64 0]),.d false 0 (.ifc 114 (.pt 3 (.ag [D.int .i64 p680,D.ifc 84 (.int .i64 20)])))] [.ob true [.ob true [.own true 4 xs,.d false 0 (.int .i64 a681)],.d false 0 (.int .i64 d)]]
           |PR.deep p685 a686=>k [.d false 5 (.ag [D.str (ByteArray.mk #[]),D.str (ByteArray.mk #[]),D.sl 5 [],D.int .i64 0]),.d true 0 (.ifc 114 (.pt 3 (.ag [D.int .i64 p685,D.ifc 84 (.int .i64 21)])))] [.ob true [.ob true [.own true 4 xs,.d false 0 (.int .i64 a686)],.d false 0 (.int .i64 d)]]
           |PR.no=>none else none
          |x=>none else none else if 0≤a∧a<34359738368 then match xs[a.toNat]? with
          |some (.ag [D.int .i64 c691,D.str t692,D.int .i64 p693])=>if((c691==1||c691==4)&&t692.toList==[40])=true then if okP xs (a+1) d (IntKind.wrap .i64 (lv+1)) B.ni then match pImply xs (Int.toNat (d+1 - IntKind.wrap .i64 (lv+1))) (a+1)with
           |PR.ok op697 nm698 ks699 p700 a701=>if 0≤a701∧a701<34359738368 then match xs[a701.toNat]? with
            |some (.ag [D.int .i64 c705,D.str t706,D.int .i64 p707])=>if((c705==1||c705==4)&&t706.toList==[41])=true then k [.d true 5 (.ag [D.str op697,D.str nm698,D.sl 5 ks699,D.int .i64 p10]),.d false 0 D.nili] [.ob true [.ob true [.own true 4 xs,.d false 0 (.int .i64 (a701+1))],.d false 0 (.int .i64 d)]]else k [.d false 5 (.ag [D.str (ByteArray.mk #[]),D.str (ByteArray.mk #[]),D.sl 5 [],D.int .i64 0]),.d false 0 (.ifc 114 (.pt 3 (.ag [D.int .i64 p707,D.ifc 84 (.int .i64 20)])))] [.ob true [.ob true [.own true 4 xs,.d false 0 (.int .i64 a701)],.d false 0 (.int .i64 d)]]
            |x=>none else none
           |PR.syn p715 a716=>k [.d false 5 (.ag [D.str (ByteArray.mk #[]),D.str (ByteArray.mk #[]),D.sl 5 [],D.int .i64 0]),.d false 0 (.ifc 114 (.pt 3 (.ag [D.int .i64 p715,D.ifc 84 (.int .i64 20)])))] [.ob true [.ob true [.own true 4 xs,.d false 0 (.int .i64 a716)],.d false 0 (.int .i64 d)]]
           |PR.deep p720 a721=>k [.d false 5 (.ag [D.str (ByteArray.mk #[]),D.str (ByteArray.mk #[]),D.sl 5 [],D.int .i64 0]),.d true 0 (.ifc 114 (.pt 3 (.ag [D.int .i64 p720,D.ifc 84 (.int .i64 21)])))] [.ob true [.ob true [.own true 4 xs,.d false 0 (.int .i64 a721)],.d false 0 (.int .i64 d)]]
           |PR.no=>none else none else k [.d false 5 (.ag [D.str (ByteArray.mk #[]),D.str (ByteArray.mk #[]),D.sl 5 [],D.int .i64 0]),.d false 0 (.ifc 114 (.pt 3 (.ag [D.int .i64 p693,D.ifc 84 (.int .i64 20)])))] [.ob true [.ob true [.own true 4 xs,.d false 0 (.int .i64 a)],.d false 0 (.int .i64 d)]]
          |x=>none else none
         |x=>none else none
        |x=>none else none
       |x=>none else none
      |x=>none else none
     |x=>none else none
    |x=>none else none
   |x=>none else none:=by kernel_rfl
end
end B108
namespace B80
  section
  variable (B:Bd)
noncomputable def X:Fx:=⟨Tryz.prog,QP B,48,2⟩
theorem start {β:Type} (xs:List D) (a:Int) (d:Int) (lv:Int) (k:List TV→List TV→Option β):evalF Tryz.prog (QP B) Tryz.f64 [.ob true [.ob true [.own true 4 xs,.d false 0 (.int .i64 a)],.d false 0 (.int .i64 d)],.d true 0 (.int .i64 lv)] k=if decide (lv>d)=true then if 0≤a then match xs[a.toNat]? with
   |some (.ag [D.int .i64 n4,D.str s5,D.int .i64 p6])=>k [.d false 5 (.ag [D.str (ByteArray.mk #[]),D.str (ByteArray.mk #[]),D.sl 5 [],D.int .i64 0]),.d true 0 (.ifc 114 (.pt 3 (.ag [D.int .i64 p6,D.ifc 84 (.int .i64 21)])))] [.ob true [.ob true [.own true 4 xs,.d false 0 (.int .i64 a)],.d false 0 (.int .i64 d)]]
   |x=>none else none else if okP xs a d lv B.ns then match pSingle xs (Int.toNat (d+1 - lv)) a with
   |PR.ok op8 nm9 ks10 p11 a12=>if okP xs a12 d (lv+1) B.nru then match pRight xs (Int.toNat (d - lv)) true op8 nm9 ks10 p11 [ByteArray.mk #[85],ByteArray.mk #[87],ByteArray.mk #[82]] a12 with
    |PR.ok op16 nm17 ks18 p19 a20=>k [.d true 5 (.ag [D.str op16,D.str nm17,D.sl 5 ks18,D.int .i64 p19]),.d false 0 D.nili] [.ob true [.ob true [.own true 4 xs,.d false 0 (.int .i64 a20)],.d false 0 (.int .i64 d)]]
    |PR.syn p21 a22=>k [.d false 5 (.ag [D.str (ByteArray.mk #[]),D.str (ByteArray.mk #[]),D.sl 5 [],D.int .i64 0]),.d false 0 (.ifc 114 (.pt 3 (.ag [D.int .i64 p21,D.ifc 84 (.int .i64 20)])))] [.ob true [.ob true [.own true 4 xs,.d false 0 (.int .i64 a22)],.d false 0 (.int .i64 d)]]
    |PR.deep p23 a24=>k [.d false 5 (.ag [D.str (ByteArray.mk #[]),D.str (ByteArray.mk #[]),D.sl 5 [],D.int .i64 0]),.d true 0 (.ifc 114 (.pt 3 (.ag [D.int .i64 p23,D.ifc 84 (.int .i64 21)])))] [.ob true [.ob true [.own true 4 xs,.d false 0 (.int .i64 a24)],.d false 0 (.int .i64 d)]]
    |PR.no=>none else none
   |PR.syn p25 a26=>k [.d false 5 (.ag [D.str (ByteArray.mk #[]),D.str (ByteArray.mk #[]),D.sl 5 [],D.int .i64 0]),.d false 0 (.ifc 114 (.pt 3 (.ag [D.int .i64 p25,D.ifc 84 (.int .i64 20)])))] [.ob true [.ob true [.own true 4 xs,.d false 0 (.int .i64 a26)],.d false 0 (.int .i64 d)]]
   |PR.deep p30 a31=>k [.d false 5 (.ag [D.str (ByteArray.mk #[]),D.str (ByteArray.mk #[]),D.sl 5 [],D.int .i64 0]),.d true 0 (.ifc 114 (.pt 3 (.ag [D.int .i64 p30,D.ifc 84 (.int .i64 21)])))] [.ob true [.ob true [.own true 4 xs,.d false 0 (.int .i64 a31)],.d false 0 (.int .i64 d)]]
   |PR.no=>none else none:=by kernel_rfl
end
end B80
namespace B79
  section
  variable (B:Bd)
noncomputable def X:Fx:=⟨Tryz.prog,QP B,24,2⟩
theorem start {β:Type} (xs:List D) (a:Int) (d:Int) (lv:Int) (k:List TV→List TV→Option β):evalF Tryz.prog (QP B) Tryz.f63 [.d true 0 (.int .i64 lv),.cpo true (.ob true [.ob true [.own true 4 xs,.d false 0 (.int .i64 a)],.d false 0 (.int .i64 d)])] k=if okP xs a d lv B.ncu then match pChain xs (ByteArray.mk #[38]) (Int.toNat (d+1 - lv)) true a with
   |PR.ok op2 nm3 ks4 p5 a6=>k [.d true 5 (.ag [D.str op2,D.str nm3,D.sl 5 ks4,D.int .i64 p5]),.d false 0 D.nili] [.cpo true (.ob true [.ob true [.own true 4 xs,.d false 0 (.int .i64 a6)],.d false 0 (.int .i64 d)])]
   |PR.syn p7 a8=>k [.d false 5 (.ag [D.str (ByteArray.mk #[]),D.str (ByteArray.mk #[]),D.sl 5 [],D.int .i64 0]),.d false 0 (.ifc 114 (.pt 3 (.ag [D.int .i64 p7,D.ifc 84 (.int .i64 20)])))] [.cpo true (.ob true [.ob true [.own true 4 xs,.d false 0 (.int .i64 a8)],.d false 0 (.int .i64 d)])]
   |PR.deep p9 a10=>k [.d false 5 (.ag [D.str (ByteArray.mk #[]),D.str (ByteArray.mk #[]),D.sl 5 [],D.int .i64 0]),.d true 0 (.ifc 114 (.pt 3 (.ag [D.int .i64 p9,D.ifc 84 (.int .i64 21)])))] [.cpo true (.ob true [.ob true [.own true 4 xs,.d false 0 (.int .i64 a10)],.d false 0 (.int .i64 d)])]
   |PR.no=>none else none:=by kernel_rfl
end
end B79
namespace B55
  section
  variable (B:Bd)
noncomputable def X:Fx:=⟨Tryz.prog,QP B,48,2⟩
theorem start {β:Type} (xs:List D) (a:Int) (d:Int) (lv:Int) (k:List TV→List TV→Option β):evalF Tryz.prog (QP B) Tryz.f40 [.ob true [.ob true [.own true 4 xs,.d false 0 (.int .i64 a)],.d false 0 (.int .i64 d)],.d true 0 (.int .i64 lv)] k=if decide (lv>d)=true then if 0≤a then match xs[a.toNat]? with
   |some (.ag [D.int .i64 n4,D.str s5,D.int .i64 p6])=>k [.d false 5 (.ag [D.str (ByteArray.mk #[]),D.str (ByteArray.mk #[]),D.sl 5 [],D.int .i64 0]),.d true 0 (.ifc 114 (.pt 3 (.ag [D.int .i64 p6,D.ifc 84 (.int .i64 21)])))] [.ob true [.ob true [.own true 4 xs,.d false 0 (.int .i64 a)],.d false 0 (.int .i64 d)]]
   |x=>none else none else if okP xs a d lv B.nck then match pChain xs (ByteArray.mk #[124]) (Int.toNat (d+1 - lv)) false a with
   |PR.ok op8 nm9 ks10 p11 a12=>if okP xs a12 d (lv+1) B.nri then match pRight xs (Int.toNat (d - lv)) false op8 nm9 ks10 p11 [ByteArray.mk #[61,62]] a12 with
    |PR.ok op16 nm17 ks18 p19 a20=>k [.d true 5 (.ag [D.str op16,D.str nm17,D.sl 5 ks18,D.int .i64 p19]),.d false 0 D.nili] [.ob true [.ob true [.own true 4 xs,.d false 0 (.int .i64 a20)],.d false 0 (.int .i64 d)]]
    |PR.syn p21 a22=>k [.d false 5 (.ag [D.str (ByteArray.mk #[]),D.str (ByteArray.mk #[]),D.sl 5 [],D.int .i64 0]),.d false 0 (.ifc 114 (.pt 3 (.ag [D.int .i64 p21,D.ifc 84 (.int .i64 20)])))] [.ob true [.ob true [.own true 4 xs,.d false 0 (.int .i64 a22)],.d false 0 (.int .i64 d)]]
    |PR.deep p23 a24=>k [.d false 5 (.ag [D.str (ByteArray.mk #[]),D.str (ByteArray.mk #[]),D.sl 5 [],D.int .i64 0]),.d true 0 (.ifc 114 (.pt 3 (.ag [D.int .i64 p23,D.ifc 84 (.int .i64 21)])))] [.ob true [.ob true [.own true 4 xs,.d false 0 (.int .i64 a24)],.d false 0 (.int .i64 d)]]
    |PR.no=>none else none
   |PR.syn p25 a26=>k [.d false 5 (.ag [D.str (ByteArray.mk #[]),D.str (ByteArray.mk #[]),D.sl 5 [],D.int .i64 0]),.d false 0 (.ifc 114 (.pt 3 (.ag [D.int .i64 p25,D.ifc 84 (.int .i64 20)])))] [.ob true [.ob true [.own true 4 xs,.d false 0 (.int .i64 a26)],.d false 0 (.int .i64 d)]]
   |PR.deep p30 a31=>k [.d false 5 (.ag [D.str (ByteArray.mk #[]),D.str (ByteArray.mk #[]),D.sl 5 [],D.int .i64 0]),.d true 0 (.ifc 114 (.pt 3 (.ag [D.int .i64 p30,D.ifc 84 (.int .i64 21)])))] [.ob true [.ob true [.own true 4 xs,.d false 0 (.int .i64 a31)],.d false 0 (.int .i64 d)]]
   |PR.no=>none else none:=by kernel_rfl
end
end B55
end Go.Sd
namespace Go.Sd
open Go Go.Cm Go.Proofs Go.Sc
set_option maxRecDepth 100000
namespace C78u
  section
  variable (B:Bd)
noncomputable def X:Fx:=⟨Tryz.prog,QP B,768,4⟩
def s0 (xs:List D) (d:Int) (lv:Int) (s:ByteArray) (x9:D) (x10:Bool) (x11:ByteArray) (x12:Bool) (x13:ByteArray) (x14:Bool) (x15:List D) (x16:Bool) (x17:Int) (x18:Int) (x25:Bool):S:=⟨Tm.mk 46 [(0,.rp 1 0),(1,.d true 0 (.str s)),(2,.d true 0 (.int .i64 lv)),(3,.fb 64 [.rp 1 0]),(8,.rp 9 0),(10,.rp 11 0),(11,.d x25 0 x9)],[(1,true,[.rp 69632 0,.d false 0 (.int .i64 d)]),(9,true,[.d false 0 (.str (ByteArray.mk #[])),.d false 0 (.str (ByteArray.mk #[])),.own false 5 [],.d false 0 (.int .i64 0)]),(11,true,[.d x10 0 (.str x11),.d x12 0 (.str x13),.d x14 0 (.sl 5 x15),.d x16 0 (.int .i64 x17)]),(69632,true,[.own true 4 xs,.d false 0 (.int .i64 x18)]),(2305843009213693952,true,[.rp 1 0])]⟩
def e0x0 (xs:List D) (d:Int) (x134:ByteArray) (x135:ByteArray) (x136:List D) (x137:Int) (x138:Int):S:=⟨Tm.mk 46 [(8,.rp 9 0),(10,.rp 11 0),(11,.d false 0 D.nili)],[(1,true,[.rp 69632 0,.d false 0 (.int .i64 d)]),(9,true,[.d false 0 (.str (ByteArray.mk #[])),.d false 0 (.str (ByteArray.mk #[])),.own false 5 [],.d false 0 (.int .i64 0)]),(11,true,[.d true 0 (.str x134),.d true 0 (.str x135),.d true 0 (.sl 5 x136),.d true 0 (.int .i64 x137)]),(69632,true,[.own true 4 xs,.d false 0 (.int .i64 x138)]),(2305843009213693952,true,[.rp 1 0])]⟩
def e0x0_1 (xs:List D) (d:Int) (x21:Bool) (x22:Int) (x23:Int) (x24:Int) (x68:Bool) (x69:ByteArray) (x70:Bool) (x71:ByteArray) (x72:Bool) (x73:List D) (x74:Bool) (x75:Int):S:=⟨Tm.mk 46 [(8,.rp 9 0),(10,.rp 11 0),(11,.d x21 0 (.ifc 114 (.pt 3 (.ag [D.int .i64 x22,D.ifc 84 (.int .i64 x23)]))))],[(1,true,[.rp 69632 0,.d false 0 (.int .i64 d)]),(9,true,[.d false 0 (.str (ByteArray.mk #[])),.d false 0 (.str (ByteArray.mk #[])),.own false 5 [],.d false 0 (.int .i64 0)]),(11,true,[.d x68 0 (.str x69),.d x70 0 (.str x71),.d x72 0 (.sl 5 x73),.d x74 0 (.int .i64 x75)]),(69632,true,[.own true 4 xs,.d false 0 (.int .i64 x24)]),(2305843009213693952,true,[.rp 1 0])]⟩
noncomputable abbrev L0:S→Option (S ⊕ (Ex×S)):=roundK (X B) [(0,3328)] (sub [1,1,0,0,0] (body Tryz.f62))
theorem start {β:Type} (xs:List D) (a:Int) (d:Int) (lv:Int) (s:ByteArray) (k:List TV→List TV→Option β):evalF Tryz.prog (QP B) Tryz.f62 [.ob true [.ob true [.own true 4 xs,.d false 0 (.int .i64 a)],.d false 0 (.int .i64 d)],.d true 0 (.str s),.d true 0 (.int .i64 lv),.fc true true (64:FuncId) [(0,false)]] k=if okP xs a d lv B.nu then match pUntl xs (Int.toNat (d+1 - lv)) a with
   |PR.ok op149 nm150 ks151 p152 a153=>goLp (X B) [(0,3328)] (sub [1,1,0,0,0] (body Tryz.f62)) [Kf.block 0 3328,Kf.seq [] (sub [1,1,1] (body Tryz.f62)) 768] (finK Tryz.prog Tryz.f62 [.ob true [.ob true [.own true 4 xs,.d false 0 (.int .i64 a)],.d false 0 (.int .i64 d)],.d true 0 (.str s),.d true 0 (.int .i64 lv),.fc true true (64:FuncId) [(0,false)]] k) (s0 xs d lv s D.nili true op149 true nm150 true ks151 true p152 a153 false)
   |PR.syn p154 a155=>goLp (X B) [(0,3328)] (sub [1,1,0,0,0] (body Tryz.f62)) [Kf.block 0 3328,Kf.seq [] (sub [1,1,1] (body Tryz.f62)) 768] (finK Tryz.prog Tryz.f62 [.ob true [.ob true [.own true 4 xs,.d false 0 (.int .i64 a)],.d false 0 (.int .i64 d)],.d true 0 (.str s),.d true 0 (.int .i64 lv),.fc true true (64:FuncId) [(0,false)]] k) (s0 xs d lv s (.ifc 114 (.pt 3 (.ag [D.int .i64 p154,D.ifc 84 (.int .i64 20)]))) false (ByteArray.mk #[]) false (ByteArray.mk #[]) false [] false (0:Int) a155 false)
   |PR.deep p156 a157=>goLp (X B) [(0,3328)] (sub [1,1,0,0,0] (body Tryz.f62)) [Kf.block 0 3328,Kf.seq [] (sub [1,1,1] (body Tryz.f62)) 768] (finK Tryz.prog Tryz.f62 [.ob true [.ob true [.own true 4 xs,.d false 0 (.int .i64 a)],.d false 0 (.int .i64 d)],.d true 0 (.str s),.d true 0 (.int .i64 lv),.fc true true (64:FuncId) [(0,false)]] k) (s0 xs d lv s (.ifc 114 (.pt 3 (.ag [D.int .i64 p156,D.ifc 84 (.int .i64 21)]))) false (ByteArray.mk #[]) false (ByteArray.mk #[]) false [] false (0:Int) a157 true)
   |PR.no=>none else none:=by kernel_rfl
theorem round0_0 (xs:List D) (d:Int) (lv:Int) (s:ByteArray) (x64:ByteArray) (x65:ByteArray) (x66:List D) (x67:Int) (x91:Int):roundK (X B) [(0,3328)] (sub [1,1,0,0,0] (body Tryz.f62)) (s0 xs d lv s D.nili true x64 true x65 true x66 true x91 x67 false)=if 0≤x67∧x67<34359738368 then match xs[x67.toNat]? with
   |some (.ag [D.int .i64 c159,D.str t160,D.int .i64 n161])=>if((c159==1||c159==4)&&t160.toList==s.toList)=true then if okP xs (x67+1) d lv B.nu then match pUntl xs (Int.toNat (d+1 - lv)) (x67+1)with
    |PR.ok op165 nm166 ks167 p168 a169=>some (Sum.inl (s0 xs d lv s D.nili true s true (ByteArray.mk #[]) true [fmD x64 x65 x66 x91,fmD op165 nm166 ks167 p168] true x91 a169 false))
    |PR.syn p173 a174=>some (Sum.inl (s0 xs d lv s (.ifc 114 (.pt 3 (.ag [D.int .i64 p173,D.ifc 84 (.int .i64 20)]))) true x64 true x65 true x66 true x91 a174 false))
    |PR.deep p177 a178=>some (Sum.inl (s0 xs d lv s (.ifc 114 (.pt 3 (.ag [D.int .i64 p177,D.ifc 84 (.int .i64 21)]))) true x64 true x65 true x66 true x91 a178 true))
    |PR.no=>none else none else some (Sum.inr (Ex.exit 0,e0x0 xs d x64 x65 x66 x91 x67))
   |x=>none else none:=by kernel_rfl
theorem round0_1 (xs:List D) (d:Int) (lv:Int) (s:ByteArray) (x21:Bool) (x22:Int) (x23:Int) (x24:Int) (x68:Bool) (x69:ByteArray) (x70:Bool) (x71:ByteArray) (x72:Bool) (x73:List D) (x74:Bool) (x75:Int):roundK (X B) [(0,3328)] (sub [1,1,0,0,0] (body Tryz.f62)) (s0 xs d lv s (.ifc 114 (.pt 3 (.ag [D.int .i64 x22,D.ifc 84 (.int .i64 x23)]))) x68 x69 x70 x71 x72 x73 x74 x75 x24 x21)=some (Sum.inr (Ex.exit 0,e0x0_1 xs d x21 x22 x23 x24 x68 x69 x70 x71 x72 x73 x74 x75)):=by kernel_rfl
theorem behind0x0 {β:Type} (a:Int) (lv:Int) (s:ByteArray) (xs:List D) (d:Int) (x134:ByteArray) (x135:ByteArray) (x136:List D) (x137:Int) (x138:Int) (k:List TV→List TV→Option β):applyK (X B) (finK Tryz.prog Tryz.f62 [.ob true [.ob true [.own true 4 xs,.d false 0 (.int .i64 a)],.d false 0 (.int .i64 d)],.d true 0 (.str s),.d true 0 (.int .i64 lv),.fc true true (64:FuncId) [(0,false)]] k) [Kf.block 0 3328,Kf.seq [] (sub [1,1,1] (body Tryz.f62)) 768] (Ex.exit 0) (e0x0 xs d x134 x135 x136 x137 x138)=k [.d true 5 (.ag [D.str x134,D.str x135,D.sl 5 x136,D.int .i64 x137]),.d false 0 D.nili] [.ob true [.ob true [.own true 4 xs,.d false 0 (.int .i64 x138)],.d false 0 (.int .i64 d)]]:=by kernel_rfl
theorem behind0x0_1 {β:Type} (a:Int) (lv:Int) (s:ByteArray) (xs:List D) (d:Int) (x21:Bool) (x22:Int) (x23:Int) (x24:Int) (x68:Bool) (x69:ByteArray) (x70:Bool) (x71:ByteArray) (x72:Bool) (x73:List D) (x74:Bool) (x75:Int) (k:List TV→List TV→Option β):applyK (X B) (finK Tryz.prog Tryz.f62 [.ob true [.ob true [.own true 4 xs,.d false 0 (.int .i64 a)],.d false 0 (.int .i64 d)],.d true 0 (.str s),.d true 0 (.int .i64 lv),.fc true true (64:FuncId) [(0,false)]] k) [Kf.block 0 3328,Kf.seq [] (sub [1,1,1] (body Tryz.f62)) 768] (Ex.exit 0) (e0x0_1 xs d x21 x22 x23 x24 x68 x69 x70 x71 x72 x73 x74 x75)=k [.d false 5 (.ag [D.str (ByteArray.mk #[]),D.str (ByteArray.mk #[]),D.sl 5 [],D.int .i64 0]),.d x21 0 (.ifc 114 (.pt 3 (.ag [D.int .i64 x22,D.ifc 84 (.int .i64 x23)])))] [.ob true [.ob true [.own true 4 xs,.d false 0 (.int .i64 x24)],.d false 0 (.int .i64 d)]]:=by kernel_rfl
end
end C78u
namespace C78k
  section
  variable (B:Bd)
noncomputable def X:Fx:=⟨Tryz.prog,QP B,768,4⟩
def s0 (xs:List D) (d:Int) (lv:Int) (s:ByteArray) (x9:D) (x10:Bool) (x11:ByteArray) (x12:Bool) (x13:ByteArray) (x14:Bool) (x15:List D) (x16:Bool) (x17:Int) (x18:Int) (x25:Bool):S:=⟨Tm.mk 46 [(0,.rp 1 0),(1,.d true 0 (.str s)),(2,.d true 0 (.int .i64 lv)),(3,.fn 63 [.cp true (.rp 1 0)]),(8,.rp 9 0),(10,.rp 11 0),(11,.d x25 0 x9)],[(1,true,[.rp 69632 0,.d false 0 (.int .i64 d)]),(9,true,[.d false 0 (.str (ByteArray.mk #[])),.d false 0 (.str (ByteArray.mk #[])),.own false 5 [],.d false 0 (.int .i64 0)]),(11,true,[.d x10 0 (.str x11),.d x12 0 (.str x13),.d x14 0 (.sl 5 x15),.d x16 0 (.int .i64 x17)]),(69632,true,[.own true 4 xs,.d false 0 (.int .i64 x18)]),(2305843009213693952,true,[.rp 1 0])]⟩
def e0x0 (xs:List D) (d:Int) (x134:ByteArray) (x135:ByteArray) (x136:List D) (x137:Int) (x138:Int):S:=⟨Tm.mk 46 [(8,.rp 9 0),(10,.rp 11 0),(11,.d false 0 D.nili)],[(1,true,[.rp 69632 0,.d false 0 (.int .i64 d)]),(9,true,[.d false 0 (.str (ByteArray.mk #[])),.d false 0 (.str (ByteArray.mk #[])),.own false 5 [],.d false 0 (.int .i64 0)]),(11,true,[.d true 0 (.str x134),.d true 0 (.str x135),.d true 0 (.sl 5 x136),.d true 0 (.int .i64 x137)]),(69632,true,[.own true 4 xs,.d false 0 (.int .i64 x138)]),(2305843009213693952,true,[.rp 1 0])]⟩
def e0x0_1 (xs:List D) (d:Int) (x21:Bool) (x22:Int) (x23:Int) (x24:Int) (x68:Bool) (x69:ByteArray) (x70:Bool) (x71:ByteArray) (x72:Bool) (x73:List D) (x74:Bool) (x75:Int):S:=⟨Tm.mk 46 [(8,.rp 9 0),(10,.rp 11 0),(11,.d x21 0 (.ifc 114 (.pt 3 (.ag [D.int .i64 x22,D.ifc 84 (.int .i64 x23)]))))],[(1,true,[.rp 69632 0,.d false 0 (.int .i64 d)]),(9,true,[.d false 0 (.str (ByteArray.mk #[])),.d false 0 (.str (ByteArray.mk #[])),.own false 5 [],.d false 0 (.int .i64 0)]),(11,true,[.d x68 0 (.str x69),.d x70 0 (.str x71),.d x72 0 (.sl 5 x73),.d x74 0 (.int .i64 x75)]),(69632,true,[.own true 4 xs,.d false 0 (.int .i64 x24)]),(2305843009213693952,true,[.rp 1 0])]⟩
noncomputable abbrev L0:S→Option (S ⊕ (Ex×S)):=roundK (X B) [(0,3328)] (sub [1,1,0,0,0] (body Tryz.f62))
theorem start {β:Type} (xs:List D) (a:Int) (d:Int) (lv:Int) (s:ByteArray) (k:List TV→List TV→Option β):evalF Tryz.prog (QP B) Tryz.f62 [.ob true [.ob true [.own true 4 xs,.d false 0 (.int .i64 a)],.d false 0 (.int .i64 d)],.d true 0 (.str s),.d true 0 (.int .i64 lv),.fc true false (63:FuncId) [(0,true)]] k=if okP xs a d lv B.nk then match pK xs (Int.toNat (d+1 - lv)) a with
   |PR.ok op149 nm150 ks151 p152 a153=>goLp (X B) [(0,3328)] (sub [1,1,0,0,0] (body Tryz.f62)) [Kf.block 0 3328,Kf.seq [] (sub [1,1,1] (body Tryz.f62)) 768] (finK Tryz.prog Tryz.f62 [.ob true [.ob true [.own true 4 xs,.d false 0 (.int .i64 a)],.d false 0 (.int .i64 d)],.d true 0 (.str s),.d true 0 (.int .i64 lv),.fc true false (63:FuncId) [(0,true)]] k) (s0 xs d lv s D.nili true op149 true nm150 true ks151 true p152 a153 false)
   |PR.syn p154 a155=>goLp (X B) [(0,3328)] (sub [1,1,0,0,0] (body Tryz.f62)) [Kf.block 0 3328,Kf.seq [] (sub [1,1,1] (body Tryz.f62)) 768] (finK Tryz.prog Tryz.f62 [.ob true [.ob true [.own true 4 xs,.d false 0 (.int .i64 a)],.d false 0 (.int .i64 d)],.d true 0 (.str s),.d true 0 (.int .i64 lv),.fc true false (63:FuncId) [(0,true)]] k) (s0 xs d lv s (.ifc 114 (.pt 3 (.ag [D.int .i64 p154,D.ifc 84 (.int .i64 20)]))) false (ByteArray.mk #[]) false (ByteArray.mk #[]) false [] false (0:Int) a155 false)
   |PR.deep p156 a157=>goLp (X B) [(0,3328)] (sub [1,1,0,0,0] (body Tryz.f62)) [Kf.block 0 3328,Kf.seq [] (sub [1,1,1] (body Tryz.f62)) 768] (finK Tryz.prog Tryz.f62 [.ob true [.ob true [.own true 4 xs,.d false 0 (.int .i64 a)],.d false 0 (.int .i64 d)],.d true 0 (.str s),.d true 0 (.int .i64 lv),.fc true false (63:FuncId) [(0,true)]] k) (s0 xs d lv s (.ifc 114 (.pt 3 (.ag [D.int .i64 p156,D.ifc 84 (.int .i64 21)]))) false (ByteArray.mk #[]) false (ByteArray.mk #[]) false [] false (0:Int) a157 true)
   |PR.no=>none else none:=by kernel_rfl
theorem round0_0 (xs:List D) (d:Int) (lv:Int) (s:ByteArray) (x64:ByteArray) (x65:ByteArray) (x66:List D) (x67:Int) (x91:Int):roundK (X B) [(0,3328)] (sub [1,1,0,0,0] (body Tryz.f62)) (s0 xs d lv s D.nili true x64 true x65 true x66 true x91 x67 false)=if 0≤x67∧x67<34359738368 then match xs[x67.toNat]? with
   |some (.ag [D.int .i64 c159,D.str t160,D.int .i64 n161])=>if((c159==1||c159==4)&&t160.toList==s.toList)=true then if okP xs (x67+1) d lv B.nk then match pK xs (Int.toNat (d+1 - lv)) (x67+1)with
    |PR.ok op165 nm166 ks167 p168 a169=>some (Sum.inl (s0 xs d lv s D.nili true s true (ByteArray.mk #[]) true [fmD x64 x65 x66 x91,fmD op165 nm166 ks167 p168] true x91 a169 false))
    |PR.syn p173 a174=>some (Sum.inl (s0 xs d lv s (.ifc 114 (.pt 3 (.ag [D.int .i64 p173,D.ifc 84 (.int .i64 20)]))) true x64 true x65 true x66 true x91 a174 false))
    |PR.deep p177 a178=>some (Sum.inl (s0 xs d lv s (.ifc 114 (.pt 3 (.ag [D.int .i64 p177,D.ifc 84 (.int .i64 21)]))) true x64 true x65 true x66 true x91 a178 true))
    |PR.no=>none else none else some (Sum.inr (Ex.exit 0,e0x0 xs d x64 x65 x66 x91 x67))
   |x=>none else none:=by kernel_rfl
theorem round0_1 (xs:List D) (d:Int) (lv:Int) (s:ByteArray) (x21:Bool) (x22:Int) (x23:Int) (x24:Int) (x68:Bool) (x69:ByteArray) (x70:Bool) (x71:ByteArray) (x72:Bool) (x73:List D) (x74:Bool) (x75:Int):roundK (X B) [(0,3328)] (sub [1,1,0,0,0] (body Tryz.f62)) (s0 xs d lv s (.ifc 114 (.pt 3 (.ag [D.int .i64 x22,D.ifc 84 (.int .i64 x23)]))) x68 x69 x70 x71 x72 x73 x74 x75 x24 x21)=some (Sum.inr (Ex.exit 0,e0x0_1 xs d x21 x22 x23 x24 x68 x69 x70 x71 x72 x73 x74 x75)):=by kernel_rfl
theorem behind0x0 {β:Type} (a:Int) (lv:Int) (s:ByteArray) (xs:List D) (d:Int) (x134:ByteArray) (x135:ByteArray) (x136:List D) (x137:Int) (x138:Int) (k:List TV→List TV→Option β):applyK (X B) (finK Tryz.prog Tryz.f62 [.ob true [.ob true [.own true 4 xs,.d false 0 (.int .i64 a)],.d false 0 (.int .i64 d)],.d true 0 (.str s),.d true 0 (.int .i64 lv),.fc true false (63:FuncId) [(0,true)]] k) [Kf.block 0 3328,Kf.seq [] (sub [1,1,1] (body Tryz.f62)) 768] (Ex.exit 0) (e0x0 xs d x134 x135 x136 x137 x138)=k [.d true 5 (.ag [D.str x134,D.str x135,D.sl 5 x136,D.int .i64 x137]),.d false 0 D.nili] [.ob true [.ob true [.own true 4 xs,.d false 0 (.int .i64 x138)],.d false 0 (.int .i64 d)]]:=by kernel_rfl
theorem behind0x0_1 {β:Type} (a:Int) (lv:Int) (s:ByteArray) (xs:List D) (d:Int) (x21:Bool) (x22:Int) (x23:Int) (x24:Int) (x68:Bool) (x69:ByteArray) (x70:Bool) (x71:ByteArray) (x72:Bool) (x73:List D) (x74:Bool) (x75:Int) (k:List TV→List TV→Option β):applyK (X B) (finK Tryz.prog Tryz.f62 [.ob true [.ob true [.own true 4 xs,.d false 0 (.int .i64 a)],.d false 0 (.int .i64 d)],.d true 0 (.str s),.d true 0 (.int .i64 lv),.fc true false (63:FuncId) [(0,true)]] k) [Kf.block 0 3328,Kf.seq [] (sub [1,1,1] (body Tryz.f62)) 768] (Ex.exit 0) (e0x0_1 xs d x21 x22 x23 x24 x68 x69 x70 x71 x72 x73 x74 x75)=k [.d false 5 (.ag [D.str (ByteArray.mk #[]),D.str (ByteArray.mk #[]),D.sl 5 [],D.int .i64 0]),.d x21 0 (.ifc 114 (.pt 3 (.ag [D.int .i64 x22,D.ifc 84 (.int .i64 x23)])))] [.ob true [.ob true [.own true 4 xs,.d false 0 (.int .i64 x24)],.d false 0 (.int .i64 d)]]:=by kernel_rfl
end
end C78k
end Go.Sd
namespace Go.Sd
open Go Go.Cm Go.Proofs Go.Sc
set_option maxRecDepth 100000
namespace D81u
  section
  variable (B:Bd)
noncomputable def X:Fx:=⟨Tryz.prog,QP B,3072,5⟩
def s0 (xs:List D) (a:Int) (d:Int) (lv:Int) (o:ByteArray) (nm:ByteArray) (ks:List D) (p:Int) (s1:ByteArray) (s2:ByteArray) (s3:ByteArray) (x50:Int):S:=⟨Tm.mk 45 [(0,.rp 1 0),(1,.d true 0 (.int .i64 lv)),(3,.fb 64 [.rp 1 0]),(7,.rp 8 0),(10,.rp 11 0),(16,.d true 0 (.sl 0 [D.str s1,D.str s2,D.str s3])),(17,.d false 0 (.int .i64 3)),(18,.d false 0 (.int .i64 x50))],[(1,true,[.rp 69632 0,.d false 0 (.int .i64 d)]),(8,true,[.d true 0 (.str o),.d true 0 (.str nm),.d true 0 (.sl 5 ks),.d true 0 (.int .i64 p)]),(11,true,[.d false 0 (.str (ByteArray.mk #[])),.d false 0 (.str (ByteArray.mk #[])),.own false 5 [],.d false 0 (.int .i64 0)]),(69632,true,[.own true 4 xs,.d false 0 (.int .i64 a)]),(2305843009213693952,true,[.rp 1 0])]⟩
def e0r (xs:List D) (d:Int) (p:Int) (x102:ByteArray) (x103:List D) (x104:Int):S:=⟨Tm.mk 45 [(10,.rp 11 0),(11,.d false 0 D.nili)],[(1,true,[.rp 69632 0,.d false 0 (.int .i64 d)]),(11,true,[.d true 0 (.str x102),.d true 0 (.str (ByteArray.mk #[])),.d true 0 (.sl 5 x103),.d true 0 (.int .i64 p)]),(69632,true,[.own true 4 xs,.d false 0 (.int .i64 x104)]),(2305843009213693952,true,[.rp 1 0])]⟩
def e0r_1 (xs:List D) (d:Int) (x45:Bool) (x46:Int) (x47:Int) (x48:Int):S:=⟨Tm.mk 45 [(10,.rp 11 0),(11,.d x45 0 (.ifc 114 (.pt 3 (.ag [D.int .i64 x46,D.ifc 84 (.int .i64 x47)]))))],[(1,true,[.rp 69632 0,.d false 0 (.int .i64 d)]),(11,true,[.d false 0 (.str (ByteArray.mk #[])),.d false 0 (.str (ByteArray.mk #[])),.own false 5 [],.d false 0 (.int .i64 0)]),(69632,true,[.own true 4 xs,.d false 0 (.int .i64 x48)]),(2305843009213693952,true,[.rp 1 0])]⟩
def e0x0 (xs:List D) (a:Int) (d:Int) (o:ByteArray) (nm:ByteArray) (ks:List D) (p:Int):S:=⟨Tm.mk 45 [(7,.rp 8 0),(10,.rp 11 0)],[(1,true,[.rp 69632 0,.d false 0 (.int .i64 d)]),(8,true,[.d true 0 (.str o),.d true 0 (.str nm),.d true 0 (.sl 5 ks),.d true 0 (.int .i64 p)]),(11,true,[.d false 0 (.str (ByteArray.mk #[])),.d false 0 (.str (ByteArray.mk #[])),.own false 5 [],.d false 0 (.int .i64 0)]),(69632,true,[.own true 4 xs,.d false 0 (.int .i64 a)]),(2305843009213693952,true,[.rp 1 0])]⟩
noncomputable abbrev L0:S→Option (S ⊕ (Ex×S)):=roundK (X B) [(0,1152)] (sub [1,0,1,0,0] (body Tryz.f65))
theorem start {β:Type} (xs:List D) (a:Int) (d:Int) (lv:Int) (o:ByteArray) (nm:ByteArray) (ks:List D) (p:Int) (s1:ByteArray) (s2:ByteArray) (s3:ByteArray) (k:List TV→List TV→Option β):evalF Tryz.prog (QP B) Tryz.f65 [.ob true [.ob true [.own true 4 xs,.d false 0 (.int .i64 a)],.d false 0 (.int .i64 d)],.d true 0 (.int .i64 lv),.d true 5 (.ag [D.str o,D.str nm,D.sl 5 ks,D.int .i64 p]),.fc true true (64:FuncId) [(0,false)],.d true 0 (.sl 0 [D.str s1,D.str s2,D.str s3])] k=goLp (X B) [(0,1152)] (sub [1,0,1,0,0] (body Tryz.f65)) [Kf.block 0 1152,Kf.seq [] (sub [1,1] (body Tryz.f65)) 3072] (finK Tryz.prog Tryz.f65 [.ob true [.ob true [.own true 4 xs,.d false 0 (.int .i64 a)],.d false 0 (.int .i64 d)],.d true 0 (.int .i64 lv),.d true 5 (.ag [D.str o,D.str nm,D.sl 5 ks,D.int .i64 p]),.fc true true (64:FuncId) [(0,false)],.d true 0 (.sl 0 [D.str s1,D.str s2,D.str s3])] k) (s0 xs a d lv o nm ks p s1 s2 s3 (0:Int)):=by kernel_rfl
theorem round0_0 (xs:List D) (a:Int) (d:Int) (lv:Int) (o:ByteArray) (nm:ByteArray) (ks:List D) (p:Int) (s1:ByteArray) (s2:ByteArray) (s3:ByteArray) (x49:Int):roundK (X B) [(0,1152)] (sub [1,0,1,0,0] (body Tryz.f65)) (s0 xs a d lv o nm ks p s1 s2 s3 x49)=if decide (x49<3)=true then if 0≤x49 then match[D.str s1,D.str s2,D.str s3][x49.toNat]? with
   |some x111=>match x111 with
    |D.str s112=>if 0≤a∧a<34359738368 then match xs[a.toNat]? with
     |some (.ag [D.int .i64 c114,D.str t115,D.int .i64 n116])=>if((c114==1||c114==4)&&t115.toList==s112.toList)=true then if okP xs (a+1) d (IntKind.wrap .i64 (lv+1)) B.nu then match pUntl xs (Int.toNat (d+1 - IntKind.wrap .i64 (lv+1))) (a+1)with
      |PR.ok op119 nm120 ks121 p122 a123=>some (Sum.inr (Ex.ret,e0r xs d p s112 [fmD o nm ks p,fmD op119 nm120 ks121 p122] a123))
      |PR.syn p127 a128=>some (Sum.inr (Ex.ret,e0r_1 xs d false p127 (20:Int) a128))
      |PR.deep p132 a133=>some (Sum.inr (Ex.ret,e0r_1 xs d true p132 (21:Int) a133))
      |PR.no=>none else none else some (Sum.inl (s0 xs a d lv o nm ks p s1 s2 s3 (IntKind.wrap .i64 (x49+1))))
     |x=>none else none
    |x=>none
   |none=>none else none else some (Sum.inr (Ex.exit 0,e0x0 xs a d o nm ks p)):=by kernel_rfl
theorem behind0r {β:Type} (a:Int) (lv:Int) (o:ByteArray) (nm:ByteArray) (ks:List D) (s1:ByteArray) (s2:ByteArray) (s3:ByteArray) (xs:List D) (d:Int) (p:Int) (x102:ByteArray) (x103:List D) (x104:Int) (k:List TV→List TV→Option β):applyK (X B) (finK Tryz.prog Tryz.f65 [.ob true [.ob true [.own true 4 xs,.d false 0 (.int .i64 a)],.d false 0 (.int .i64 d)],.d true 0 (.int .i64 lv),.d true 5 (.ag [D.str o,D.str nm,D.sl 5 ks,D.int .i64 p]),.fc true true (64:FuncId) [(0,false)],.d true 0 (.sl 0 [D.str s1,D.str s2,D.str s3])] k) [Kf.block 0 1152,Kf.seq [] (sub [1,1] (body Tryz.f65)) 3072] Ex.ret (e0r xs d p x102 x103 x104)=k [.d true 5 (.ag [D.str x102,D.str (ByteArray.mk #[]),D.sl 5 x103,D.int .i64 p]),.d false 0 D.nili] [.ob true [.ob true [.own true 4 xs,.d false 0 (.int .i64 x104)],.d false 0 (.int .i64 d)]]:=by kernel_rfl
theorem behind0r_1 {β:Type} (a:Int) (lv:Int) (o:ByteArray) (nm:ByteArray) (ks:List D) (p:Int) (s1:ByteArray) (s2:ByteArray) (s3:ByteArray) (xs:List D) (d:Int) (x45:Bool) (x46:Int) (x47:Int) (x48:Int) (k:List TV→List TV→Option β):applyK (X B) (finK Tryz.prog Tryz.f65 [.ob true [.ob true [.own true 4 xs,.d false 0 (.int .i64 a)],.d false 0 (.int .i64 d)],.d true 0 (.int .i64 lv),.d true 5 (.ag [D.str o,D.str nm,D.sl 5 ks,D.int .i64 p]),.fc true true (64:FuncId) [(0,false)],.d true 0 (.sl 0 [D.str s1,D.str s2,D.str s3])] k) [Kf.block 0 1152,Kf.seq [] (sub [1,1] (body Tryz.f65)) 3072] Ex.ret (e0r_1 xs d x45 x46 x47 x48)=k [.d false 5 (.ag [D.str (ByteArray.mk #[]),D.str (ByteArray.mk #[]),D.sl 5 [],D.int .i64 0]),.d x45 0 (.ifc 114 (.pt 3 (.ag [D.int .i64 x46,D.ifc 84 (.int .i64 x47)])))] [.ob true [.ob true [.own true 4 xs,.d false 0 (.int .i64 x48)],.d false 0 (.int .i64 d)]]:=by kernel_rfl
theorem behind0x0 {β:Type} (lv:Int) (s1:ByteArray) (s2:ByteArray) (s3:ByteArray) (xs:List D) (a:Int) (d:Int) (o:ByteArray) (nm:ByteArray) (ks:List D) (p:Int) (k:List TV→List TV→Option β):applyK (X B) (finK Tryz.prog Tryz.f65 [.ob true [.ob true [.own true 4 xs,.d false 0 (.int .i64 a)],.d false 0 (.int .i64 d)],.d true 0 (.int .i64 lv),.d true 5 (.ag [D.str o,D.str nm,D.sl 5 ks,D.int .i64 p]),.fc true true (64:FuncId) [(0,false)],.d true 0 (.sl 0 [D.str s1,D.str s2,D.str s3])] k) [Kf.block 0 1152,Kf.seq [] (sub [1,1] (body Tryz.f65)) 3072] (Ex.exit 0) (e0x0 xs a d o nm ks p)=k [.d true 5 (.ag [D.str o,D.str nm,D.sl 5 ks,D.int .i64 p]),.d false 0 D.nili] [.ob true [.ob true [.own true 4 xs,.d false 0 (.int .i64 a)],.d false 0 (.int .i64 d)]]:=by kernel_rfl
end
end D81u
namespace D81i
  section
  variable (B:Bd)
noncomputable def X:Fx:=⟨Tryz.prog,QP B,3072,5⟩
def s0 (xs:List D) (a:Int) (d:Int) (lv:Int) (o:ByteArray) (nm:ByteArray) (ks:List D) (p:Int) (s1:ByteArray) (x50:Int):S:=⟨Tm.mk 45 [(0,.rp 1 0),(1,.d true 0 (.int .i64 lv)),(3,.fb 40 [.rp 1 0]),(7,.rp 8 0),(10,.rp 11 0),(16,.d true 0 (.sl 0 [D.str s1])),(17,.d false 0 (.int .i64 1)),(18,.d false 0 (.int .i64 x50))],[(1,true,[.rp 69632 0,.d false 0 (.int .i64 d)]),(8,true,[.d true 0 (.str o),.d true 0 (.str nm),.d true 0 (.sl 5 ks),.d true 0 (.int .i64 p)]),(11,true,[.d false 0 (.str (ByteArray.mk #[])),.d false 0 (.str (ByteArray.mk #[])),.own false 5 [],.d false 0 (.int .i64 0)]),(69632,true,[.own true 4 xs,.d false 0 (.int .i64 a)]),(2305843009213693952,true,[.rp 1 0])]⟩
def e0r (xs:List D) (d:Int) (p:Int) (x102:ByteArray) (x103:List D) (x104:Int):S:=⟨Tm.mk 45 [(10,.rp 11 0),(11,.d false 0 D.nili)],[(1,true,[.rp 69632 0,.d false 0 (.int .i64 d)]),(11,true,[.d true 0 (.str x102),.d true 0 (.str (ByteArray.mk #[])),.d true 0 (.sl 5 x103),.d true 0 (.int .i64 p)]),(69632,true,[.own true 4 xs,.d false 0 (.int .i64 x104)]),(2305843009213693952,true,[.rp 1 0])]⟩
def e0r_1 (xs:List D) (d:Int) (x45:Bool) (x46:Int) (x47:Int) (x48:Int):S:=⟨Tm.mk 45 [(10,.rp 11 0),(11,.d x45 0 (.ifc 114 (.pt 3 (.ag [D.int .i64 x46,D.ifc 84 (.int .i64 x47)]))))],[(1,true,[.rp 69632 0,.d false 0 (.int .i64 d)]),(11,true,[.d false 0 (.str (ByteArray.mk #[])),.d false 0 (.str (ByteArray.mk #[])),.own false 5 [],.d false 0 (.int .i64 0)]),(69632,true,[.own true 4 xs,.d false 0 (.int .i64 x48)]),(2305843009213693952,true,[.rp 1 0])]⟩
def e0x0 (xs:List D) (a:Int) (d:Int) (o:ByteArray) (nm:ByteArray) (ks:List D) (p:Int):S:=⟨Tm.mk 45 [(7,.rp 8 0),(10,.rp 11 0)],[(1,true,[.rp 69632 0,.d false 0 (.int .i64 d)]),(8,true,[.d true 0 (.str o),.d true 0 (.str nm),.d true 0 (.sl 5 ks),.d true 0 (.int .i64 p)]),(11,true,[.d false 0 (.str (ByteArray.mk #[])),.d false 0 (.str (ByteArray.mk #[])),.own false 5 [],.d false 0 (.int .i64 0)]),(69632,true,[.own true 4 xs,.d false 0 (.int .i64 a)]),(2305843009213693952,true,[.rp 1 0])]⟩
noncomputable abbrev L0:S→Option (S ⊕ (Ex×S)):=roundK (X B) [(0,1152)] (sub [1,0,1,0,0] (body Tryz.f65))
theorem start {β:Type} (xs:List D) (a:Int) (d:Int) (lv:Int) (o:ByteArray) (nm:ByteArray) (ks:List D) (p:Int) (s1:ByteArray) (k:List TV→List TV→Option β):evalF Tryz.prog (QP B) Tryz.f65 [.ob true [.ob true [.own true 4 xs,.d false 0 (.int .i64 a)],.d false 0 (.int .i64 d)],.d true 0 (.int .i64 lv),.d true 5 (.ag [D.str o,D.str nm,D.sl 5 ks,D.int .i64 p]),.fc true true (40:FuncId) [(0,false)],.d true 0 (.sl 0 [D.str s1])] k=goLp (X B) [(0,1152)] (sub [1,0,1,0,0] (body Tryz.f65)) [Kf.block 0 1152,Kf.seq [] (sub [1,1] (body Tryz.f65)) 3072] (finK Tryz.prog Tryz.f65 [.ob true [.ob true [.own true 4 xs,.d false 0 (.int .i64 a)],.d false 0 (.int .i64 d)],.d true 0 (.int .i64 lv),.d true 5 (.ag [D.str o,D.str nm,D.sl 5 ks,D.int .i64 p]),.fc true true (40:FuncId) [(0,false)],.d true 0 (.sl 0 [D.str s1])] k) (s0 xs a d lv o nm ks p s1 (0:Int)):=by kernel_rfl
theorem round0_0 (xs:List D) (a:Int) (d:Int) (lv:Int) (o:ByteArray) (nm:ByteArray) (ks:List D) (p:Int) (s1:ByteArray) (x49:Int):roundK (X B) [(0,1152)] (sub [1,0,1,0,0] (body Tryz.f65)) (s0 xs a d lv o nm ks p s1 x49)=if decide (x49<1)=true then if 0≤x49 then match[D.str s1][x49.toNat]? with
   |some x111=>match x111 with
    |D.str s112=>if 0≤a∧a<34359738368 then match xs[a.toNat]? with
     |some (.ag [D.int .i64 c114,D.str t115,D.int .i64 n116])=>if((c114==1||c114==4)&&t115.toList==s112.toList)=true then if okP xs (a+1) d (IntKind.wrap .i64 (lv+1)) B.ni then match pImply xs (Int.toNat (d+1 - IntKind.wrap .i64 (lv+1))) (a+1)with
      |PR.ok op119 nm120 ks121 p122 a123=>some (Sum.inr (Ex.ret,e0r xs d p s112 [fmD o nm ks p,fmD op119 nm120 ks121 p122] a123))
      |PR.syn p127 a128=>some (Sum.inr (Ex.ret,e0r_1 xs d false p127 (20:Int) a128))
      |PR.deep p132 a133=>some (Sum.inr (Ex.ret,e0r_1 xs d true p132 (21:Int) a133))
      |PR.no=>none else none else some (Sum.inl (s0 xs a d lv o nm ks p s1 (IntKind.wrap .i64 (x49+1))))
     |x=>none else none
    |x=>none
   |none=>none else none else some (Sum.inr (Ex.exit 0,e0x0 xs a d o nm ks p)):=by kernel_rfl
theorem behind0r {β:Type} (a:Int) (lv:Int) (o:ByteArray) (nm:ByteArray) (ks:List D) (s1:ByteArray) (xs:List D) (d:Int) (p:Int) (x102:ByteArray) (x103:List D) (x104:Int) (k:List TV→List TV→Option β):applyK (X B) (finK Tryz.prog Tryz.f65 [.ob true [.ob true [.own true 4 xs,.d false 0 (.int .i64 a)],.d false 0 (.int .i64 d)],.d true 0 (.int .i64 lv),.d true 5 (.ag [D.str o,D.str nm,D.sl 5 ks,D.int .i64 p]),.fc true true (40:FuncId) [(0,false)],.d true 0 (.sl 0 [D.str s1])] k) [Kf.block 0 1152,Kf.seq [] (sub [1,1] (body Tryz.f65)) 3072] Ex.ret (e0r xs d p x102 x103 x104)=k [.d true 5 (.ag [D.str x102,D.str (ByteArray.mk #[]),D.sl 5 x103,D.int .i64 p]),.d false 0 D.nili] [.ob true [.ob true [.own true 4 xs,.d false 0 (.int .i64 x104)],.d false 0 (.int .i64 d)]]:=by kernel_rfl
theorem behind0r_1 {β:Type} (a:Int) (lv:Int) (o:ByteArray) (nm:ByteArray) (ks:List D) (p:Int) (s1:ByteArray) (xs:List D) (d:Int) (x45:Bool) (x46:Int) (x47:Int) (x48:Int) (k:List TV→List TV→Option β):applyK (X B) (finK Tryz.prog Tryz.f65 [.ob true [.ob true [.own true 4 xs,.d false 0 (.int .i64 a)],.d false 0 (.int .i64 d)],.d true 0 (.int .i64 lv),.d true 5 (.ag [D.str o,D.str nm,D.sl 5 ks,D.int .i64 p]),.fc true true (40:FuncId) [(0,false)],.d true 0 (.sl 0 [D.str s1])] k) [Kf.block 0 1152,Kf.seq [] (sub [1,1] (body Tryz.f65)) 3072] Ex.ret (e0r_1 xs d x45 x46 x47 x48)=k [.d false 5 (.ag [D.str (ByteArray.mk #[]),D.str (ByteArray.mk #[]),D.sl 5 [],D.int .i64 0]),.d x45 0 (.ifc 114 (.pt 3 (.ag [D.int .i64 x46,D.ifc 84 (.int .i64 x47)])))] [.ob true [.ob true [.own true 4 xs,.d false 0 (.int .i64 x48)],.d false 0 (.int .i64 d)]]:=by kernel_rfl
theorem behind0x0 {β:Type} (lv:Int) (s1:ByteArray) (xs:List D) (a:Int) (d:Int) (o:ByteArray) (nm:ByteArray) (ks:List D) (p:Int) (k:List TV→List TV→Option β):applyK (X B) (finK Tryz.prog Tryz.f65 [.ob true [.ob true [.own true 4 xs,.d false 0 (.int .i64 a)],.d false 0 (.int .i64 d)],.d true 0 (.int .i64 lv),.d true 5 (.ag [D.str o,D.str nm,D.sl 5 ks,D.int .i64 p]),.fc true true (40:FuncId) [(0,false)],.d true 0 (.sl 0 [D.str s1])] k) [Kf.block 0 1152,Kf.seq [] (sub [1,1] (body Tryz.f65)) 3072] (Ex.exit 0) (e0x0 xs a d o nm ks p)=k [.d true 5 (.ag [D.str o,D.str nm,D.sl 5 ks,D.int .i64 p]),.d false 0 D.nili] [.ob true [.ob true [.own true 4 xs,.d false 0 (.int .i64 a)],.d false 0 (.int .i64 d)]]:=by kernel_rfl
end
end D81i
end Go.Sd
namespace Go.Sd
open Go Go.Cm Go.Proofs Go.Sc
set_option maxRecDepth 100000
theorem envq0:EnvOk glS Tryz.prog Q0:=env_num env24
theorem envq1:EnvOk glS Tryz.prog Q1:=envq0.fn mixed Tryz.func42 (by kernel_rfl) fun β args k r hr=>by
 unfold cAt at hr
 split at hr
 ·rename_i xs a d n
  unfold chkK at hr
  split at hr
  ·rename_i h0
   split at hr
   ·rename_i c t p hx
    refine⟨_,_,hr,fun q=>?_⟩
    rw[A57.start,if_pos h0,hx];rfl
   ·cases hr
  ·cases hr
 ·cases hr
theorem envq2:EnvOk glS Tryz.prog Q2:=envq1.fn mixed Tryz.func94 (by kernel_rfl) fun β args k r hr=>by
 unfold cTwo at hr
 split at hr
 ·rename_i op o1 n1 k1 p1 o2 n2 k2 p2
  refine⟨_,_,hr,fun q=>?_⟩
  rw[A107.start];rfl
 ·cases hr
theorem ansP_out {β:Type} {o:Int→TV} {k:List TV→List TV→Option β} {x:PR} {r:β} (h:ansP o k x=some r):
  ∃res outs,k res outs=some r∧∀{γ:Type} (q:List TV→List TV→Option γ),ansP o q x=q res outs:=by
 cases x with
 |ok op nm ks p a=>exact⟨_,_,h,fun q=>rfl⟩
 |syn p a=>exact⟨_,_,h,fun q=>rfl⟩
 |deep p a=>exact⟨_,_,h,fun q=>rfl⟩
 |no=>cases h
theorem ansP_no {β:Type} {o:Int→TV} {k:List TV→List TV→Option β}:ansP o k .no=none:=rfl
def Ev (B:Bd) (fn:Func) (c:{β:Type}→List TV→(List TV→List TV→Option β)→Option β):Prop:=
 ∀(β:Type) (args:List TV) (k:List TV→List TV→Option β) (r:β),c args k=some r→∃res outs,k res outs=some r∧∀{γ:Type} (q:List TV→List TV→Option γ),evalF Tryz.prog (QP B) fn args q=q res outs
theorem EnvOk.upd {B:Bd} {E':Env} {f:FuncId} {fn:Func} {c:{β:Type}→List TV→(List TV→List TV→Option β)→Option β} (h:EnvOk glS Tryz.prog (QP B)) (hf:Tryz.prog.funcs[f]? =some fn) (hn:(fn.name== "runtime.NumGoroutine")=false) (hc:Ev B fn c)
  (hE:∀(β:Type) (g:FuncId) (args:List TV) (k:List TV→List TV→Option β) (r:β),E'.c g args k=some r→(QP B).c g args k=some r∨(g=f∧c args k=some r)):EnvOk glS Tryz.prog E':=by
 intro β g args k r hr
 rcases hE β g args k r hr with h1|⟨rfl,h1⟩
 ·exact h β g args k r h1
 ·obtain⟨res,outs,h2,h3⟩:=hc β args k r h1
  exact⟨res,outs,h2,valid_of h mixed hf hn (h3 _)⟩
theorem okP_mono {xs:List D} {a d lv:Int} {m n:Nat} (h:okP xs a d lv m) (hn:m≤n):okP xs a d lv n:=⟨h.1,h.2.1,h.2.2.1,h.2.2.2.1,h.2.2.2.2.1,Nat.lt_of_lt_of_le h.2.2.2.2.2 hn⟩
theorem okP_at {xs:List D} {a d lv b:Int} {n:Nat} (h:okP xs a d lv n) (hb:a≤b):okP xs b d lv n:=⟨h.1,Int.le_trans h.2.1 hb,h.2.2⟩
theorem wlv {lv:Int} (h1: -1≤lv) (h2:lv≤1001):IntKind.wrap .i64 (lv+1)=lv+1:=wrap_id (by omega) (by omega)
theorem Lp_unfold {σ α:Type} {f:σ→Option (σ ⊕ α)} {s s':σ} (h:f s=some (.inl s')):Lp f s=Lp f s':=by
 cases h2:Lp f s' with
 |some r=>exact Lp_step h h2
 |none=>
  cases h3:Lp f s with
  |none=>rfl
  |some r=>
   obtain⟨n,hn⟩:=Lp.of_some h3
   cases n with
   |zero=>simp[Lp.iter]at hn
   |succ n=>
    simp only[Lp.iter,h]at hn
    rw[Lp.eq_of hn]at h2;cases h2
theorem right_round {B:Bd} {xs:List D} {a d lv:Int} (h:okP xs a d (lv+1) B.nu) (o nm:ByteArray) (ks:List D) (p:Int) (s1 s2 s3:ByteArray) {β:Type} (q:List TV→List TV→Option β):
  ∀(ops:List ByteArray) (i:Nat),[s1,s2,s3].drop i=ops→i≤3→rightP xs (pUntl xs (d - lv).toNat) o nm ks p ops a≠.no→
   goLp (D81u.X B) [((0:Nat),(1152:Nat))] (sub [(1:Nat),(0:Nat),(1:Nat),(0:Nat),(0:Nat)] (body Tryz.f65)) [Kf.block (0:Nat) (1152:Nat),Kf.seq [] (sub [(1:Nat),(1:Nat)] (body Tryz.f65)) (3072:Nat)]
    (finK Tryz.prog Tryz.f65 [pars xs a d,TV.d true 0 (D.int .i64 lv),TV.d true 5 (fmD o nm ks p),TV.fc true true 64 [(0,false)],TV.d true 0 (.sl 0 [.str s1,.str s2,.str s3])] q)
    (D81u.s0 xs a d lv o nm ks p s1 s2 s3 i)=ansP (fun a=>pars xs a d) q (rightP xs (pUntl xs (d - lv).toNat) o nm ks p ops a)
 |[],i,hi,hi3,hno=>by
  have hr:=D81u.round0_0 B xs a d lv o nm ks p s1 s2 s3 i
  have:i=3:=by
   rcases Nat.lt_or_ge i 3 with h|h
   ·have:=congrArg List.length hi;simp at this;omega
   ·omega
  subst this
  rw[if_neg (by simp)]at hr
  rw[goLp_of (Lp_exit hr)]
  exact D81u.behind0x0 B lv s1 s2 s3 xs a d o nm ks p q
 |op::ops,i,hi,hi3,hno=>by
  have hr:=D81u.round0_0 B xs a d lv o nm ks p s1 s2 s3 i
  have hlt:i<3:=by
   rcases Nat.lt_or_ge i 3 with h|h
   ·exact h
   ·have:=congrArg List.length hi;simp at this;omega
  have hget:[D.str s1,D.str s2,D.str s3][i]? =some (.str op):=by
   have:[s1,s2,s3][i]? =some op:=by
    have:=congrArg (·[0]?) hi
    simpa using this
   have e:[D.str s1,D.str s2,D.str s3]=[s1,s2,s3].map D.str:=rfl
   rw[e,List.getElem?_map,this];rfl
  rw[if_pos (by simp;omega),if_pos (by omega),Int.toNat_natCast,hget]at hr
  have w:IntKind.wrap .i64 ((i:Int)+1)=((i+1:Nat):Int):=by rw[wlv (by omega) (by omega)];simp
  rw[wlv (by have:=h.2.2.1;omega) (by have:=h.2.2.2.1;omega),w]at hr
  unfold rightP at hno ⊢
  cases ht:tk xs a with
  |none=>rw[ht]at hno;exact(hno rfl).elim
  |some v=>
   obtain⟨c,t,p0⟩:=v
   rw[ht]at hno
   simp only at hno ⊢
   have h3:=h.2.1;have h4:=h.1
   have h5:=tk_lt ht h.2.1
   have hx:=tk_some ht
   simp only[hx,if_pos (show(0:Int)≤a∧a<34359738368 by omega)]at hr
   by_cases hb:isT c t op=true
   ·rw[if_pos hb]at hno ⊢
    have hb':=hb
    simp only[isT]at hb'
    rw[if_pos hb',if_pos (okP_at h (by omega)),show(d+1 - (lv+1)).toNat=(d - lv).toNat by omega]at hr
    cases hp:pUntl xs (d - lv).toNat (a+1)with
    |ok o2 nm2 ks2 p2 a2=>
     rw[hp]at hr
     rw[goLp_of (Lp_exit hr)]
     exact D81u.behind0r B a lv o nm ks s1 s2 s3 xs d p op _ a2 q
    |syn p2 a2=>
     rw[hp]at hr
     rw[goLp_of (Lp_exit hr)]
     exact D81u.behind0r_1 B a lv o nm ks p s1 s2 s3 xs d false p2 20 a2 q
    |deep p2 a2=>
     rw[hp]at hr
     rw[goLp_of (Lp_exit hr)]
     exact D81u.behind0r_1 B a lv o nm ks p s1 s2 s3 xs d true p2 21 a2 q
    |no=>rw[hp]at hno;exact(hno rfl).elim
   ·rw[if_neg hb]at hno ⊢
    have hb':=hb
    simp only[isT]at hb'
    rw[if_neg hb']at hr
    have ih:=right_round h o nm ks p s1 s2 s3 q ops (i+1) (by rw[←List.drop_drop,hi];rfl) (by omega) hno
    rw[←ih]
    simp only[goLp]
    rw[Lp_unfold hr]
theorem right_roundi {B:Bd} {xs:List D} {a d lv:Int} (h:okP xs a d (lv+1) B.ni) (o nm:ByteArray) (ks:List D) (p:Int) (s1:ByteArray) {β:Type} (q:List TV→List TV→Option β):
  ∀(ops:List ByteArray) (i:Nat),[s1].drop i=ops→i≤1→rightP xs (pImply xs (d - lv).toNat) o nm ks p ops a≠.no→
   goLp (D81i.X B) [((0:Nat),(1152:Nat))] (sub [(1:Nat),(0:Nat),(1:Nat),(0:Nat),(0:Nat)] (body Tryz.f65)) [Kf.block (0:Nat) (1152:Nat),Kf.seq [] (sub [(1:Nat),(1:Nat)] (body Tryz.f65)) (3072:Nat)]
    (finK Tryz.prog Tryz.f65 [pars xs a d,TV.d true 0 (D.int .i64 lv),TV.d true 5 (fmD o nm ks p),TV.fc true true 40 [(0,false)],TV.d true 0 (.sl 0 [.str s1])] q)
    (D81i.s0 xs a d lv o nm ks p s1 i)=ansP (fun a=>pars xs a d) q (rightP xs (pImply xs (d - lv).toNat) o nm ks p ops a)
 |[],i,hi,hi3,hno=>by
  have hr:=D81i.round0_0 B xs a d lv o nm ks p s1 i
  have:i=1:=by
   rcases Nat.lt_or_ge i 1 with h|h
   ·have:=congrArg List.length hi;simp at this;omega
   ·omega
  subst this
  rw[if_neg (by simp)]at hr
  rw[goLp_of (Lp_exit hr)]
  exact D81i.behind0x0 B lv s1 xs a d o nm ks p q
 |op::ops,i,hi,hi3,hno=>by
  have hr:=D81i.round0_0 B xs a d lv o nm ks p s1 i
  have hlt:i<1:=by
   rcases Nat.lt_or_ge i 1 with h|h
   ·exact h
   ·have:=congrArg List.length hi;simp at this;omega
  have hget:[D.str s1][i]? =some (.str op):=by
   have:[s1][i]? =some op:=by
    have:=congrArg (·[0]?) hi
    simpa using this
   have e:[D.str s1]=[s1].map D.str:=rfl
   rw[e,List.getElem?_map,this];rfl
  rw[if_pos (by simp;omega),if_pos (by omega),Int.toNat_natCast,hget]at hr
  have w:IntKind.wrap .i64 ((i:Int)+1)=((i+1:Nat):Int):=by rw[wlv (by omega) (by omega)];simp
  rw[wlv (by have:=h.2.2.1;omega) (by have:=h.2.2.2.1;omega),w]at hr
  unfold rightP at hno ⊢
  cases ht:tk xs a with
  |none=>rw[ht]at hno;exact(hno rfl).elim
  |some v=>
   obtain⟨c,t,p0⟩:=v
   rw[ht]at hno
   simp only at hno ⊢
   have h3:=h.2.1;have h4:=h.1
   have h5:=tk_lt ht h.2.1
   have hx:=tk_some ht
   simp only[hx,if_pos (show(0:Int)≤a∧a<34359738368 by omega)]at hr
   by_cases hb:isT c t op=true
   ·rw[if_pos hb]at hno ⊢
    have hb':=hb
    simp only[isT]at hb'
    rw[if_pos hb',if_pos (okP_at h (by omega)),show(d+1 - (lv+1)).toNat=(d - lv).toNat by omega]at hr
    cases hp:pImply xs (d - lv).toNat (a+1)with
    |ok o2 nm2 ks2 p2 a2=>
     rw[hp]at hr
     rw[goLp_of (Lp_exit hr)]
     exact D81i.behind0r B a lv o nm ks s1 xs d p op _ a2 q
    |syn p2 a2=>
     rw[hp]at hr
     rw[goLp_of (Lp_exit hr)]
     exact D81i.behind0r_1 B a lv o nm ks p s1 xs d false p2 20 a2 q
    |deep p2 a2=>
     rw[hp]at hr
     rw[goLp_of (Lp_exit hr)]
     exact D81i.behind0r_1 B a lv o nm ks p s1 xs d true p2 21 a2 q
    |no=>rw[hp]at hno;exact(hno rfl).elim
   ·rw[if_neg hb]at hno ⊢
    have hb':=hb
    simp only[isT]at hb'
    rw[if_neg hb']at hr
    have ih:=right_roundi h o nm ks p s1 q ops (i+1) (by rw[←List.drop_drop,hi];rfl) (by omega) hno
    rw[←ih]
    simp only[goLp]
    rw[Lp_unfold hr]
theorem ev_right {B:Bd} {ni nu:Nat} (hi:ni≤B.ni) (hu:nu≤B.nu):Ev B Tryz.f65 (cRight ni nu):=fun β args k r hr=>by
 replace hr:cRight ni nu args k=some r:=hr
 unfold cRight at hr
 split at hr
 ·rename_i xs a d lv o nm ks p s1 s2 s3
  unfold chkK at hr
  split at hr
  ·rename_i h0
   have hno:pRight xs (d - lv).toNat true o nm ks p [s1,s2,s3] a≠.no:=fun e=>by rw[e,ansP_no]at hr;cases hr
   obtain⟨res,outs,h1,h2⟩:=ansP_out hr
   refine⟨res,outs,h1,fun q=>?_⟩
   rw[←h2 q,D81u.start]
   exact right_round (okP_mono h0 hu) o nm ks p s1 s2 s3 q [s1,s2,s3] 0 rfl (by omega) hno
  ·cases hr
 ·rename_i xs a d lv o nm ks p s1
  unfold chkK at hr
  split at hr
  ·rename_i h0
   have hno:pRight xs (d - lv).toNat false o nm ks p [s1] a≠.no:=fun e=>by rw[e,ansP_no]at hr;cases hr
   obtain⟨res,outs,h1,h2⟩:=ansP_out hr
   refine⟨res,outs,h1,fun q=>?_⟩
   rw[←h2 q,D81i.start]
   exact right_roundi (okP_mono h0 hi) o nm ks p s1 q [s1] 0 rfl (by omega) hno
  ·cases hr
 ·cases hr
end Go.Sd
namespace Go.Sd
open Go Go.Cm Go.Proofs Go.Sc
set_option maxRecDepth 100000
theorem chain_loopU {B:Bd} {xs:List D} {d lv:Int} (s:ByteArray) (a0:Int) {β:Type} (q:List TV→List TV→Option β):
  ∀(n:Nat) (o nm:ByteArray) (ks:List D) (p a:Int),okP xs a d lv B.nu→chainL xs s (pUntl xs (d+1 - lv).toNat) n o nm ks p a≠.no→
   goLp (C78u.X B) [((0:Nat),(3328:Nat))] (sub [(1:Nat),(1:Nat),(0:Nat),(0:Nat),(0:Nat)] (body Tryz.f62)) [Kf.block (0:Nat) (3328:Nat),Kf.seq [] (sub [(1:Nat),(1:Nat),(1:Nat)] (body Tryz.f62)) (768:Nat)]
    (finK Tryz.prog Tryz.f62 [pars xs a0 d,TV.d true 0 (D.str s),TV.d true 0 (D.int .i64 lv),TV.fc true true 64 [(0,false)]] q)
    (C78u.s0 xs d lv s .nili true o true nm true ks true p a false)=ansP (fun a=>pars xs a d) q (chainL xs s (pUntl xs (d+1 - lv).toNat) n o nm ks p a)
 |0,o,nm,ks,p,a,h,hno=>(hno rfl).elim
 |n+1,o,nm,ks,p,a,h,hno=>by
  have hr:=C78u.round0_0 B xs d lv s o nm ks a p
  unfold chainL at hno ⊢
  cases ht:tk xs a with
  |none=>rw[ht]at hno;exact(hno rfl).elim
  |some v=>
   obtain⟨c,t,p0⟩:=v
   rw[ht]at hno
   simp only at hno ⊢
   have h3:=h.2.1;have h4:=h.1
   have h5:=tk_lt ht h.2.1
   have hx:=tk_some ht
   simp only[hx,if_pos (show(0:Int)≤a∧a<34359738368 by omega)]at hr
   by_cases hb:isT c t s=true
   ·rw[if_pos hb]at hno ⊢
    have hb':=hb
    simp only[isT]at hb'
    rw[if_pos hb',if_pos (okP_at h (by omega))]at hr
    have hadv:=adv_untl xs (d+1 - lv).toNat (a+1)
    cases hp:pUntl xs (d+1 - lv).toNat (a+1)with
    |ok o2 nm2 ks2 p2 a2=>
     rw[hp]at hr hno hadv
     simp only at hno ⊢
     simp only[Adv]at hadv
     rw[←chain_loopU s a0 q n s ⟨#[]⟩ [fmD o nm ks p,fmD o2 nm2 ks2 p2] p a2 (okP_at h (by omega)) hno]
     simp only[goLp]
     rw[Lp_unfold hr]
    |syn p2 a2=>
     rw[hp]at hr
     rw[goLp_of (Lp_step hr (Lp_exit (C78u.round0_1 B xs d lv s false p2 20 a2 true o true nm true ks true p)))]
     exact C78u.behind0x0_1 B a0 lv s xs d false p2 20 a2 true o true nm true ks true p q
    |deep p2 a2=>
     rw[hp]at hr
     rw[goLp_of (Lp_step hr (Lp_exit (C78u.round0_1 B xs d lv s true p2 21 a2 true o true nm true ks true p)))]
     exact C78u.behind0x0_1 B a0 lv s xs d true p2 21 a2 true o true nm true ks true p q
    |no=>rw[hp]at hno;exact(hno rfl).elim
   ·rw[if_neg hb]at hno ⊢
    have hb':=hb
    simp only[isT]at hb'
    rw[if_neg hb']at hr
    rw[goLp_of (Lp_exit hr)]
    exact C78u.behind0x0 B a0 lv s xs d o nm ks p a q
theorem chain_allU {B:Bd} {xs:List D} {d lv:Int} (s:ByteArray) (a:Int) {β:Type} (q:List TV→List TV→Option β) (h:okP xs a d lv B.nu) (hno:pChain xs s (d+1 - lv).toNat true a≠.no):
  evalF Tryz.prog (QP B) Tryz.f62 [pars xs a d,TV.d true 0 (D.str s),TV.d true 0 (D.int .i64 lv),TV.fc true true 64 [(0,false)]] q=ansP (fun a=>pars xs a d) q (pChain xs s (d+1 - lv).toNat true a):=by
 have st:=C78u.start B xs a d lv s q
 rw[if_pos h]at st
 refine Eq.trans st ?_
 have hadv:=adv_untl xs (d+1 - lv).toNat a
 simp only[pChain,chainP]at hno ⊢
 cases hp:pUntl xs (d+1 - lv).toNat a with
 |ok o nm ks p a2=>
  rw[hp]at hno hadv
  simp only at hno ⊢
  simp only[Adv]at hadv
  exact chain_loopU s a q (xs.length+1) o nm ks p a2 (okP_at h (by omega)) hno
 |syn p2 a2=>
  simp only
  rw[goLp_of (Lp_exit (C78u.round0_1 B xs d lv s false p2 20 a2 false ⟨#[]⟩ false ⟨#[]⟩ false [] false 0))]
  exact C78u.behind0x0_1 B a lv s xs d false p2 20 a2 false ⟨#[]⟩ false ⟨#[]⟩ false [] false 0 q
 |deep p2 a2=>
  simp only
  rw[goLp_of (Lp_exit (C78u.round0_1 B xs d lv s true p2 21 a2 false ⟨#[]⟩ false ⟨#[]⟩ false [] false 0))]
  exact C78u.behind0x0_1 B a lv s xs d true p2 21 a2 false ⟨#[]⟩ false ⟨#[]⟩ false [] false 0 q
 |no=>rw[hp]at hno;exact(hno rfl).elim
theorem chain_loopK {B:Bd} {xs:List D} {d lv:Int} (s:ByteArray) (a0:Int) {β:Type} (q:List TV→List TV→Option β):
  ∀(n:Nat) (o nm:ByteArray) (ks:List D) (p a:Int),okP xs a d lv B.nk→chainL xs s (pK xs (d+1 - lv).toNat) n o nm ks p a≠.no→
   goLp (C78k.X B) [((0:Nat),(3328:Nat))] (sub [(1:Nat),(1:Nat),(0:Nat),(0:Nat),(0:Nat)] (body Tryz.f62)) [Kf.block (0:Nat) (3328:Nat),Kf.seq [] (sub [(1:Nat),(1:Nat),(1:Nat)] (body Tryz.f62)) (768:Nat)]
    (finK Tryz.prog Tryz.f62 [pars xs a0 d,TV.d true 0 (D.str s),TV.d true 0 (D.int .i64 lv),TV.fc true false 63 [(0,true)]] q)
    (C78k.s0 xs d lv s .nili true o true nm true ks true p a false)=ansP (fun a=>pars xs a d) q (chainL xs s (pK xs (d+1 - lv).toNat) n o nm ks p a)
 |0,o,nm,ks,p,a,h,hno=>(hno rfl).elim
 |n+1,o,nm,ks,p,a,h,hno=>by
  have hr:=C78k.round0_0 B xs d lv s o nm ks a p
  unfold chainL at hno ⊢
  cases ht:tk xs a with
  |none=>rw[ht]at hno;exact(hno rfl).elim
  |some v=>
   obtain⟨c,t,p0⟩:=v
   rw[ht]at hno
   simp only at hno ⊢
   have h3:=h.2.1;have h4:=h.1
   have h5:=tk_lt ht h.2.1
   have hx:=tk_some ht
   simp only[hx,if_pos (show(0:Int)≤a∧a<34359738368 by omega)]at hr
   by_cases hb:isT c t s=true
   ·rw[if_pos hb]at hno ⊢
    have hb':=hb
    simp only[isT]at hb'
    rw[if_pos hb',if_pos (okP_at h (by omega))]at hr
    have hadv:=adv_k xs (d+1 - lv).toNat (a+1)
    cases hp:pK xs (d+1 - lv).toNat (a+1)with
    |ok o2 nm2 ks2 p2 a2=>
     rw[hp]at hr hno hadv
     simp only at hno ⊢
     simp only[Adv]at hadv
     rw[←chain_loopK s a0 q n s ⟨#[]⟩ [fmD o nm ks p,fmD o2 nm2 ks2 p2] p a2 (okP_at h (by omega)) hno]
     simp only[goLp]
     rw[Lp_unfold hr]
    |syn p2 a2=>
     rw[hp]at hr
     rw[goLp_of (Lp_step hr (Lp_exit (C78k.round0_1 B xs d lv s false p2 20 a2 true o true nm true ks true p)))]
     exact C78k.behind0x0_1 B a0 lv s xs d false p2 20 a2 true o true nm true ks true p q
    |deep p2 a2=>
     rw[hp]at hr
     rw[goLp_of (Lp_step hr (Lp_exit (C78k.round0_1 B xs d lv s true p2 21 a2 true o true nm true ks true p)))]
     exact C78k.behind0x0_1 B a0 lv s xs d true p2 21 a2 true o true nm true ks true p q
    |no=>rw[hp]at hno;exact(hno rfl).elim
   ·rw[if_neg hb]at hno ⊢
    have hb':=hb
    simp only[isT]at hb'
    rw[if_neg hb']at hr
    rw[goLp_of (Lp_exit hr)]
    exact C78k.behind0x0 B a0 lv s xs d o nm ks p a q
theorem chain_allK {B:Bd} {xs:List D} {d lv:Int} (s:ByteArray) (a:Int) {β:Type} (q:List TV→List TV→Option β) (h:okP xs a d lv B.nk) (hno:pChain xs s (d+1 - lv).toNat false a≠.no):
  evalF Tryz.prog (QP B) Tryz.f62 [pars xs a d,TV.d true 0 (D.str s),TV.d true 0 (D.int .i64 lv),TV.fc true false 63 [(0,true)]] q=ansP (fun a=>pars xs a d) q (pChain xs s (d+1 - lv).toNat false a):=by
 have st:=C78k.start B xs a d lv s q
 rw[if_pos h]at st
 refine Eq.trans st ?_
 have hadv:=adv_k xs (d+1 - lv).toNat a
 simp only[pChain,chainP]at hno ⊢
 cases hp:pK xs (d+1 - lv).toNat a with
 |ok o nm ks p a2=>
  rw[hp]at hno hadv
  simp only at hno ⊢
  simp only[Adv]at hadv
  exact chain_loopK s a q (xs.length+1) o nm ks p a2 (okP_at h (by omega)) hno
 |syn p2 a2=>
  simp only
  rw[goLp_of (Lp_exit (C78k.round0_1 B xs d lv s false p2 20 a2 false ⟨#[]⟩ false ⟨#[]⟩ false [] false 0))]
  exact C78k.behind0x0_1 B a lv s xs d false p2 20 a2 false ⟨#[]⟩ false ⟨#[]⟩ false [] false 0 q
 |deep p2 a2=>
  simp only
  rw[goLp_of (Lp_exit (C78k.round0_1 B xs d lv s true p2 21 a2 false ⟨#[]⟩ false ⟨#[]⟩ false [] false 0))]
  exact C78k.behind0x0_1 B a lv s xs d true p2 21 a2 false ⟨#[]⟩ false ⟨#[]⟩ false [] false 0 q
 |no=>rw[hp]at hno;exact(hno rfl).elim
theorem ev_chain {B:Bd} {nk nu:Nat} (hk:nk≤B.nk) (hu:nu≤B.nu):Ev B Tryz.f62 (cChain nk nu):=fun β args k r hr=>by
 replace hr:cChain nk nu args k=some r:=hr
 unfold cChain at hr
 split at hr
 ·rename_i xs a d op lv
  unfold chkK at hr
  split at hr
  ·rename_i h0
   have hno:pChain xs op (d+1 - lv).toNat true a≠.no:=fun e=>by rw[e,ansP_no]at hr;cases hr
   obtain⟨res,outs,h1,h2⟩:=ansP_out hr
   refine⟨res,outs,h1,fun q=>?_⟩
   rw[←h2 q]
   exact chain_allU op a q (okP_mono h0 hu) hno
  ·cases hr
 ·rename_i xs a d op lv
  unfold chkK at hr
  split at hr
  ·rename_i h0
   have hno:pChain xs op (d+1 - lv).toNat false a≠.no:=fun e=>by rw[e,ansP_no]at hr;cases hr
   obtain⟨res,outs,h1,h2⟩:=ansP_out hr
   refine⟨res,outs,h1,fun q=>?_⟩
   rw[←h2 q]
   exact chain_allK op a q (okP_mono h0 hk) hno
  ·cases hr
 ·cases hr
theorem ev_k {B:Bd} {n:Nat} (hu:n≤B.ncu):Ev B Tryz.f63 (cK n):=fun β args k r hr=>by
 replace hr:cK n args k=some r:=hr
 unfold cK at hr
 split at hr
 ·rename_i lv xs a d
  unfold chkK at hr
  split at hr
  ·rename_i h0
   obtain⟨res,outs,h1,h2⟩:=ansP_out hr
   refine⟨res,outs,h1,fun q=>?_⟩
   rw[←h2 q,B79.start,if_pos (okP_mono h0 hu)]
   have e:pK xs (d+1 - lv).toNat a=pChain xs ⟨#[38]⟩ (d+1 - lv).toNat true a:=rfl
   rw[e]
   cases pChain xs ⟨#[38]⟩ (d+1 - lv).toNat true a<;>rfl
  ·cases hr
 ·cases hr
theorem deepP_eq {xs:List D} {a d:Int} (ha:0≤a) {β:Type} (q:List TV→List TV→Option β) (hno:deepP xs a≠.no):
  (if(0:Int)≤a then
   match xs[Int.toNat a]? with
   |some (D.ag [D.int IntKind.i64 n4,D.str s5,D.int IntKind.i64 p6])=>q [TV.d false 5 zF,TV.d true 0 (atD p6 (noD 21))] [pars xs a d]
   |x=>none
  else none)=ansP (fun a=>pars xs a d) q (deepP xs a):=by
 unfold deepP at hno ⊢
 cases ht:tk xs a with
 |none=>rw[ht]at hno;exact(hno rfl).elim
 |some v=>
  obtain⟨c,t,p⟩:=v
  rw[if_pos ha,tk_some ht];rfl
theorem ev_untl {B:Bd} {n:Nat} (hs:n+1≤B.ns) (hr0:n≤B.nru):Ev B Tryz.f64 (cUntl (n+1)):=fun β args k r hr=>by
 replace hr:cUntl (n+1) args k=some r:=hr
 unfold cUntl at hr
 split at hr
 ·rename_i xs a d lv
  unfold chkK at hr
  split at hr
  ·rename_i h0
   have hno:pUntl xs (d+1 - lv).toNat a≠.no:=fun e=>by rw[e,ansP_no]at hr;cases hr
   obtain⟨res,outs,h1,h2⟩:=ansP_out hr
   refine⟨res,outs,h1,fun q=>?_⟩
   rw[←h2 q,B80.start]
   by_cases hd:lv>d
   ·rw[if_pos (by simpa using hd)]
    have e:(d+1 - lv).toNat=0:=by omega
    rw[e,pUntl_0]at hno ⊢
    exact deepP_eq h0.2.1 q hno
   ·rw[if_neg (by simpa using hd),if_pos (okP_mono h0 hs)]
    obtain⟨m,hm⟩:∃m,(d+1 - lv).toNat=m+1:=⟨(d - lv).toNat,by omega⟩
    have hm2:(d - lv).toNat=m:=by omega
    have hlt:=h0.2.2.2.2.2
    have h6:=h0.2.2.1
    have h7:=h0.2.2.2.2.1
    rw[hm]at hno ⊢
    have e:pUntl xs (m+1) a=untlP xs (pSingle xs (m+1)) (pUntl xs m) a:=rfl
    rw[e]at hno ⊢
    unfold untlP at hno ⊢
    have hadv:=adv_single xs (m+1) a
    cases hp:pSingle xs (m+1) a with
    |ok o nm ks p a2=>
     rw[hp]at hno hadv
     simp only[Adv]at hadv
     simp only at hno ⊢
     rw[if_pos (show okP xs a2 d (lv+1) B.nru from⟨h0.1,by have:=h0.2.1;omega,by omega,by omega,h7,by omega⟩),hm2]
     have e2:pRight xs m true o nm ks p [⟨#[85]⟩,⟨#[87]⟩,⟨#[82]⟩] a2=rightP xs (pUntl xs m) o nm ks p [⟨#[85]⟩,⟨#[87]⟩,⟨#[82]⟩] a2:=rfl
     rw[←e2]
     cases pRight xs m true o nm ks p [⟨#[85]⟩,⟨#[87]⟩,⟨#[82]⟩] a2<;>rfl
    |syn p2 a2=>rfl
    |deep p2 a2=>rfl
    |no=>rw[hp]at hno;exact(hno rfl).elim
  ·cases hr
 ·cases hr
theorem ev_imply {B:Bd} {n:Nat} (hs:n+1≤B.nck) (hr0:n≤B.nri):Ev B Tryz.f40 (cImply (n+1)):=fun β args k r hr=>by
 replace hr:cImply (n+1) args k=some r:=hr
 unfold cImply at hr
 split at hr
 ·rename_i xs a d lv
  unfold chkK at hr
  split at hr
  ·rename_i h0
   have hno:pImply xs (d+1 - lv).toNat a≠.no:=fun e=>by rw[e,ansP_no]at hr;cases hr
   obtain⟨res,outs,h1,h2⟩:=ansP_out hr
   refine⟨res,outs,h1,fun q=>?_⟩
   rw[←h2 q,B55.start]
   by_cases hd:lv>d
   ·rw[if_pos (by simpa using hd)]
    have e:(d+1 - lv).toNat=0:=by omega
    rw[e,pImply_0]at hno ⊢
    exact deepP_eq h0.2.1 q hno
   ·rw[if_neg (by simpa using hd),if_pos (okP_mono h0 hs)]
    obtain⟨m,hm⟩:∃m,(d+1 - lv).toNat=m+1:=⟨(d - lv).toNat,by omega⟩
    have hm2:(d - lv).toNat=m:=by omega
    have hlt:=h0.2.2.2.2.2
    have h6:=h0.2.2.1
    have h7:=h0.2.2.2.2.1
    rw[hm]at hno ⊢
    have e:pImply xs (m+1) a=implyP xs (pUntl xs (m+1)) (pImply xs m) a:=rfl
    rw[e]at hno ⊢
    unfold implyP at hno ⊢
    have e3:chainP xs ⟨#[124]⟩ (kP xs (pUntl xs (m+1))) a=pChain xs ⟨#[124]⟩ (m+1) false a:=rfl
    have hadv:=adv_chainP xs ⟨#[124]⟩ (pK xs (m+1)) (adv_k xs (m+1)) a
    rw[e3]at hno ⊢
    have e4:chainP xs ⟨#[124]⟩ (pK xs (m+1)) a=pChain xs ⟨#[124]⟩ (m+1) false a:=rfl
    rw[e4]at hadv
    cases hp:pChain xs ⟨#[124]⟩ (m+1) false a with
    |ok o nm ks p a2=>
     rw[hp]at hno hadv
     simp only[Adv]at hadv
     simp only at hno ⊢
     rw[if_pos (show okP xs a2 d (lv+1) B.nri from⟨h0.1,by have:=h0.2.1;omega,by omega,by omega,h7,by omega⟩),hm2]
     have e2:pRight xs m false o nm ks p [⟨#[61,62]⟩] a2=rightP xs (pImply xs m) o nm ks p [⟨#[61,62]⟩] a2:=rfl
     rw[←e2]
     cases pRight xs m false o nm ks p [⟨#[61,62]⟩] a2<;>rfl
    |syn p2 a2=>rfl
    |deep p2 a2=>rfl
    |no=>rw[hp]at hno;exact(hno rfl).elim
  ·cases hr
 ·cases hr
end Go.Sd
namespace Go.Sd
open Go Go.Cm Go.Proofs Go.Sc
set_option maxRecDepth 100000
theorem isT_lit (c:Int) (t:ByteArray) (L:T8):((c==1||c==4)&&t.toList==L)=isT c t (B L):=by unfold isT;rw[B_list]
theorem isT_c0 {c:Int} {t s:ByteArray} (h:isT c t s=true):(!c==0)=true:=by
 simp only[isT,Bool.and_eq_true,Bool.or_eq_true,beq_iff_eq]at h
 simp;omega
set_option maxHeartbeats 1000000 in
theorem ev_single {B:Bd} {n:Nat} (hs:n≤B.ns) (hi:n≤B.ni):Ev B Tryz.f95 (cSingle (n+1)):=fun β args k r hr=>by
 replace hr:cSingle (n+1) args k=some r:=hr
 unfold cSingle at hr
 split at hr
 ·rename_i xs a d lv
  unfold chkK at hr
  split at hr
  ·rename_i h0
   have hno:pSingle xs (d+1 - lv).toNat a≠.no:=fun e=>by rw[e,ansP_no]at hr;cases hr
   obtain⟨res,outs,h1,h2⟩:=ansP_out hr
   refine⟨res,outs,h1,fun q=>?_⟩
   have st:=B108.start B xs a d lv q
   refine Eq.trans ?_ (h2 q)
   refine Eq.trans st ?_
   clear h1 h2 hr
   by_cases hd:lv>d
   ·rw[if_pos (by simpa using hd)]
    have e:(d+1 - lv).toNat=0:=by omega
    rw[e,pSingle_0]at hno ⊢
    exact deepP_eq h0.2.1 q hno
   ·rw[if_neg (by simpa using hd)]
    obtain⟨m,hm⟩:∃m,(d+1 - lv).toNat=m+1:=⟨(d - lv).toNat,by omega⟩
    have hlt:=h0.2.2.2.2.2
    have h6:=h0.2.2.1
    have h7:=h0.2.2.2.2.1
    have hw:=wlv (lv:=lv) (by omega) (by omega)
    have hm3:(d+1 - (lv+1)).toNat=m:=by omega
    rw[hm]at hno ⊢
    have e:pSingle xs (m+1) a=singleP xs (pf xs m) a:=rfl
    rw[e]at hno ⊢
    unfold singleP at hno ⊢
    cases ht:tk xs a with
    |none=>rw[ht]at hno;exact(hno rfl).elim
    |some v=>
     obtain⟨c,t,p⟩:=v
     rw[ht]at hno
     simp only at hno ⊢
     have ha:=h0.2.1
     have hal:=tk_lt ht ha
     have hle:=h0.1
     have hA:(0:Int)≤a∧a<34359738368:=by omega
     have hS:okP xs (a+1) d (lv+1) B.ns:=⟨hle,by omega,by omega,by omega,h7,by omega⟩
     have hI:okP xs (a+1) d (lv+1) B.ni:=⟨hle,by omega,by omega,by omega,h7,by omega⟩
     simp only[if_pos ha,tk_some ht,if_pos hA,hw,if_pos hS,if_pos hI,hm3,isT_lit]at hno ⊢
     have q1:Go.Sc.B [116,114,117,101]=⟨#[116,114,117,101]⟩:=rfl
     have q2:Go.Sc.B [102,97,108,115,101]=⟨#[102,97,108,115,101]⟩:=rfl
     have q3:Go.Sc.B [33]=⟨#[33]⟩:=rfl
     have q4:Go.Sc.B [88]=⟨#[88]⟩:=rfl
     have q5:Go.Sc.B [70]=⟨#[70]⟩:=rfl
     have q6:Go.Sc.B [71]=⟨#[71]⟩:=rfl
     have q7:Go.Sc.B [40]=⟨#[40]⟩:=rfl
     have q8:Go.Sc.B [41]=⟨#[41]⟩:=rfl
     simp only[q1,q2,q3,q4,q5,q6,q7,q8]
     by_cases h3:c=3
     ·subst h3
      simp only[BEq.rfl,if_true]
      rfl
     ·have h3':(c==3)=false:=by simpa using h3
      simp only[h3',Bool.false_eq_true,if_false,if_neg h3]at hno ⊢
      have one:∀{bad:Option _},(!c==0)=true→
        (if(!c==0)=true then(match pSingle xs m (a+1)with
         |.ok o nm ks p2 a2=>q [.d true 5 (fmD t ⟨#[]⟩ [fmD o nm ks p2] p),.d false 0 .nili] [pars xs a2 d]
         |.syn p a=>q [.d false 5 zF,.d false 0 (atD p (noD 20))] [pars xs a d]
         |.deep p a=>q [.d false 5 zF,.d true 0 (atD p (noD 21))] [pars xs a d]
         |.no=>none)else bad)=ansP (fun a=>pars xs a d) q (match(pf xs m).single (a+1)with
         |.ok o nm ks q a=>.ok t ⟨#[]⟩ [fmD o nm ks q] p a
         |.syn p a=>.syn p a
         |.deep p a=>.deep p a
         |.no=>.no):=fun{bad} hc=>by
       rw[if_pos hc]
       have e:(pf xs m).single (a+1)=pSingle xs m (a+1):=rfl
       rw[e]
       cases pSingle xs m (a+1)<;>rfl
      cases hT:isT c t ⟨#[116,114,117,101]⟩with
      |true=>
       simp only[hT,if_true,isT_c0 hT,true_or]
       rfl
      |false=>
       simp only[hT,Bool.false_eq_true,if_false,false_or]at hno ⊢
       cases hF:isT c t ⟨#[102,97,108,115,101]⟩with
       |true=>
        simp only[hF,if_true,isT_c0 hF]
        rfl
       |false=>
        simp only[hF,Bool.false_eq_true,if_false]at hno ⊢
        cases h3:isT c t ⟨#[33]⟩with
        |true=>
         simp only[h3,if_true,true_or]
         exact one (isT_c0 h3)
        |false=>
         simp only[h3,Bool.false_eq_true,if_false,false_or]at hno ⊢
         cases h4:isT c t ⟨#[88]⟩with
         |true=>
          simp only[h4,if_true,true_or]
          exact one (isT_c0 h4)
         |false=>
          simp only[h4,Bool.false_eq_true,if_false,false_or]at hno ⊢
          cases h5:isT c t ⟨#[70]⟩with
          |true=>
           simp only[h5,if_true,true_or]
           exact one (isT_c0 h5)
          |false=>
           simp only[h5,Bool.false_eq_true,if_false,false_or]at hno ⊢
           cases h6:isT c t ⟨#[71]⟩with
           |true=>
            simp only[h6,if_true,true_or]
            exact one (isT_c0 h6)
           |false=>
            simp only[h6,Bool.false_eq_true,if_false,false_or]at hno ⊢
            cases h7:isT c t ⟨#[40]⟩with
            |false=>
             simp only[h7,Bool.false_eq_true,if_false]
             rfl
            |true=>
             simp only[h7,if_true]at hno ⊢
             have hadv:=adv_imply xs m (a+1)
             have e:(pf xs m).imply (a+1)=pImply xs m (a+1):=rfl
             rw[e]at hno ⊢
             cases hp:pImply xs m (a+1)with
             |ok o nm ks p2 a2=>
              rw[hp]at hno hadv
              simp only[Adv]at hadv
              simp only at hno ⊢
              cases ht2:tk xs a2 with
              |none=>rw[ht2]at hno;exact(hno rfl).elim
              |some v2=>
               obtain⟨c2,t2,p3⟩:=v2
               have ha2:(0:Int)≤a2:=by omega
               have:=tk_lt ht2 ha2
               simp only[if_pos (show(0:Int)≤a2∧a2<34359738368 by omega),tk_some ht2]
               cases h8:isT c2 t2 ⟨#[41]⟩with
               |true=>simp only[h8,if_true];rfl
               |false=>simp only[h8,Bool.false_eq_true,if_false];rfl
             |syn p2 a2=>rfl
             |deep p2 a2=>rfl
             |no=>rw[hp]at hno;exact(hno rfl).elim
  ·cases hr
 ·cases hr
end Go.Sd
namespace Go.Sd
open Go Go.Cm Go.Proofs Go.Sc
set_option maxRecDepth 100000
theorem up_single {B:Bd} {n:Nat} (h:EnvOk glS Tryz.prog (QP B)) (hc:Ev B Tryz.f95 (cSingle n)):EnvOk glS Tryz.prog (QP {B with ns:=n }):=EnvOk.upd h Tryz.func95 (by kernel_rfl) hc (by
 intro β g args k r h
 simp only[QP,Env.add]at h ⊢
 cases h55:Nat.beq g 40 with
 |true=>
  simp only[h55]at h ⊢
  exact .inl h
 |false=>
  simp only[h55]at h ⊢
  cases h81:Nat.beq g 65 with
  |true=>
   simp only[h81]at h ⊢
   exact .inl h
  |false=>
   simp only[h81]at h ⊢
   cases h78:Nat.beq g 62 with
   |true=>
    simp only[h78]at h ⊢
    exact .inl h
   |false=>
    simp only[h78]at h ⊢
    cases h79:Nat.beq g 63 with
    |true=>
     simp only[h79]at h ⊢
     exact .inl h
    |false=>
     simp only[h79]at h ⊢
     cases h80:Nat.beq g 64 with
     |true=>
      simp only[h80]at h ⊢
      exact .inl h
     |false=>
      simp only[h80]at h ⊢
      cases h108:Nat.beq g 95 with
      |true=>
       simp only[h108]at h ⊢
       exact .inr ⟨Nat.eq_of_beq_eq_true h108,h⟩
      |false=>
       simp only[h108]at h ⊢
       exact .inl h)
theorem up_untl {B:Bd} {n:Nat} (h:EnvOk glS Tryz.prog (QP B)) (hc:Ev B Tryz.f64 (cUntl n)):EnvOk glS Tryz.prog (QP {B with nu:=n }):=EnvOk.upd h Tryz.func64 (by kernel_rfl) hc (by
 intro β g args k r h
 simp only[QP,Env.add]at h ⊢
 cases h55:Nat.beq g 40 with
 |true=>
  simp only[h55]at h ⊢
  exact .inl h
 |false=>
  simp only[h55]at h ⊢
  cases h81:Nat.beq g 65 with
  |true=>
   simp only[h81]at h ⊢
   exact .inl h
  |false=>
   simp only[h81]at h ⊢
   cases h78:Nat.beq g 62 with
   |true=>
    simp only[h78]at h ⊢
    exact .inl h
   |false=>
    simp only[h78]at h ⊢
    cases h79:Nat.beq g 63 with
    |true=>
     simp only[h79]at h ⊢
     exact .inl h
    |false=>
     simp only[h79]at h ⊢
     cases h80:Nat.beq g 64 with
     |true=>
      simp only[h80]at h ⊢
      exact .inr ⟨Nat.eq_of_beq_eq_true h80,h⟩
     |false=>
      simp only[h80]at h ⊢
      cases h108:Nat.beq g 95 with
      |true=>
       simp only[h108]at h ⊢
       exact .inl h
      |false=>
       simp only[h108]at h ⊢
       exact .inl h)
theorem up_k {B:Bd} {n:Nat} (h:EnvOk glS Tryz.prog (QP B)) (hc:Ev B Tryz.f63 (cK n)):EnvOk glS Tryz.prog (QP {B with nk:=n }):=EnvOk.upd h Tryz.func63 (by kernel_rfl) hc (by
 intro β g args k r h
 simp only[QP,Env.add]at h ⊢
 cases h55:Nat.beq g 40 with
 |true=>
  simp only[h55]at h ⊢
  exact .inl h
 |false=>
  simp only[h55]at h ⊢
  cases h81:Nat.beq g 65 with
  |true=>
   simp only[h81]at h ⊢
   exact .inl h
  |false=>
   simp only[h81]at h ⊢
   cases h78:Nat.beq g 62 with
   |true=>
    simp only[h78]at h ⊢
    exact .inl h
   |false=>
    simp only[h78]at h ⊢
    cases h79:Nat.beq g 63 with
    |true=>
     simp only[h79]at h ⊢
     exact .inr ⟨Nat.eq_of_beq_eq_true h79,h⟩
    |false=>
     simp only[h79]at h ⊢
     cases h80:Nat.beq g 64 with
     |true=>
      simp only[h80]at h ⊢
      exact .inl h
     |false=>
      simp only[h80]at h ⊢
      cases h108:Nat.beq g 95 with
      |true=>
       simp only[h108]at h ⊢
       exact .inl h
      |false=>
       simp only[h108]at h ⊢
       exact .inl h)
theorem up_imply {B:Bd} {n:Nat} (h:EnvOk glS Tryz.prog (QP B)) (hc:Ev B Tryz.f40 (cImply n)):EnvOk glS Tryz.prog (QP {B with ni:=n }):=EnvOk.upd h Tryz.func40 (by kernel_rfl) hc (by
 intro β g args k r h
 simp only[QP,Env.add]at h ⊢
 cases h55:Nat.beq g 40 with
 |true=>
  simp only[h55]at h ⊢
  exact .inr ⟨Nat.eq_of_beq_eq_true h55,h⟩
 |false=>
  simp only[h55]at h ⊢
  cases h81:Nat.beq g 65 with
  |true=>
   simp only[h81]at h ⊢
   exact .inl h
  |false=>
   simp only[h81]at h ⊢
   cases h78:Nat.beq g 62 with
   |true=>
    simp only[h78]at h ⊢
    exact .inl h
   |false=>
    simp only[h78]at h ⊢
    cases h79:Nat.beq g 63 with
    |true=>
     simp only[h79]at h ⊢
     exact .inl h
    |false=>
     simp only[h79]at h ⊢
     cases h80:Nat.beq g 64 with
     |true=>
      simp only[h80]at h ⊢
      exact .inl h
     |false=>
      simp only[h80]at h ⊢
      cases h108:Nat.beq g 95 with
      |true=>
       simp only[h108]at h ⊢
       exact .inl h
      |false=>
       simp only[h108]at h ⊢
       exact .inl h)
theorem up_chain {B:Bd} {n m:Nat} (h:EnvOk glS Tryz.prog (QP B)) (hc:Ev B Tryz.f62 (cChain n m)):EnvOk glS Tryz.prog (QP {B with nck:=n,ncu:=m }):=EnvOk.upd h Tryz.func62 (by kernel_rfl) hc (by
 intro β g args k r h
 simp only[QP,Env.add]at h ⊢
 cases h55:Nat.beq g 40 with
 |true=>
  simp only[h55]at h ⊢
  exact .inl h
 |false=>
  simp only[h55]at h ⊢
  cases h81:Nat.beq g 65 with
  |true=>
   simp only[h81]at h ⊢
   exact .inl h
  |false=>
   simp only[h81]at h ⊢
   cases h78:Nat.beq g 62 with
   |true=>
    simp only[h78]at h ⊢
    exact .inr ⟨Nat.eq_of_beq_eq_true h78,h⟩
   |false=>
    simp only[h78]at h ⊢
    cases h79:Nat.beq g 63 with
    |true=>
     simp only[h79]at h ⊢
     exact .inl h
    |false=>
     simp only[h79]at h ⊢
     cases h80:Nat.beq g 64 with
     |true=>
      simp only[h80]at h ⊢
      exact .inl h
     |false=>
      simp only[h80]at h ⊢
      cases h108:Nat.beq g 95 with
      |true=>
       simp only[h108]at h ⊢
       exact .inl h
      |false=>
       simp only[h108]at h ⊢
       exact .inl h)
theorem up_right {B:Bd} {n m:Nat} (h:EnvOk glS Tryz.prog (QP B)) (hc:Ev B Tryz.f65 (cRight n m)):EnvOk glS Tryz.prog (QP {B with nri:=n,nru:=m }):=EnvOk.upd h Tryz.func65 (by kernel_rfl) hc (by
 intro β g args k r h
 simp only[QP,Env.add]at h ⊢
 cases h55:Nat.beq g 40 with
 |true=>
  simp only[h55]at h ⊢
  exact .inl h
 |false=>
  simp only[h55]at h ⊢
  cases h81:Nat.beq g 65 with
  |true=>
   simp only[h81]at h ⊢
   exact .inr ⟨Nat.eq_of_beq_eq_true h81,h⟩
  |false=>
   simp only[h81]at h ⊢
   cases h78:Nat.beq g 62 with
   |true=>
    simp only[h78]at h ⊢
    exact .inl h
   |false=>
    simp only[h78]at h ⊢
    cases h79:Nat.beq g 63 with
    |true=>
     simp only[h79]at h ⊢
     exact .inl h
    |false=>
     simp only[h79]at h ⊢
     cases h80:Nat.beq g 64 with
     |true=>
      simp only[h80]at h ⊢
      exact .inl h
     |false=>
      simp only[h80]at h ⊢
      cases h108:Nat.beq g 95 with
      |true=>
       simp only[h108]at h ⊢
       exact .inl h
      |false=>
       simp only[h108]at h ⊢
       exact .inl h)
def all (n:Nat):Bd:=⟨n,n,n,n,n,n,n,n⟩
theorem okP_0 {xs:List D} {a d lv:Int}:¬okP xs a d lv 0:=fun h=>by have:=h.2.2.2.2.2;omega
theorem ev_step {n:Nat} (h:EnvOk glS Tryz.prog (QP (all n))):EnvOk glS Tryz.prog (QP (all (n+1))):=by
 have h1:=up_single h (ev_single (n:=n) (Nat.le_refl _) (Nat.le_refl _))
 have h2:=up_untl h1 (ev_untl (n:=n) (Nat.le_refl _) (Nat.le_refl _))
 have h3:=up_chain (n:=n) (m:=n+1) h2 (ev_chain (Nat.le_refl _) (Nat.le_refl _))
 have h4:=up_k (n:=n+1) h3 (ev_k (Nat.le_refl _))
 have h5:=up_chain (n:=n+1) (m:=n+1) h4 (ev_chain (Nat.le_refl _) (Nat.le_refl _))
 have h6:=up_imply h5 (ev_imply (n:=n) (Nat.le_refl _) (Nat.le_refl _))
 exact up_right (n:=n+1) (m:=n+1) h6 (ev_right (Nat.le_refl _) (Nat.le_refl _))
theorem ev_0:EnvOk glS Tryz.prog (QP (all 0)):=by
 have z:∀{β:Type} {xs:List D} {a d lv:Int} {x:Option β},chkK (okP xs a d lv 0) x=none:=fun{β xs a d lv x}=>by unfold chkK;rw[if_neg okP_0]
 intro β g args k r h
 refine envq2 β g args k r ?_
 simp only[QP,Env.add,all]at h
 cases h55:Nat.beq g 40 with
 |true=>
  simp only[h55]at h
  unfold cImply at h
  split at h<;>first|(rw[z]at h;cases h)|cases h
 |false=>
  simp only[h55]at h
  cases h81:Nat.beq g 65 with
  |true=>
   simp only[h81]at h
   unfold cRight at h
   split at h<;>first|(rw[z]at h;cases h)|cases h
  |false=>
   simp only[h81]at h
   cases h78:Nat.beq g 62 with
   |true=>
    simp only[h78]at h
    unfold cChain at h
    split at h<;>first|(rw[z]at h;cases h)|cases h
   |false=>
    simp only[h78]at h
    cases h79:Nat.beq g 63 with
    |true=>
     simp only[h79]at h
     unfold cK at h
     split at h<;>first|(rw[z]at h;cases h)|cases h
    |false=>
     simp only[h79]at h
     cases h80:Nat.beq g 64 with
     |true=>
      simp only[h80]at h
      unfold cUntl at h
      split at h<;>first|(rw[z]at h;cases h)|cases h
     |false=>
      simp only[h80]at h
      cases h108:Nat.beq g 95 with
      |true=>
       simp only[h108]at h
       unfold cSingle at h
       split at h<;>first|(rw[z]at h;cases h)|cases h
      |false=>
       simp only[h108]at h
       exact h
theorem ev_all:∀n:Nat,EnvOk glS Tryz.prog (QP (all n))
 |0=>ev_0
 |n+1=>ev_step (ev_all n)
end Go.Sd
namespace Go.Sd
open Go Go.Cm Go.Proofs Go.Sc
set_option maxRecDepth 100000
def cBegin {β:Type} (args:List TV) (k:List TV→List TV→Option β):Option β:=
 match args with
 |[.d true 0 (.str s),.d true 0 (.int .i64 d)]=>if d<1∨d>64 then k [.d false 0 .nilp,.d false 0 (noD 1)] []else match Nat.ble s.size 65536 with
  |false=>k [.d false 0 .nilp,.d false 0 (noD 2)] []
  |true=>match tokS s.toList with
   |.inl (n,p)=>k [.d false 0 .nilp,.d false 0 (atD p (noD n))] []
   |.inr l=>k [.ob true [.ob true [.own false 4 (l.map tokT),.d false 0 (.int .i64 0)],.d false 0 (.int .i64 d)],.d false 0 .nili] []
 |_=>none
def cParse {β:Type} (args:List TV) (k:List TV→List TV→Option β):Option β:=
 match args with
 |[.d true 0 (.str s),.d true 0 (.int .i64 d)]=>match parseP s d with
  |.ok op nm ks p=>k [.d false 5 (fmD op nm ks p),.d false 0 .nili] []
  |.no n=>k [.d false 5 zF,.d false 0 (noD n)] []
  |.er p n=>k [.d false 5 zF,.d false 0 (atD p (noD n))] []
  |.bad=>none
 |_=>none
def Q3:Env:=QP (all 1002)
def Q4:Env:=Q3.add 39 io0 cBegin
def Q5:Env:=Q4.add 10 io0 cParse
end Go.Sd
namespace Go.Sd
open Go Go.Cm Go.Proofs Go.Sc
set_option maxRecDepth 100000
namespace A54
noncomputable def X:Fx:=⟨Tryz.prog,Q3,48,2⟩
theorem start {β:Type} (s:ByteArray) (d:Int) (k:List TV→List TV→Option β):evalF Tryz.prog Q3 Tryz.f39 [.d true 0 (.str s),.d true 0 (.int .i64 d)] k=if decide (d<1)=true then k [.d false 0 D.nilp,.d false 0 (.ifc 84 (.int .i64 1))] []else if decide (d>64)=true then k [.d false 0 D.nilp,.d false 0 (.ifc 84 (.int .i64 1))] []else match Nat.ble (ByteArray.size s) 65536 with
   |false=>k [.d false 0 D.nilp,.d false 0 (.ifc 84 (.int .i64 2))] []
   |true=>match tokS s.toList with
    |Sum.inl (n12,p13)=>k [.d false 0 D.nilp,.d false 0 (.ifc 114 (.pt 3 (.ag [D.int .i64 (↑p13:Int),D.ifc 84 (.int .i64 n12)])))] []
    |Sum.inr l17=>k [.ob true [.ob true [.own false 4 (List.map tokT l17),.d false 0 (.int .i64 0)],.d false 0 (.int .i64 d)],.d false 0 D.nili] []:=by kernel_rfl
end A54
namespace A25
noncomputable def X:Fx:=⟨Tryz.prog,Q4,48,2⟩
theorem start {β:Type} (s:ByteArray) (d:Int) (k:List TV→List TV→Option β):evalF Tryz.prog Q4 Tryz.f10 [.d true 0 (.str s),.d true 0 (.int .i64 d)] k=if d<1∨d>64 then k [.d false 5 (.ag [D.str (ByteArray.mk #[]),D.str (ByteArray.mk #[]),D.sl 5 [],D.int .i64 0]),.d false 0 (.ifc 84 (.int .i64 1))] []else match Nat.ble (ByteArray.size s) 65536 with
   |false=>k [.d false 5 (.ag [D.str (ByteArray.mk #[]),D.str (ByteArray.mk #[]),D.sl 5 [],D.int .i64 0]),.d false 0 (.ifc 84 (.int .i64 2))] []
   |true=>match tokS s.toList with
    |Sum.inl (n10,p11)=>k [.d false 5 (.ag [D.str (ByteArray.mk #[]),D.str (ByteArray.mk #[]),D.sl 5 [],D.int .i64 0]),.d false 0 (.ifc 114 (.pt 3 (.ag [D.int .i64 (↑p11:Int),D.ifc 84 (.int .i64 n10)])))] []
    |Sum.inr l15=>if okP (List.map tokT l15) (0:Int) d (1:Int) (Bd.mk 1002 1002 1002 1002 1002 1002 1002 1002).ni then match pImply (List.map tokT l15) (Int.toNat (d+1 - (1:Int))) (0:Int)with
     |PR.ok op19 nm20 ks21 p22 a23=>if 0≤a23 then match(List.map tokT l15)[a23.toNat]? with
      |some (.ag [D.int .i64 c27,D.str t28,D.int .i64 p29])=>if(!c27==0)=true then if 0≤a23 then match(List.map tokT l15)[a23.toNat]? with
       |some (.ag [D.int .i64 n32,D.str s33,D.int .i64 p34])=>k [.d false 5 (.ag [D.str (ByteArray.mk #[]),D.str (ByteArray.mk #[]),D.sl 5 [],D.int .i64 0]),.d false 0 (.ifc 114 (.pt 3 (.ag [D.int .i64 p34,D.ifc 84 (.int .i64 20)])))] []
       |x=>none else none else k [.d false 5 (.ag [D.str op19,D.str nm20,D.sl 5 ks21,D.int .i64 p22]),.d false 0 D.nili] []
      |x=>none else none
     |PR.syn p36 a37=>k [.d false 5 (.ag [D.str (ByteArray.mk #[]),D.str (ByteArray.mk #[]),D.sl 5 [],D.int .i64 0]),.d false 0 (.ifc 114 (.pt 3 (.ag [D.int .i64 p36,D.ifc 84 (.int .i64 20)])))] []
     |PR.deep p41 a42=>k [.d false 5 (.ag [D.str (ByteArray.mk #[]),D.str (ByteArray.mk #[]),D.sl 5 [],D.int .i64 0]),.d false 0 (.ifc 114 (.pt 3 (.ag [D.int .i64 p41,D.ifc 84 (.int .i64 21)])))] []
     |PR.no=>none else none:=by kernel_rfl
end A25
end Go.Sd
namespace Go.Sd
open Go Go.Cm Go.Proofs Go.Sc
set_option maxRecDepth 100000
theorem envq3:EnvOk glS Tryz.prog Q3:=ev_all 1002
theorem envq4:EnvOk glS Tryz.prog Q4:=envq3.fn mixed Tryz.func39 (by kernel_rfl) fun β args k r hr=>by
 unfold cBegin at hr
 split at hr
 ·rename_i s d
  have st:∀{γ:Type} (q:List TV→List TV→Option γ),evalF Tryz.prog Q3 Tryz.f39 [TV.d true 0 (.str s),TV.d true 0 (.int .i64 d)] q=_:=fun q=>A54.start s d q
  split at hr
  ·rename_i h0
   refine⟨_,_,hr,fun q=>?_⟩
   rw[st]
   by_cases h1:d<1
   ·rw[if_pos (by simpa using h1)];rfl
   ·rw[if_neg (by simpa using h1),if_pos (by have:=h0.resolve_left h1;simpa using this)];rfl
  ·rename_i h0
   have h1:¬decide (d<1)=true:=by simpa using fun h=>h0 (.inl h)
   have h2:¬decide (d>64)=true:=by simpa using fun h=>h0 (.inr h)
   simp only[if_neg h1,if_neg h2]at st
   cases hb:Nat.ble s.size 65536 with
   |false=>
    simp only[hb]at st hr
    exact⟨_,_,hr,fun q=>by rw[st];rfl⟩
   |true=>
    simp only[hb]at st hr
    cases ht:tokS s.toList with
    |inl e=>
     obtain⟨n,p⟩:=e
     simp only[ht]at st hr
     exact⟨_,_,hr,fun q=>by rw[st];rfl⟩
    |inr l=>
     simp only[ht]at st hr
     exact⟨_,_,hr,fun q=>by rw[st]⟩
 ·cases hr
theorem tok_len {s:ByteArray} {l:List Tok} (hb:Nat.ble s.size 65536=true) (ht:tokS s.toList=.inr l):(l.map tokT).length≤65537:=by
 rw[Nat.ble_eq]at hb
 have e:s.toList.length=s.size:=by rw[ByteArray.toList_eq];exact Array.length_toList
 obtain⟨us,h1,h2,_⟩:=tokS_last (by omega) ht
 rw[h1];simp;omega
theorem envq5:EnvOk glS Tryz.prog Q5:=envq4.fn mixed Tryz.func10 (by kernel_rfl) fun β args k r hr=>by
 unfold cParse at hr
 split at hr
 ·rename_i s d
  have st:∀{γ:Type} (q:List TV→List TV→Option γ),evalF Tryz.prog Q4 Tryz.f10 [TV.d true 0 (.str s),TV.d true 0 (.int .i64 d)] q=_:=fun q=>A25.start s d q
  unfold parseP at hr
  by_cases h0:d<1∨d>64
  ·rw[if_pos h0]at hr
   simp only[if_pos h0]at st
   exact⟨_,_,hr,fun q=>by rw[st];rfl⟩
  ·rw[if_neg h0]at hr
   simp only[if_neg h0]at st
   cases hb:Nat.ble s.size 65536 with
   |false=>
    simp only[hb]at st hr
    exact⟨_,_,hr,fun q=>by rw[st];rfl⟩
   |true=>
    simp only[hb]at st hr
    cases ht:tokS s.toList with
    |inl e=>
     obtain⟨n,p⟩:=e
     simp only[ht]at st hr
     exact⟨_,_,hr,fun q=>by rw[st];rfl⟩
    |inr l=>
     simp only[ht]at st hr
     have hl:=tok_len hb ht
     have hok:okP (l.map tokT) 0 d 1 (Bd.mk 1002 1002 1002 1002 1002 1002 1002 1002).ni:=⟨hl,by omega,by omega,by omega,by omega,by show _<1002;omega⟩
     simp only[if_pos hok,show(d+1 - 1).toNat=d.toNat by congr 1;omega]at st
     have hadv:=adv_imply (l.map tokT) d.toNat 0
     unfold endP at hr
     cases hp:pImply (l.map tokT) d.toNat 0 with
     |ok op nm ks p a=>
      rw[hp]at hadv
      simp only[Adv]at hadv
      simp only[hp]at st hr
      cases hk:tk (l.map tokT) a with
      |none=>simp only[hk]at hr;cases hr
      |some v=>
       obtain⟨c,t,p2⟩:=v
       simp only[hk]at hr
       simp only[if_pos (show(0:Int)≤a by omega),tk_some hk]at st
       by_cases hc:c=0
       ·rw[if_pos hc]at hr
        simp only[hc]at st
        exact⟨_,_,hr,fun q=>by rw[st];rfl⟩
       ·rw[if_neg hc]at hr
        have hc':(!c==0)=true:=by simpa using hc
        simp only[if_pos hc']at st
        exact⟨_,_,hr,fun q=>by rw[st];rfl⟩
     |syn p a=>
      simp only[hp]at st hr
      exact⟨_,_,hr,fun q=>by rw[st];rfl⟩
     |deep p a=>
      simp only[hp]at st hr
      exact⟨_,_,hr,fun q=>by rw[st];rfl⟩
     |no=>simp only[hp]at hr;cases hr
 ·cases hr
end Go.Sd
namespace Go.Sd
open Go Go.Cm Go.Proofs Go.Sc
set_option maxRecDepth 100000
def cSize {β:Type} (b:Option Nat) (args:List TV) (k:List TV→List TV→Option β):Option β:=
 match args with
 |[.d true 5 x]=>match ofD x with
  |some f=>chkK (bd b f) (k [.d false 0 (.int .i64 (sizeF f))] [])
  |none=>none
 |_=>none
def R1 (b:Option Nat):Env:=Q5.add 43 io0 (cSize b)
def cSame {β:Type} (b:Option Nat) (args:List TV) (k:List TV→List TV→Option β):Option β:=
 match args with
 |[.d true 5 x,.d true 5 y]=>match ofD x with
  |some f=>match ofD y with
   |some g=>chkK (bd b f) (k [.d false 0 (.bool (sameF f g))] [])
   |none=>none
  |none=>none
 |_=>none
def cEq {β:Type} (b:Option Nat) (args:List TV) (k:List TV→List TV→Option β):Option β:=
 match args with
 |[.d true 0 (.sl 5 xs),.d true 0 (.sl 5 ys),.d true 0 (.fn 114 [])]=>match ofDL xs with
  |some fs=>match ofDL ys with
   |some gs=>chkK (bdL b fs) (k [.d false 0 (.bool (sameL fs gs))] [])
   |none=>none
  |none=>none
 |_=>none
def R2 (b:Option Nat×Option Nat):Env:=((R1 none).add 114 io0 (cSame b.1)).add 123 io0 (cEq b.2)
end Go.Sd
namespace Go.Sd
open Go Go.Cm Go.Proofs Go.Sc
set_option maxRecDepth 100000
namespace S60
  section
  variable (b:Option Nat)
noncomputable def X:Fx:=⟨Tryz.prog,R1 b,4,1⟩
def s0 (ks:List D) (x60:Int) (x61:Int):S:=⟨Tm.mk 22 [(3,.d false 0 (.int .i64 x60)),(7,.d true 0 (.sl 5 ks)),(8,.d false 0 (.int .i64 (ks.length:Int))),(9,.d false 0 (.int .i64 x61))],[]⟩
def e0x0 (x122:Int):S:=⟨Tm.mk 22 [(3,.d false 0 (.int .i64 x122))],[]⟩
noncomputable abbrev L0:S→Option (S ⊕ (Ex×S)):=roundK (X b) [(0,8)] (sub [1,1,0,1,0,0] (body Tryz.f43))
theorem start {β:Type} (op:ByteArray) (nm:ByteArray) (ks:List D) (p:Int) (k:List TV→List TV→Option β):evalF Tryz.prog (R1 b) Tryz.f43 [.d true 5 (.ag [D.str op,D.str nm,D.sl 5 ks,D.int .i64 p])] k=goLp (X b) [(0,8)] (sub [1,1,0,1,0,0] (body Tryz.f43)) [Kf.block 0 8,Kf.seq [] (sub [1,1,1] (body Tryz.f43)) 4] (finK Tryz.prog Tryz.f43 [.d true 5 (.ag [D.str op,D.str nm,D.sl 5 ks,D.int .i64 p])] k) (s0 ks (1:Int) (0:Int)):=by kernel_rfl
theorem round0_0 (ks:List D) (x58:Int) (x59:Int):roundK (X b) [(0,8)] (sub [1,1,0,1,0,0] (body Tryz.f43)) (s0 ks x58 x59)=if decide (x59<(ks.length:Int))=true then if 0≤x59 then match ks[x59.toNat]? with
   |some x130=>match x130 with
    |D.ag xs131=>match xs131 with
     |x132::r133=>match x132 with
      |D.str s134=>match r133 with
       |x135::r136=>match x135 with
        |D.str s137=>match r136 with
         |x138::r139=>match x138 with
          |D.sl sh140 xs141=>if sh140=5 then match r139 with
           |x142::r143=>match x142 with
            |D.int j144 m145=>if j144=IntKind.i64 then match r143 with
             |[]=>if decide (x58≤4096)=true then match ofD (.ag [D.str s134,D.str s137,D.sl 5 xs141,D.int .i64 m145])with
              |some f150=>if bd b f150 then some (Sum.inl (s0 ks (if 4097<IntKind.wrap .i64 (x58+sizeF f150)then(4097:Int)else IntKind.wrap .i64 (x58+sizeF f150)) (IntKind.wrap .i64 (x59+1))))else none
              |none=>none else some (Sum.inl (s0 ks x58 (IntKind.wrap .i64 (x59+1))))
             |x=>none else none
            |x=>none
           |[]=>none else none
          |x=>none
         |[]=>none
        |x=>none
       |[]=>none
      |x=>none
     |[]=>none
    |x=>none
   |none=>none else none else some (Sum.inr (Ex.exit 0,e0x0 x58)):=by kernel_rfl
theorem behind0x0 {β:Type} (op:ByteArray) (nm:ByteArray) (ks:List D) (p:Int) (x122:Int) (k:List TV→List TV→Option β):applyK (X b) (finK Tryz.prog Tryz.f43 [.d true 5 (.ag [D.str op,D.str nm,D.sl 5 ks,D.int .i64 p])] k) [Kf.block 0 8,Kf.seq [] (sub [1,1,1] (body Tryz.f43)) 4] (Ex.exit 0) (e0x0 x122)=k [.d false 0 (.int .i64 x122)] []:=by kernel_rfl
end
end S60
end Go.Sd
namespace Go.Sd
open Go Go.Cm Go.Proofs Go.Sc
set_option maxRecDepth 100000
namespace S29
  section
  variable (b:Option Nat×Option Nat)
noncomputable def X:Fx:=⟨Tryz.prog,R2 b,16,2⟩
end
end S29
namespace S63
  section
  variable (b:Option Nat×Option Nat)
noncomputable def X:Fx:=⟨Tryz.prog,R2 b,64,3⟩
def s0 (ys:List D) (zs:List D) (x110:Int):S:=⟨Tm.mk 32 [(1,.d true 0 (.sl 5 zs)),(2,.d true 0 (.fn 114 [])),(15,.d true 0 (.sl 5 ys)),(16,.d false 0 (.int .i64 (ys.length:Int))),(17,.d false 0 (.int .i64 x110))],[]⟩
def e0r:S:=⟨Tm.mk 32 [(6,.d false 0 (.bool false))],[]⟩
def e0x0:S:=⟨Tm.mk 32 [],[]⟩
noncomputable abbrev L0:S→Option (S ⊕ (Ex×S)):=roundK (X b) [(0,0)] (sub [1,1,0,1,0,0] (body Tryz.f123))
end
end S63
end Go.Sd
namespace Go.Sd
open Go Go.Cm Go.Proofs Go.Sc
set_option maxRecDepth 100000
theorem EnvOk.lim {gl:Gl} {P:Program} {E:Env} {En:Nat→Env} (h:∀n,EnvOk gl P (En n))
  (hc:∀(β:Type) (g:FuncId) (args:List TV) (k:List TV→List TV→Option β) (r:β),E.c g args k=some r→∃n,(En n).c g args k=some r):EnvOk gl P E:=by
 intro β g args k r hr
 obtain⟨n,hn⟩:=hc β g args k r hr
 exact h n β g args k r hn
theorem wi {n:Nat} (h:n≤4096):IntKind.wrap .i64 ((n:Int)+1)=((n+1:Nat):Int):=by rw[wrap_id (by omega) (by omega)];omega
theorem size_loop {b:Option Nat} {fs:List Fm} (hl:fs.length≤4096) (hb:∀f∈fs,bd b f):∀(gs:List Fm) (i:Nat) (n:Int),fs.drop i=gs→i≤fs.length→1≤n→n≤4097→
  Lp (S60.L0 b) (S60.s0 (Fm.dL fs) n i)=some (.exit 0,S60.e0x0 (sizeL gs n))
 |[],i,n,hi,hle,h1,h2=>by
  have hr:=S60.round0_0 b (Fm.dL fs) n i
  have:fs.length≤i:=by have:=congrArg List.length hi;simp at this;omega
  rw[dL_len,if_neg (by simp;omega)]at hr
  exact Lp_exit hr
 |f::gs,i,n,hi,hle,h1,h2=>by
  have hr:=S60.round0_0 b (Fm.dL fs) n i
  have hlt:i<fs.length:=by
   rcases Nat.lt_or_ge i fs.length with h|h
   ·exact h
   ·rw[List.drop_eq_nil_of_le h]at hi;cases hi
  have hf:fs[i]=f:=by
   have:=List.drop_eq_getElem_cons hlt
   rw[hi]at this
   exact(List.cons.inj this).1.symm
  have hgs:fs.drop (i+1)=gs:=by
   have:=List.drop_eq_getElem_cons hlt
   rw[hi]at this
   exact(List.cons.inj this).2.symm
  rw[dL_len,if_pos (by simp;omega),if_pos (by omega),Int.toNat_natCast,dL_get hlt,hf]at hr
  have hm:f∈fs:=hf▸List.getElem_mem hlt
  have hbf:=hb f hm
  have hs:=sizeF_le f
  cases f with
  |mk op nm ks p=>
   have hof:=ofD_d (.mk op nm ks p)
   simp only[Fm.d]at hr hof
   simp only[hof,if_true,if_pos hbf,wi (show i≤4096 by omega),wrap_id (show -9223372036854775808≤n+sizeF (.mk op nm ks p)by omega) (by omega)]at hr
   have ih:=fun m h1 h2=>size_loop hl hb gs (i+1) m hgs (by omega) h1 h2
   simp only[sizeL]
   by_cases hn:n≤4096
   ·rw[if_pos (by simpa using hn)]at hr
    rw[if_pos hn]
    have e:(if(4097:Int)<n+sizeF (.mk op nm ks p)then(4097:Int)else n+sizeF (.mk op nm ks p))=min (n+sizeF (.mk op nm ks p)) 4097:=by split<;>omega
    rw[e]at hr
    exact Lp_step hr (ih _ (by omega) (by omega))
   ·rw[if_neg (by simpa using hn)]at hr
    rw[if_neg hn]
    exact Lp_step hr (ih _ h1 h2)
theorem ev_size {b:Option Nat} {f:Fm} (hs:f.sm=true) (hb:∀n,b=some n→f.dep≤n) {γ:Type} (q:List TV→List TV→Option γ):
  evalF Tryz.prog (R1 b) Tryz.f43 [.d true 5 f.d] q=q [.d false 0 (.int .i64 (sizeF f))] []:=by
 cases f with
 |mk op nm ks p=>
  simp only[Fm.sm,Bool.and_eq_true,Nat.ble_eq]at hs
  have h:=size_loop (b:=b) hs.1 (fun g hg=>bd_none ⟨sm_mem hs.2 hg,trivial⟩ fun n hn=>by
   have h1:=hb n hn
   have h2:=dep_mem hg
   simp only[Fm.dep]at h1
   omega) ks 0 1 rfl (by omega) (by omega) (by omega)
  have st:=S60.start b op nm (Fm.dL ks) p q
  simp only[Fm.d]
  rw[st,show(0:Int)=((0:Nat):Int)from rfl,goLp_of h,S60.behind0x0]
  simp only[sizeF]
theorem envr1:EnvOk glS Tryz.prog (R1 none):=by
 have key:∀n,EnvOk glS Tryz.prog (R1 (some n)):=by
  intro n
  induction n with
  |zero=>
   refine envq5.add fun β args k r hr=>?_
   unfold cSize at hr
   split at hr
   ·split at hr
    ·unfold chkK at hr
     split at hr
     ·rename_i h;have:=h.2;simp only at this;omega
     ·cases hr
    ·cases hr
   ·cases hr
  |succ n ih=>
   refine envq5.add fun β args k r hr=>?_
   unfold cSize at hr
   split at hr
   ·rename_i x
    split at hr
    ·rename_i f hf
     unfold chkK at hr
     split at hr
     ·rename_i h
      rw[d_ofD _ _ hf]
      exact⟨_,_,hr,valid_of ih mixed Tryz.func43 (by kernel_rfl) (ev_size (b:=some n) h.1 (fun m hm=>by cases hm;have:=h.2;simp only at this;omega) _)⟩
     ·cases hr
    ·cases hr
   ·cases hr
 refine EnvOk.lim key fun β g args k r hr=>?_
 simp only[R1,Env.add]at hr ⊢
 cases hg:Nat.beq g 43 with
 |false=>simp only[hg]at hr ⊢;exact⟨0,hr⟩
 |true=>
  simp only[hg]at hr ⊢
  unfold cSize at hr ⊢
  split at hr
  ·split at hr
   ·rename_i f hf
    unfold chkK at hr
    split at hr
    ·rename_i h
     exact⟨f.dep+1,by simp only[hf,chkK];rw[if_pos (bd_at h)];exact hr⟩
    ·cases hr
   ·cases hr
  ·cases hr
end Go.Sd
namespace Go.Sc
open Go Go.Cm
noncomputable def truthsT (P:Program) (f:Fm) (ns st lp:List D):Option (Int ⊕ List Bool):=
 match checkS P ns st lp with
 |none=>none
 |some false=>some (.inl 1)
 |some true=>
  if sizeF f>4096 then some (.inl 1)
  else if lformF f=true then truthF ns (st++lp) st.length f else some (.inl 1)
end Go.Sc
namespace Go.Sd
open Go Go.Cm Go.Proofs Go.Sc
noncomputable def cTruthsT {β:Type} (args:List TV) (k:List TV→List TV→Option β):Option β:=
 match args with
 |[.d true 5 x,.d true 0 (.sl 0 ns),.d true 3 (.ag [.sl 0 st,.sl 0 lp])]=>match ofD x with
  |some f=>chkK (bd none f∧ns.length≤big∧st.length+lp.length≤big) (ansL k (truthsT Tryz.prog f ns st lp))
  |none=>none
 |_=>none
noncomputable def WT:Env:=((((Env.none.add 38 io0 cCheck).add 43 io0 (cSize none)).add 44 io0 (cLF none)).add 45 io0 cConcat).add 46 io0 (cTruths none)
noncomputable def cHoldsT {β:Type} (args:List TV) (k:List TV→List TV→Option β):Option β:=
 match args with
 |[.d true 5 x,.d true 0 (.sl 0 ns),.d true 3 (.ag [.sl 0 st,.sl 0 lp])]=>match ofD x with
  |some f=>chkK (bd none f∧ns.length≤big∧st.length+lp.length≤big) (match truthsT Tryz.prog f ns st lp with
   |some (.inl e)=>k [.d false 0 (.bool false),.d false 0 (.ifc 84 (.int .i64 e))] []
   |some (.inr (b::_))=>k [.d false 0 (.bool b),.d false 0 .nili] []
   |_=>none)
  |none=>none
 |_=>none
noncomputable def WU:Env:=WT.add 13 io0 cTruthsT
noncomputable def WV:Env:=WU.add 18 io0 cHoldsT
end Go.Sd
namespace Go.Sd
open Go Go.Cm Go.Proofs Go.Sc
set_option maxRecDepth 100000
namespace V13
noncomputable def X:Fx:=⟨Tryz.prog,WT,192,3⟩
theorem start {β:Type} (op:ByteArray) (nm:ByteArray) (ks:List D) (p:Int) (ns:List D) (st:List D) (lp:List D) (k:List TV→List TV→Option β):evalF Tryz.prog WT Tryz.f13 [.d true 5 (D.ag [D.str op,D.str nm,D.sl 5 ks,D.int .i64 p]),.d true 0 (D.sl 0 ns),.d true 3 (D.ag [D.sl 0 st,D.sl 0 lp])] k=if ns.length≤34359738368∧st.length+lp.length≤34359738368 then match checkS Tryz.prog ns st lp with
   |some true=>match ofD (D.ag [D.str op,D.str nm,D.sl 5 ks,D.int .i64 p])with
    |some f3=>if bd none f3 then if decide (sizeF f3>4096)=true then k [.own false 0 [],.d false 0 (D.ifc 84 (D.int .i64 1))] []else match ofD (D.ag [D.str op,D.str nm,D.sl 5 ks,D.int .i64 p])with
     |some f6=>if bd none f6 then if(!lformF f6)=true then k [.own false 0 [],.d false 0 (D.ifc 84 (D.int .i64 1))] []else if st.length+lp.length≤34359738368 then match ofD (D.ag [D.str op,D.str nm,D.sl 5 ks,D.int .i64 p])with
      |some f11=>if bd none f11∧List.length (st++lp)≤34359738368∧ns.length≤34359738368 then match truthF ns (st++lp) (st.length:Int) f11 with
       |some (Sum.inl e12)=>k [.own false 0 [],.d false 0 (D.ifc 84 (D.int .i64 e12))] []
       |some (Sum.inr bs13)=>k [.own false 0 (bD bs13),.d false 0 D.nili] []
       |none=>none else none
      |none=>none else none else none
     |none=>none else none
    |none=>none
   |some false=>k [.own false 0 [],.d false 0 (D.ifc 84 (D.int .i64 1))] []
   |none=>none else none:=by kernel_rfl
end V13
namespace V18
noncomputable def X:Fx:=⟨Tryz.prog,WU,192,3⟩
theorem start {β:Type} (op:ByteArray) (nm:ByteArray) (ks:List D) (p:Int) (ns:List D) (st:List D) (lp:List D) (k:List TV→List TV→Option β):evalF Tryz.prog WU Tryz.f18 [.d true 5 (D.ag [D.str op,D.str nm,D.sl 5 ks,D.int .i64 p]),.d true 0 (D.sl 0 ns),.d true 3 (D.ag [D.sl 0 st,D.sl 0 lp])] k=match ofD (D.ag [D.str op,D.str nm,D.sl 5 ks,D.int .i64 p])with
   |some f2=>if bd none f2∧ns.length≤34359738368∧st.length+lp.length≤34359738368 then match truthsT Tryz.prog f2 ns st lp with
    |some (Sum.inl e3)=>k [.d false 0 (D.bool false),.d false 0 (D.ifc 84 (D.int .i64 e3))] []
    |some (Sum.inr bs7)=>if(0:Int)≤0∧(0:Int)<(↑(List.length (bD bs7)):Int)then match(bD bs7)[0]? with
     |some x11=>match x11 with
      |D.bool b12=>k [.d false 0 (D.bool b12),.d false 0 D.nili] []
      |x=>none
     |none=>none else none
    |none=>none else none
   |none=>none:=by kernel_rfl
end V18
end Go.Sd

/- Lasso: form: contracts. -/
import Derived.Test.YtbpndgllhhajoaaGreatDoorLb
set_option linter.unusedVariables false
set_option linter.unusedSimpArgs false
namespace Go.Sc
open Go Go.Cm
def wantN (op:ByteArray):Int:=
 if(op.toList==[116,114,117,101])=true∨(op.toList==[102,97,108,115,101])=true∨(op.toList==[108,97,98,101,108])=true then 0
 else if(op.toList==[33])=true∨(op.toList==[88])=true∨(op.toList==[70])=true∨(op.toList==[71])=true then 1
 else if(op.toList==[38])=true∨(op.toList==[124])=true∨(op.toList==[61,62])=true∨(op.toList==[85])=true∨(op.toList==[87])=true∨(op.toList==[82])=true then 2
 else -1
mutual
def lformF:Fm→Bool
 |.mk op _ ks _=>decide ((ks.length:Int)=wantN op)&&lformL ks
def lformL:List Fm→Bool
 |[]=>true
 |f::fs=>lformF f&&lformL fs
end
def idxNF:List Fm→Nat→Int
 |[],_=> -1
 |f::fs,i=>if lformF f=true then idxNF fs (i+1)else i
end Go.Sc
namespace Go.Sd
open Go Go.Cm Go.Proofs Go.Sc
def cLF {β:Type} (b:Option Nat) (args:List TV) (k:List TV→List TV→Option β):Option β:=
 match args with
 |[.d true 5 x]=>match ofD x with
  |some f=>chkK (bd b f) (k [.d false 0 (.bool (lformF f))] [])
  |none=>none
 |_=>none
def cLN {β:Type} (b:Option Nat) (args:List TV) (k:List TV→List TV→Option β):Option β:=
 match args with
 |[.d true 5 x]=>match ofD x with
  |some f=>chkK (bd b f) (k [.d false 0 (.bool (!lformF f))] [])
  |none=>none
 |_=>none
def cLI {β:Type} (b:Option Nat) (args:List TV) (k:List TV→List TV→Option β):Option β:=
 match args with
 |[.d true 0 (.sl 5 ys),.d true 0 (.fn 67 [])]=>match ofDL ys with
  |some fs=>chkK (bdL b fs) (k [.d false 0 (.int .i64 (idxNF fs 0))] [])
  |none=>none
 |_=>none
def cLC {β:Type} (b:Option Nat) (args:List TV) (k:List TV→List TV→Option β):Option β:=
 match args with
 |[.d true 0 (.sl 5 ys),.d true 0 (.fn 67 [])]=>match ofDL ys with
  |some fs=>chkK (bdL b fs) (k [.d false 0 (.bool (!lformL fs))] [])
  |none=>none
 |_=>none
def WF (B:Option Nat×Option Nat×Option Nat×Option Nat):Env:=(((Env.none.add 44 io0 (cLF B.1)).add 67 io0 (cLN B.2.1)).add 96 io0 (cLI B.2.2.1)).add 66 io0 (cLC B.2.2.2)
end Go.Sd
namespace Go.Sd
open Go Go.Cm Go.Proofs Go.Sc
set_option maxRecDepth 100000
namespace L44
  section
  variable (B:Option Nat×Option Nat×Option Nat×Option Nat)
noncomputable def X:Fx:=⟨Tryz.prog,WF B,4,1⟩
def j0 (op:ByteArray) (nm:ByteArray) (ks:List D) (p:Int) (x32:Bool):S:=⟨Tm.mk 34 [(1,.rp 2 0),(3,.d false 0 (D.int .i64 (-1:Int))),(19,.d false 0 (D.bool x32))],[(2,true,[.d true 0 (D.str op),.d true 0 (D.str nm),.d true 0 (D.sl 5 ks),.d true 0 (D.int .i64 p)])]⟩
def j1 (op:ByteArray) (nm:ByteArray) (ks:List D) (p:Int) (x36:Bool):S:=⟨Tm.mk 34 [(1,.rp 2 0),(3,.d false 0 (D.int .i64 (-1:Int))),(5,.d true 0 (D.str op)),(15,.d false 0 (D.bool x36))],[(2,true,[.d true 0 (D.str op),.d true 0 (D.str nm),.d true 0 (D.sl 5 ks),.d true 0 (D.int .i64 p)])]⟩
def j2 (op:ByteArray) (nm:ByteArray) (ks:List D) (p:Int) (x41:Bool):S:=⟨Tm.mk 34 [(1,.rp 2 0),(3,.d false 0 (D.int .i64 (-1:Int))),(5,.d true 0 (D.str op)),(10,.d false 0 (D.bool x41))],[(2,true,[.d true 0 (D.str op),.d true 0 (D.str nm),.d true 0 (D.sl 5 ks),.d true 0 (D.int .i64 p)])]⟩
def j3 (op:ByteArray) (nm:ByteArray) (ks:List D) (p:Int) (x46:Bool):S:=⟨Tm.mk 34 [(1,.rp 2 0),(3,.d false 0 (D.int .i64 (-1:Int))),(5,.d true 0 (D.str op)),(6,.d false 0 (D.bool x46))],[(2,true,[.d true 0 (D.str op),.d true 0 (D.str nm),.d true 0 (D.sl 5 ks),.d true 0 (D.int .i64 p)])]⟩
def j4 (op:ByteArray) (nm:ByteArray) (ks:List D) (p:Int):S:=⟨Tm.mk 34 [(1,.rp 2 0),(3,.d false 0 (D.int .i64 (-1:Int))),(5,.d true 0 (D.str op))],[(2,true,[.d true 0 (D.str op),.d true 0 (D.str nm),.d true 0 (D.sl 5 ks),.d true 0 (D.int .i64 p)])]⟩
def j5 (op:ByteArray) (nm:ByteArray) (ks:List D) (p:Int):S:=⟨Tm.mk 34 [(1,.rp 2 0),(3,.d false 0 (D.int .i64 (-1:Int))),(5,.d true 0 (D.str op))],[(2,true,[.d true 0 (D.str op),.d true 0 (D.str nm),.d true 0 (D.sl 5 ks),.d true 0 (D.int .i64 p)])]⟩
def j6 (op:ByteArray) (nm:ByteArray) (ks:List D) (p:Int):S:=⟨Tm.mk 34 [(1,.rp 2 0),(3,.d false 0 (D.int .i64 (-1:Int))),(5,.d true 0 (D.str op))],[(2,true,[.d true 0 (D.str op),.d true 0 (D.str nm),.d true 0 (D.sl 5 ks),.d true 0 (D.int .i64 p)])]⟩
noncomputable abbrev J0 {β:Type} (op:ByteArray) (nm:ByteArray) (ks:List D) (p:Int) (k:List TV→List TV→Option β):S→Option β:=applyK (X B) (finK Tryz.prog Tryz.f44 [.d true 5 (D.ag [D.str op,D.str nm,D.sl 5 ks,D.int .i64 p])] k) [Kf.seq [(1,2),(2,2),(3,2),(4,2),(0,10)] (sub [1,1,0,1,0,0,0,0,0,0,0,0,0,1,1,1,1] (body Tryz.f44)) 10,Kf.seq [(1,2),(2,2),(3,2),(4,2),(0,10)] (sub [1,1,0,1,0,0,0,0,0,0,0,0,1] (body Tryz.f44)) 2,Kf.block 1 2,Kf.seq [(2,2),(3,2),(4,2),(0,10)] (sub [1,1,0,1,0,0,0,0,0,0,1] (body Tryz.f44)) 2,Kf.block 2 2,Kf.seq [(3,2),(4,2),(0,10)] (sub [1,1,0,1,0,0,0,0,1] (body Tryz.f44)) 2,Kf.block 3 2,Kf.block 4 2,Kf.seq [(0,10)] (sub [1,1,0,1,0,1] (body Tryz.f44)) 10,Kf.block 0 10,Kf.seq [] (sub [1,1,1] (body Tryz.f44)) 4] Ex.norm
noncomputable abbrev J1 {β:Type} (op:ByteArray) (nm:ByteArray) (ks:List D) (p:Int) (k:List TV→List TV→Option β):S→Option β:=applyK (X B) (finK Tryz.prog Tryz.f44 [.d true 5 (D.ag [D.str op,D.str nm,D.sl 5 ks,D.int .i64 p])] k) [Kf.seq [(1,2),(2,2),(3,2),(4,2),(0,10)] (sub [1,1,0,1,0,0,0,0,0,0,0,0,0,1,1,0,1] (body Tryz.f44)) 42,Kf.seq [(1,2),(2,2),(3,2),(4,2),(0,10)] (sub [1,1,0,1,0,0,0,0,0,0,0,0,0,1,1,1] (body Tryz.f44)) 10,Kf.seq [(1,2),(2,2),(3,2),(4,2),(0,10)] (sub [1,1,0,1,0,0,0,0,0,0,0,0,1] (body Tryz.f44)) 2,Kf.block 1 2,Kf.seq [(2,2),(3,2),(4,2),(0,10)] (sub [1,1,0,1,0,0,0,0,0,0,1] (body Tryz.f44)) 2,Kf.block 2 2,Kf.seq [(3,2),(4,2),(0,10)] (sub [1,1,0,1,0,0,0,0,1] (body Tryz.f44)) 2,Kf.block 3 2,Kf.block 4 2,Kf.seq [(0,10)] (sub [1,1,0,1,0,1] (body Tryz.f44)) 10,Kf.block 0 10,Kf.seq [] (sub [1,1,1] (body Tryz.f44)) 4] Ex.norm
noncomputable abbrev J2 {β:Type} (op:ByteArray) (nm:ByteArray) (ks:List D) (p:Int) (k:List TV→List TV→Option β):S→Option β:=applyK (X B) (finK Tryz.prog Tryz.f44 [.d true 5 (D.ag [D.str op,D.str nm,D.sl 5 ks,D.int .i64 p])] k) [Kf.seq [(1,2),(2,2),(3,2),(4,2),(0,10)] (sub [1,1,0,1,0,0,0,0,0,0,0,0,0,1,0,1] (body Tryz.f44)) 42,Kf.seq [(1,2),(2,2),(3,2),(4,2),(0,10)] (sub [1,1,0,1,0,0,0,0,0,0,0,0,0,1,1] (body Tryz.f44)) 10,Kf.seq [(1,2),(2,2),(3,2),(4,2),(0,10)] (sub [1,1,0,1,0,0,0,0,0,0,0,0,1] (body Tryz.f44)) 2,Kf.block 1 2,Kf.seq [(2,2),(3,2),(4,2),(0,10)] (sub [1,1,0,1,0,0,0,0,0,0,1] (body Tryz.f44)) 2,Kf.block 2 2,Kf.seq [(3,2),(4,2),(0,10)] (sub [1,1,0,1,0,0,0,0,1] (body Tryz.f44)) 2,Kf.block 3 2,Kf.block 4 2,Kf.seq [(0,10)] (sub [1,1,0,1,0,1] (body Tryz.f44)) 10,Kf.block 0 10,Kf.seq [] (sub [1,1,1] (body Tryz.f44)) 4] Ex.norm
noncomputable abbrev J3 {β:Type} (op:ByteArray) (nm:ByteArray) (ks:List D) (p:Int) (k:List TV→List TV→Option β):S→Option β:=applyK (X B) (finK Tryz.prog Tryz.f44 [.d true 5 (D.ag [D.str op,D.str nm,D.sl 5 ks,D.int .i64 p])] k) [Kf.seq [(1,2),(2,2),(3,2),(4,2),(0,10)] (sub [1,1,0,1,0,0,0,0,0,0,0,0,0,0,1] (body Tryz.f44)) 42,Kf.seq [(1,2),(2,2),(3,2),(4,2),(0,10)] (sub [1,1,0,1,0,0,0,0,0,0,0,0,0,1] (body Tryz.f44)) 10,Kf.seq [(1,2),(2,2),(3,2),(4,2),(0,10)] (sub [1,1,0,1,0,0,0,0,0,0,0,0,1] (body Tryz.f44)) 2,Kf.block 1 2,Kf.seq [(2,2),(3,2),(4,2),(0,10)] (sub [1,1,0,1,0,0,0,0,0,0,1] (body Tryz.f44)) 2,Kf.block 2 2,Kf.seq [(3,2),(4,2),(0,10)] (sub [1,1,0,1,0,0,0,0,1] (body Tryz.f44)) 2,Kf.block 3 2,Kf.block 4 2,Kf.seq [(0,10)] (sub [1,1,0,1,0,1] (body Tryz.f44)) 10,Kf.block 0 10,Kf.seq [] (sub [1,1,1] (body Tryz.f44)) 4] Ex.norm
noncomputable abbrev J4 {β:Type} (op:ByteArray) (nm:ByteArray) (ks:List D) (p:Int) (k:List TV→List TV→Option β):S→Option β:=applyK (X B) (finK Tryz.prog Tryz.f44 [.d true 5 (D.ag [D.str op,D.str nm,D.sl 5 ks,D.int .i64 p])] k) [Kf.seq [(1,2),(2,2),(3,2),(4,2),(0,10)] (sub [1,1,0,1,0,0,0,0,0,0,0,0,0,1,1,1] (body Tryz.f44)) 10,Kf.seq [(1,2),(2,2),(3,2),(4,2),(0,10)] (sub [1,1,0,1,0,0,0,0,0,0,0,0,1] (body Tryz.f44)) 2,Kf.block 1 2,Kf.seq [(2,2),(3,2),(4,2),(0,10)] (sub [1,1,0,1,0,0,0,0,0,0,1] (body Tryz.f44)) 2,Kf.block 2 2,Kf.seq [(3,2),(4,2),(0,10)] (sub [1,1,0,1,0,0,0,0,1] (body Tryz.f44)) 2,Kf.block 3 2,Kf.block 4 2,Kf.seq [(0,10)] (sub [1,1,0,1,0,1] (body Tryz.f44)) 10,Kf.block 0 10,Kf.seq [] (sub [1,1,1] (body Tryz.f44)) 4] Ex.norm
noncomputable abbrev J5 {β:Type} (op:ByteArray) (nm:ByteArray) (ks:List D) (p:Int) (k:List TV→List TV→Option β):S→Option β:=applyK (X B) (finK Tryz.prog Tryz.f44 [.d true 5 (D.ag [D.str op,D.str nm,D.sl 5 ks,D.int .i64 p])] k) [Kf.seq [(1,2),(2,2),(3,2),(4,2),(0,10)] (sub [1,1,0,1,0,0,0,0,0,0,0,0,0,1,1] (body Tryz.f44)) 10,Kf.seq [(1,2),(2,2),(3,2),(4,2),(0,10)] (sub [1,1,0,1,0,0,0,0,0,0,0,0,1] (body Tryz.f44)) 2,Kf.block 1 2,Kf.seq [(2,2),(3,2),(4,2),(0,10)] (sub [1,1,0,1,0,0,0,0,0,0,1] (body Tryz.f44)) 2,Kf.block 2 2,Kf.seq [(3,2),(4,2),(0,10)] (sub [1,1,0,1,0,0,0,0,1] (body Tryz.f44)) 2,Kf.block 3 2,Kf.block 4 2,Kf.seq [(0,10)] (sub [1,1,0,1,0,1] (body Tryz.f44)) 10,Kf.block 0 10,Kf.seq [] (sub [1,1,1] (body Tryz.f44)) 4] Ex.norm
noncomputable abbrev J6 {β:Type} (op:ByteArray) (nm:ByteArray) (ks:List D) (p:Int) (k:List TV→List TV→Option β):S→Option β:=applyK (X B) (finK Tryz.prog Tryz.f44 [.d true 5 (D.ag [D.str op,D.str nm,D.sl 5 ks,D.int .i64 p])] k) [Kf.seq [(1,2),(2,2),(3,2),(4,2),(0,10)] (sub [1,1,0,1,0,0,0,0,0,0,0,0,0,1] (body Tryz.f44)) 10,Kf.seq [(1,2),(2,2),(3,2),(4,2),(0,10)] (sub [1,1,0,1,0,0,0,0,0,0,0,0,1] (body Tryz.f44)) 2,Kf.block 1 2,Kf.seq [(2,2),(3,2),(4,2),(0,10)] (sub [1,1,0,1,0,0,0,0,0,0,1] (body Tryz.f44)) 2,Kf.block 2 2,Kf.seq [(3,2),(4,2),(0,10)] (sub [1,1,0,1,0,0,0,0,1] (body Tryz.f44)) 2,Kf.block 3 2,Kf.block 4 2,Kf.seq [(0,10)] (sub [1,1,0,1,0,1] (body Tryz.f44)) 10,Kf.block 0 10,Kf.seq [] (sub [1,1,1] (body Tryz.f44)) 4] Ex.norm
theorem start {β:Type} (op:ByteArray) (nm:ByteArray) (ks:List D) (p:Int) (k:List TV→List TV→Option β):evalF Tryz.prog (WF B) Tryz.f44 [.d true 5 (D.ag [D.str op,D.str nm,D.sl 5 ks,D.int .i64 p])] k=if(op.toList==[116,114,117,101])=true then J3 B op nm ks p k (j3 op nm ks p (op.toList==[116,114,117,101]))else if(op.toList==[102,97,108,115,101])=true then J3 B op nm ks p k (j3 op nm ks p (op.toList==[102,97,108,115,101]))else J3 B op nm ks p k (j3 op nm ks p (op.toList==[108,97,98,101,108])):=by kernel_rfl
theorem j0_eq {β:Type} (op:ByteArray) (nm:ByteArray) (ks:List D) (p:Int) (x32:Bool) (k:List TV→List TV→Option β):J0 B op nm ks p k (j0 op nm ks p x32)=if x32=true then if((ks.length:Int)==2)=true then match ofDL ks with
   |some fs93=>if bdL B.snd.snd.snd fs93 then k [.d false 0 (D.bool !!lformL fs93)] []else none
   |none=>none else k [.d false 0 (D.bool false)] []else if((ks.length:Int)==(-1:Int))=true then match ofDL ks with
   |some fs95=>if bdL B.snd.snd.snd fs95 then k [.d false 0 (D.bool !!lformL fs95)] []else none
   |none=>none else k [.d false 0 (D.bool false)] []:=by kernel_rfl
theorem j1_eq {β:Type} (op:ByteArray) (nm:ByteArray) (ks:List D) (p:Int) (x36:Bool) (k:List TV→List TV→Option β):J1 B op nm ks p k (j1 op nm ks p x36)=if x36=true then if((ks.length:Int)==2)=true then match ofDL ks with
   |some fs99=>if bdL B.snd.snd.snd fs99 then k [.d false 0 (D.bool !!lformL fs99)] []else none
   |none=>none else k [.d false 0 (D.bool false)] []else J4 B op nm ks p k (j4 op nm ks p):=by kernel_rfl
theorem j2_eq {β:Type} (op:ByteArray) (nm:ByteArray) (ks:List D) (p:Int) (x41:Bool) (k:List TV→List TV→Option β):J2 B op nm ks p k (j2 op nm ks p x41)=if x41=true then if((ks.length:Int)==1)=true then match ofDL ks with
   |some fs103=>if bdL B.snd.snd.snd fs103 then k [.d false 0 (D.bool !!lformL fs103)] []else none
   |none=>none else k [.d false 0 (D.bool false)] []else J5 B op nm ks p k (j5 op nm ks p):=by kernel_rfl
theorem j3_eq {β:Type} (op:ByteArray) (nm:ByteArray) (ks:List D) (p:Int) (x46:Bool) (k:List TV→List TV→Option β):J3 B op nm ks p k (j3 op nm ks p x46)=if x46=true then if((ks.length:Int)==0)=true then match ofDL ks with
   |some fs107=>if bdL B.snd.snd.snd fs107 then k [.d false 0 (D.bool !!lformL fs107)] []else none
   |none=>none else k [.d false 0 (D.bool false)] []else J6 B op nm ks p k (j6 op nm ks p):=by kernel_rfl
theorem j4_eq {β:Type} (op:ByteArray) (nm:ByteArray) (ks:List D) (p:Int) (k:List TV→List TV→Option β):J4 B op nm ks p k (j4 op nm ks p)=if(op.toList==[85])=true then J0 B op nm ks p k (j0 op nm ks p (op.toList==[85]))else if(op.toList==[87])=true then J0 B op nm ks p k (j0 op nm ks p (op.toList==[87]))else J0 B op nm ks p k (j0 op nm ks p (op.toList==[82])):=by kernel_rfl
theorem j5_eq {β:Type} (op:ByteArray) (nm:ByteArray) (ks:List D) (p:Int) (k:List TV→List TV→Option β):J5 B op nm ks p k (j5 op nm ks p)=if(op.toList==[38])=true then J1 B op nm ks p k (j1 op nm ks p (op.toList==[38]))else if(op.toList==[124])=true then J1 B op nm ks p k (j1 op nm ks p (op.toList==[124]))else J1 B op nm ks p k (j1 op nm ks p (op.toList==[61,62])):=by kernel_rfl
theorem j6_eq {β:Type} (op:ByteArray) (nm:ByteArray) (ks:List D) (p:Int) (k:List TV→List TV→Option β):J6 B op nm ks p k (j6 op nm ks p)=if(op.toList==[33])=true then J2 B op nm ks p k (j2 op nm ks p (op.toList==[33]))else if(op.toList==[88])=true then J2 B op nm ks p k (j2 op nm ks p (op.toList==[88]))else if(op.toList==[70])=true then J2 B op nm ks p k (j2 op nm ks p (op.toList==[70]))else J2 B op nm ks p k (j2 op nm ks p (op.toList==[71])):=by kernel_rfl
end
end L44
namespace L67
  section
  variable (B:Option Nat×Option Nat×Option Nat×Option Nat)
theorem start {β:Type} (op:ByteArray) (nm:ByteArray) (ks:List D) (p:Int) (k:List TV→List TV→Option β):evalF Tryz.prog (WF B) Tryz.f67 [.d true 5 (D.ag [D.str op,D.str nm,D.sl 5 ks,D.int .i64 p])] k=match ofD (D.ag [D.str op,D.str nm,D.sl 5 ks,D.int .i64 p])with
   |some f2=>if bd B.fst f2 then k [.d false 0 (D.bool !lformF f2)] []else none
   |none=>none:=by kernel_rfl
end
end L67
namespace L96
  section
  variable (B:Option Nat×Option Nat×Option Nat×Option Nat)
noncomputable def X:Fx:=⟨Tryz.prog,WF B,16,2⟩
def s0 (ys:List D) (x58:Int):S:=⟨Tm.mk 19 [(0,.d true 0 (D.sl 5 ys)),(1,.d true 0 (D.fn 67 [])),(7,.d false 0 (D.int .i64 (ys.length:Int))),(8,.d false 0 (D.int .i64 x58))],[]⟩
def e0r (x117:Int):S:=⟨Tm.mk 19 [(4,.d false 0 (D.int .i64 x117))],[]⟩
def e0x0:S:=⟨Tm.mk 19 [],[]⟩
noncomputable abbrev L0:S→Option (S ⊕ (Ex×S)):=roundK (X B) [(0,0)] (sub [1,0,1,0,0] (body Tryz.f96))
theorem start {β:Type} (ys:List D) (k:List TV→List TV→Option β):evalF Tryz.prog (WF B) Tryz.f96 [.d true 0 (D.sl 5 ys),.d true 0 (D.fn (67:FuncId) [])] k=goLp (X B) [(0,0)] (sub [1,0,1,0,0] (body Tryz.f96)) [Kf.block 0 0,Kf.seq [] (sub [1,1] (body Tryz.f96)) 16] (finK Tryz.prog Tryz.f96 [.d true 0 (D.sl 5 ys),.d true 0 (D.fn (67:FuncId) [])] k) (s0 ys (0:Int)):=by kernel_rfl
theorem round0_0 (ys:List D) (x57:Int):roundK (X B) [(0,0)] (sub [1,0,1,0,0] (body Tryz.f96)) (s0 ys x57)=if decide (x57<(ys.length:Int))=true then if 0≤x57 then match ys[x57.toNat]? with
   |some x125=>match x125 with
    |D.ag xs126=>match xs126 with
     |x127::r128=>match x127 with
      |D.str s129=>match r128 with
       |x130::r131=>match x130 with
        |D.str s132=>match r131 with
         |x133::r134=>match x133 with
          |D.sl sh135 xs136=>if sh135=5 then match r134 with
           |x137::r138=>match x137 with
            |D.int j139 m140=>if j139=IntKind.i64 then match r138 with
             |[]=>match ofD (D.ag [D.str s129,D.str s132,D.sl 5 xs136,D.int .i64 m140])with
              |some f142=>if bd B.snd.fst f142 then if(!lformF f142)=true then some (Sum.inr (Ex.ret,e0r x57))else some (Sum.inl (s0 ys (IntKind.wrap .i64 (x57+1))))else none
              |none=>none
             |x=>none else none
            |x=>none
           |[]=>none else none
          |x=>none
         |[]=>none
        |x=>none
       |[]=>none
      |x=>none
     |[]=>none
    |x=>none
   |none=>none else none else some (Sum.inr (Ex.exit 0,e0x0)):=by kernel_rfl
theorem behind0r {β:Type} (ys:List D) (x117:Int) (k:List TV→List TV→Option β):applyK (X B) (finK Tryz.prog Tryz.f96 [.d true 0 (D.sl 5 ys),.d true 0 (D.fn (67:FuncId) [])] k) [Kf.block 0 0,Kf.seq [] (sub [1,1] (body Tryz.f96)) 16] Ex.ret (e0r x117)=k [.d false 0 (D.int .i64 x117)] []:=by kernel_rfl
theorem behind0x0 {β:Type} (ys:List D) (k:List TV→List TV→Option β):applyK (X B) (finK Tryz.prog Tryz.f96 [.d true 0 (D.sl 5 ys),.d true 0 (D.fn (67:FuncId) [])] k) [Kf.block 0 0,Kf.seq [] (sub [1,1] (body Tryz.f96)) 16] (Ex.exit 0) e0x0=k [.d false 0 (D.int .i64 (-1:Int))] []:=by kernel_rfl
end
end L96
namespace L66
  section
  variable (B:Option Nat×Option Nat×Option Nat×Option Nat)
theorem start {β:Type} (ys:List D) (k:List TV→List TV→Option β):evalF Tryz.prog (WF B) Tryz.f66 [.d true 0 (D.sl 5 ys),.d true 0 (D.fn (67:FuncId) [])] k=match ofDL ys with
   |some fs2=>if bdL B.snd.snd.fst fs2 then k [.d false 0 (D.bool (decide (idxNF fs2 0≥(0:Int))))] []else none
   |none=>none:=by kernel_rfl
end
end L66
end Go.Sd
set_option maxRecDepth 100000
namespace Go.Sc
open Go Go.Cm
theorem idxNF_all:∀(fs:List Fm) (i:Nat),decide (idxNF fs i≥0)= !lformL fs
 |[],i=>rfl
 |f::fs,i=>by
  have ih:=idxNF_all fs (i+1)
  by_cases h:lformF f=true
  ·have e:idxNF (f::fs) i=idxNF fs (i+1):=by simp[idxNF,h]
   rw[show decide (idxNF (f::fs) i≥0)=decide (idxNF fs (i+1)≥0)from by simp only[e],ih]
   simp[lformL,h]
  ·have e:idxNF (f::fs) i=(i:Int):=by simp[idxNF,h]
   rw[show decide (idxNF (f::fs) i≥0)=decide ((i:Int)≥0)from by simp only[e]]
   simp[lformL,h]
end Go.Sc
namespace Go.Sd
open Go Go.Cm Go.Proofs Go.Sc
abbrev BT:=Option Nat×Option Nat×Option Nat×Option Nat
theorem ev_form {B:BT} {op nm:ByteArray} {fs:List Fm} {p:Int} (hb:bdL B.2.2.2 fs) {γ:Type} (q:List TV→List TV→Option γ):
  evalF Tryz.prog (WF B) Tryz.f44 [.d true 5 (.ag [.str op,.str nm,.sl 5 (Fm.dL fs),.int .i64 p])] q=q [.d false 0 (.bool (lformF (.mk op nm fs p)))] []:=by
 have fin:∀w:Int,wantN op=w→(if(((Fm.dL fs).length:Int)==w)=true then q [.d false 0 (.bool !!lformL fs)] []else q [.d false 0 (.bool false)] [])=q [.d false 0 (.bool (lformF (.mk op nm fs p)))] []:=by
  intro w hw
  simp only[lformF,hw,dL_len]
  by_cases h:(fs.length:Int)=w
  ·rw[if_pos (by simpa using h)];simp[h]
  ·rw[if_neg (by simpa using h)];simp[h]
 rw[L44.start]
 simp only[L44.j3_eq,L44.j6_eq,L44.j2_eq,L44.j5_eq,L44.j1_eq,L44.j4_eq,L44.j0_eq,ofDL_d,if_pos hb]
 unfold wantN at fin
 by_cases a1:(op.toList==[116,114,117,101])=true
 ·simp only[a1,if_true];exact fin 0 (by simp[a1])
 by_cases a2:(op.toList==[102,97,108,115,101])=true
 ·simp only[a1,a2,if_true,if_false];exact fin 0 (by simp[a2])
 by_cases a3:(op.toList==[108,97,98,101,108])=true
 ·simp only[a1,a2,a3,if_true,if_false];exact fin 0 (by simp[a3])
 have e0:¬((op.toList==[116,114,117,101])=true∨(op.toList==[102,97,108,115,101])=true∨(op.toList==[108,97,98,101,108])=true):=by simp only[not_or];exact⟨a1,a2,a3⟩
 simp only[if_neg e0]at fin
 simp only[if_neg a1,if_neg a2,if_neg a3]
 by_cases b1:(op.toList==[33])=true
 ·simp only[b1,if_true];exact fin 1 (by simp[b1])
 by_cases b2:(op.toList==[88])=true
 ·simp only[b1,b2,if_true,if_false];exact fin 1 (by simp[b2])
 by_cases b3:(op.toList==[70])=true
 ·simp only[b1,b2,b3,if_true,if_false];exact fin 1 (by simp[b3])
 by_cases b4:(op.toList==[71])=true
 ·simp only[b1,b2,b3,b4,if_true,if_false];exact fin 1 (by simp[b4])
 have e1:¬((op.toList==[33])=true∨(op.toList==[88])=true∨(op.toList==[70])=true∨(op.toList==[71])=true):=by simp only[not_or];exact⟨b1,b2,b3,b4⟩
 simp only[if_neg e1]at fin
 simp only[if_neg b1,if_neg b2,if_neg b3,if_neg b4]
 by_cases c1:(op.toList==[38])=true
 ·simp only[c1,if_true];exact fin 2 (by simp[c1])
 by_cases c2:(op.toList==[124])=true
 ·simp only[c1,c2,if_true,if_false];exact fin 2 (by simp[c2])
 by_cases c3:(op.toList==[61,62])=true
 ·simp only[c1,c2,c3,if_true,if_false];exact fin 2 (by simp[c3])
 by_cases c4:(op.toList==[85])=true
 ·simp only[c1,c2,c3,c4,if_true,if_false];exact fin 2 (by simp[c4])
 by_cases c5:(op.toList==[87])=true
 ·simp only[c1,c2,c3,c4,c5,if_true,if_false];exact fin 2 (by simp[c5])
 by_cases c6:(op.toList==[82])=true
 ·simp only[c1,c2,c3,c4,c5,c6,if_true,if_false];exact fin 2 (by simp[c6])
 simp only[if_neg c1,if_neg c2,if_neg c3,if_neg c4,if_neg c5,if_neg c6]
 exact fin (-1) (by simp[c1,c2,c3,c4,c5,c6])
theorem nf_loop {B:BT} {fs:List Fm} (hl:fs.length≤4096) (hb:∀f∈fs,bd B.2.1 f):∀(gs:List Fm) (i:Nat),fs.drop i=gs→i≤fs.length→
  (idxNF gs i= -1∧Lp (L96.L0 B) (L96.s0 (Fm.dL fs) i)=some (.exit 0,L96.e0x0))∨(0≤idxNF gs i∧Lp (L96.L0 B) (L96.s0 (Fm.dL fs) i)=some (.ret,L96.e0r (idxNF gs i)))
 |[],i,hi,hle=>by
  have hr:=L96.round0_0 B (Fm.dL fs) i
  have:fs.length≤i:=by have:=congrArg List.length hi;simp at this;omega
  rw[dL_len,if_neg (by simp;omega)]at hr
  exact .inl ⟨rfl,Lp_exit hr⟩
 |f::gs,i,hi,hle=>by
  have hr:=L96.round0_0 B (Fm.dL fs) i
  have hlt:i<fs.length:=by
   rcases Nat.lt_or_ge i fs.length with h|h
   ·exact h
   ·rw[List.drop_eq_nil_of_le h]at hi;cases hi
  have hc:=List.drop_eq_getElem_cons hlt
  rw[hi]at hc
  have hf:fs[i]=f:=(List.cons.inj hc).1.symm
  have hgs:fs.drop (i+1)=gs:=(List.cons.inj hc).2.symm
  rw[dL_len,if_pos (by simp;omega),if_pos (by omega),Int.toNat_natCast,dL_get hlt,hf]at hr
  have hbf:=hb f (hf▸List.getElem_mem hlt)
  have ih:=nf_loop hl hb gs (i+1) hgs (by omega)
  cases f with
  |mk o n ks q=>
   have hof:=ofD_d (.mk o n ks q)
   simp only[Fm.d]at hr hof
   simp only[hof,if_true,if_pos hbf,wrap_id (show -9223372036854775808≤(i:Int)+1 by omega) (by omega)]at hr
   simp only[idxNF]
   by_cases h:lformF (.mk o n ks q)=true
   ·rw[if_pos h]
    rw[if_neg (by simp[h])]at hr
    rcases ih with⟨h1,h2⟩|⟨h1,h2⟩
    ·exact .inl ⟨h1,Lp_step hr h2⟩
    ·exact .inr ⟨h1,Lp_step hr h2⟩
   ·rw[if_neg h]
    rw[if_pos (by simpa using h)]at hr
    exact .inr ⟨by omega,Lp_exit hr⟩
theorem ev_nf {B:BT} {fs:List Fm} (hl:fs.length≤4096) (hb:∀f∈fs,bd B.2.1 f) {γ:Type} (q:List TV→List TV→Option γ):
  evalF Tryz.prog (WF B) Tryz.f96 [.d true 0 (.sl 5 (Fm.dL fs)),.d true 0 (.fn 67 [])] q=q [.d false 0 (.int .i64 (idxNF fs 0))] []:=by
 rw[L96.start]
 rcases nf_loop (B:=B) hl hb fs 0 rfl (by omega)with⟨h1,h2⟩|⟨h1,h2⟩
 ·have h':Lp (L96.L0 B) (L96.s0 (Fm.dL fs) 0)=_:=h2
  rw[goLp_of h',L96.behind0x0,h1]
 ·have h':Lp (L96.L0 B) (L96.s0 (Fm.dL fs) 0)=_:=h2
  rw[goLp_of h',L96.behind0r]
end Go.Sd
set_option maxRecDepth 100000
namespace Go.Sd
open Go Go.Cm Go.Proofs Go.Sc
def VC (g:FuncId) (c:{β:Type}→List TV→(List TV→List TV→Option β)→Option β):Prop:=
 ∀(β:Type) (args:List TV) (k:List TV→List TV→Option β) (r:β),c args k=some r→∃res outs,k res outs=some r∧Valid glS Tryz.prog g args res outs
theorem wf_mk {B:BT} (h1:VC 44 (cLF B.1)) (h2:VC 67 (cLN B.2.1)) (h3:VC 96 (cLI B.2.2.1)) (h4:VC 66 (cLC B.2.2.2)):EnvOk glS Tryz.prog (WF B):=
 (((EnvOk.none.add h1).add h2).add h3).add h4
theorem bd_lt {n:Nat} {f:Fm} (h:bd (some n) f):f.dep<n:=h.2
theorem vc44 {B:BT} {n:Nat} (hE:EnvOk glS Tryz.prog (WF B)) (hB:B.2.2.2=some n):VC 44 (cLF (some (n+1))):=by
 intro β args k r hr
 change cLF _ args k=some r at hr;unfold cLF at hr
 split at hr
 ·split at hr
  ·rename_i x f hf
   obtain⟨h0,hr⟩:=chkK_ok hr
   rw[d_ofD _ _ hf]
   cases f with
   |mk op nm ks p=>
    have hs:=h0.1
    have hd:=bd_lt h0
    simp only[Fm.sm,Bool.and_eq_true,Fm.dep]at hs hd
    simp only[Fm.d]
    exact⟨_,_,hr,valid_of hE mixed Tryz.func44 (by kernel_rfl) (ev_form (by rw[hB];exact⟨hs.1,hs.2,by simp only;omega⟩) _)⟩
  ·cases hr
 ·cases hr
theorem vc67 {B:BT} {n:Nat} (hE:EnvOk glS Tryz.prog (WF B)) (hB:B.1=some n):VC 67 (cLN (some n)):=by
 intro β args k r hr
 change cLN _ args k=some r at hr;unfold cLN at hr
 split at hr
 ·split at hr
  ·rename_i x f hf
   obtain⟨h0,hr⟩:=chkK_ok hr
   rw[d_ofD _ _ hf]
   cases f with
   |mk op nm ks p=>
    have hof:=ofD_d (.mk op nm ks p)
    simp only[Fm.d]at hof ⊢
    refine⟨_,_,hr,valid_of hE mixed Tryz.func67 (by kernel_rfl) ?_⟩
    have h0:bd B.fst (.mk op nm ks p):=by rw[hB];exact h0
    rw[L67.start]
    simp only[hof,if_pos h0]
  ·cases hr
 ·cases hr
theorem vc96 {B:BT} {n:Nat} (hE:EnvOk glS Tryz.prog (WF B)) (hB:B.2.1=some n):VC 96 (cLI (some n)):=by
 intro β args k r hr
 change cLI _ args k=some r at hr;unfold cLI at hr
 split at hr
 ·split at hr
  ·rename_i ys fs hf
   obtain⟨h0,hr⟩:=chkK_ok hr
   rw[dL_ofDL _ _ hf]
   refine⟨_,_,hr,valid_of hE mixed Tryz.func96 (by kernel_rfl) (ev_nf (by simpa using h0.1) (fun f hf=>?_) _)⟩
   rw[hB]
   refine⟨sm_mem h0.2.1 hf,?_⟩
   have:=dep_mem hf
   have h2:=h0.2.2
   simp only at h2 ⊢
   omega
  ·cases hr
 ·cases hr
theorem vc66 {B:BT} {n:Nat} (hE:EnvOk glS Tryz.prog (WF B)) (hB:B.2.2.1=some n):VC 66 (cLC (some n)):=by
 intro β args k r hr
 change cLC _ args k=some r at hr;unfold cLC at hr
 split at hr
 ·split at hr
  ·rename_i ys fs hf
   obtain⟨h0,hr⟩:=chkK_ok hr
   rw[dL_ofDL _ _ hf]
   refine⟨_,_,hr,valid_of hE mixed Tryz.func66 (by kernel_rfl) ?_⟩
   have h0:bdL B.snd.snd.fst fs:=by rw[hB];exact h0
   rw[L66.start]
   simp only[ofDL_d,if_pos h0,idxNF_all]
  ·cases hr
 ·cases hr
theorem wf_of {B:BT} (h:EnvOk glS Tryz.prog (WF B)):VC 44 (cLF B.1)∧VC 67 (cLN B.2.1)∧VC 96 (cLI B.2.2.1)∧VC 66 (cLC B.2.2.2):=
 ⟨fun β args k r hr=>h β 44 args k r hr,fun β args k r hr=>h β 67 args k r hr,fun β args k r hr=>h β 96 args k r hr,fun β args k r hr=>h β 66 args k r hr⟩
theorem vc_zero:EnvOk glS Tryz.prog (WF (some 0,some 0,some 0,some 0)):=by
 refine wf_mk ?_ ?_ ?_ ?_
 ·intro β args k r hr
  change cLF _ args k=some r at hr;unfold cLF at hr
  split at hr
  ·split at hr
   ·obtain⟨h0,_⟩:=chkK_ok hr;have:=h0.2;simp only at this;omega
   ·cases hr
  ·cases hr
 ·intro β args k r hr
  change cLN _ args k=some r at hr;unfold cLN at hr
  split at hr
  ·split at hr
   ·obtain⟨h0,_⟩:=chkK_ok hr;have:=h0.2;simp only at this;omega
   ·cases hr
  ·cases hr
 ·intro β args k r hr
  change cLI _ args k=some r at hr;unfold cLI at hr
  split at hr
  ·split at hr
   ·obtain⟨h0,_⟩:=chkK_ok hr;have:=h0.2.2;simp only at this;omega
   ·cases hr
  ·cases hr
 ·intro β args k r hr
  change cLC _ args k=some r at hr;unfold cLC at hr
  split at hr
  ·split at hr
   ·obtain⟨h0,_⟩:=chkK_ok hr;have:=h0.2.2;simp only at this;omega
   ·cases hr
  ·cases hr
theorem vc_all:∀n,EnvOk glS Tryz.prog (WF (some n,some n,some n,some n))
 |0=>vc_zero
 |n+1=>by
  have ih:=vc_all n
  obtain⟨i1,i2,i3,i4⟩:=wf_of ih
  have a1:VC 44 (cLF (some (n+1))):=vc44 ih rfl
  have e1:=wf_mk (B:=(some (n+1),some n,some n,some n)) a1 i2 i3 i4
  have a2:VC 67 (cLN (some (n+1))):=vc67 e1 rfl
  have e2:=wf_mk (B:=(some (n+1),some (n+1),some n,some n)) a1 a2 i3 i4
  have a3:VC 96 (cLI (some (n+1))):=vc96 e2 rfl
  have e3:=wf_mk (B:=(some (n+1),some (n+1),some (n+1),some n)) a1 a2 a3 i4
  exact wf_mk a1 a2 a3 (vc66 e3 rfl)
theorem vcForm:VC 44 (cLF none):=by
 intro β args k r hr
 change cLF _ args k=some r at hr;unfold cLF at hr
 split at hr
 ·split at hr
  ·rename_i x f hf
   obtain⟨h0,hr⟩:=chkK_ok hr
   refine(wf_of (vc_all (f.dep+1))).1 β _ k r ?_
   simp only[cLF,hf]
   unfold chkK
   rw[if_pos ⟨h0.1,by simp⟩]
   exact hr
  ·cases hr
 ·cases hr
end Go.Sd

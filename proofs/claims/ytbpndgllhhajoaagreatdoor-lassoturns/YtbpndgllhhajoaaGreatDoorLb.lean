/- Lasso: until, forever, label, one, two: contracts. -/
import Derived.Test.YtbpndgllhhajoaaGreatDoorLa
import Derived.Test.YtbpndgllhhajoaaGreatDoorPd
import Derived.Test.YtbpndgllhhajoaaGreatDoorMd
set_option linter.unusedVariables false
set_option linter.unusedSimpArgs false
namespace Go.Sc
open Go Go.Cm
def untilB (n:Nat) (bk:Int) (a b:List D):Option (List Bool):=alongB 120 [.d true 0 (.pt 0 (.sl 0 b)),.d true 0 (.pt 0 (.sl 0 a))] n bk false
def foreverB (n:Nat) (bk:Int) (a:List D):Option (List Bool):=alongB 121 [.d true 0 (.pt 0 (.sl 0 a))] n bk true
def idxN (s:ByteArray):List D→Nat→Option Int
 |[],_=>some (-1)
 |x::r,i=>match x with
  |.str t=>if(t.toList==s.toList)=true then some i else idxN s r (i+1)
  |_=>none
end Go.Sc
namespace Go.Sd
open Go Go.Cm Go.Proofs Go.Sc
def cUntil {β:Type} (args:List TV) (k:List TV→List TV→Option β):Option β:=
 match args with
 |[.d true 0 (.pt 4 (.ag [.sl 0 ns,.sl 0 al,.int .i64 bk])),.d true 0 (.sl 0 a),.d true 0 (.sl 0 b)]=>chkK (al.length≤big) (match untilB al.length bk a b with|some bs=>k [.own false 0 (bD bs)] []|none=>none)
 |_=>none
def cForever {β:Type} (args:List TV) (k:List TV→List TV→Option β):Option β:=
 match args with
 |[.d true 0 (.pt 4 (.ag [.sl 0 ns,.sl 0 al,.int .i64 bk])),.d true 0 (.sl 0 a)]=>chkK (al.length≤big) (match foreverB al.length bk a with|some bs=>k [.own false 0 (bD bs)] []|none=>none)
 |_=>none
def cIdxN {β:Type} (args:List TV) (k:List TV→List TV→Option β):Option β:=
 match args with
 |[.d true 0 (.sl 0 ns),.d true 0 (.str s)]=>chkK (ns.length≤big) (match idxN s ns 0 with|some i=>k [.d false 0 (.int .i64 i)] []|none=>none)
 |_=>none
def W5:Env:=(WC.add 69 io0 cEach).add 109 io0 cAlong
def W6:Env:=(W5.add 103 io0 cUntil).add 104 io0 cForever
def W7:Env:=W6.add 97 io0 cIdxN
end Go.Sd
namespace Go.Sd
open Go Go.Cm Go.Proofs Go.Sc
set_option maxRecDepth 100000
namespace U103
theorem start {β:Type} (ns:List D) (al:List D) (bk:Int) (a:List D) (b:List D) (k:List TV→List TV→Option β):evalF Tryz.prog W5 Tryz.f103 [.d true 0 (D.pt 4 (D.ag [D.sl 0 ns,D.sl 0 al,D.int .i64 bk])),.d true 0 (D.sl 0 a),.d true 0 (D.sl 0 b)] k=if al.length≤34359738368 then match alongB 120 [.d true 0 (D.pt 0 (D.sl 0 b)),.d true 0 (D.pt 0 (D.sl 0 a))] al.length bk false with
   |some bs2=>k [.own false 0 (bD bs2)] []
   |none=>none else none:=by kernel_rfl
end U103
namespace U104
theorem start {β:Type} (ns:List D) (al:List D) (bk:Int) (a:List D) (k:List TV→List TV→Option β):evalF Tryz.prog W5 Tryz.f104 [.d true 0 (D.pt 4 (D.ag [D.sl 0 ns,D.sl 0 al,D.int .i64 bk])),.d true 0 (D.sl 0 a)] k=if al.length≤34359738368 then match alongB 121 [.d true 0 (D.pt 0 (D.sl 0 a))] al.length bk true with
   |some bs2=>k [.own false 0 (bD bs2)] []
   |none=>none else none:=by kernel_rfl
end U104
namespace U97
noncomputable def X:Fx:=⟨Tryz.prog,W6,16,2⟩
def s0 (ns:List D) (s:ByteArray) (x15:Int):S:=⟨Tm.mk 19 [(0,.d true 0 (D.sl 0 ns)),(1,.d true 0 (D.str s)),(7,.d false 0 (D.int .i64 (ns.length:Int))),(8,.d false 0 (D.int .i64 x15))],[]⟩
def e0r (x32:Int):S:=⟨Tm.mk 19 [(4,.d false 0 (D.int .i64 x32))],[]⟩
def e0x0:S:=⟨Tm.mk 19 [],[]⟩
noncomputable abbrev L0:S→Option (S ⊕ (Ex×S)):=roundK X [(0,0)] (sub [1,0,1,0,0] (body Tryz.f97))
theorem start {β:Type} (ns:List D) (s:ByteArray) (k:List TV→List TV→Option β):evalF Tryz.prog W6 Tryz.f97 [.d true 0 (D.sl 0 ns),.d true 0 (D.str s)] k=goLp X [(0,0)] (sub [1,0,1,0,0] (body Tryz.f97)) [Kf.block 0 0,Kf.seq [] (sub [1,1] (body Tryz.f97)) 16] (finK Tryz.prog Tryz.f97 [.d true 0 (D.sl 0 ns),.d true 0 (D.str s)] k) (s0 ns s (0:Int)):=by kernel_rfl
theorem round0 (ns:List D) (s:ByteArray) (x15:Int):roundK X [(0,0)] (sub [1,0,1,0,0] (body Tryz.f97)) (s0 ns s x15)=if decide (x15<(ns.length:Int))=true then if 0≤x15 then match ns[x15.toNat]? with
   |some x40=>match x40 with
    |D.str s41=>if(s.toList==s41.toList)=true then some (Sum.inr (Ex.ret,e0r x15))else some (Sum.inl (s0 ns s (IntKind.wrap .i64 (x15+1))))
    |x=>none
   |none=>none else none else some (Sum.inr (Ex.exit 0,e0x0)):=by kernel_rfl
theorem behind0r {β:Type} (ns:List D) (s:ByteArray) (x32:Int) (k:List TV→List TV→Option β):applyK X (finK Tryz.prog Tryz.f97 [.d true 0 (D.sl 0 ns),.d true 0 (D.str s)] k) [Kf.block 0 0,Kf.seq [] (sub [1,1] (body Tryz.f97)) 16] Ex.ret (e0r x32)=k [.d false 0 (D.int .i64 x32)] []:=by kernel_rfl
theorem behind0x0 {β:Type} (ns:List D) (s:ByteArray) (k:List TV→List TV→Option β):applyK X (finK Tryz.prog Tryz.f97 [.d true 0 (D.sl 0 ns),.d true 0 (D.str s)] k) [Kf.block 0 0,Kf.seq [] (sub [1,1] (body Tryz.f97)) 16] (Ex.exit 0) e0x0=k [.d false 0 (D.int .i64 (-1:Int))] []:=by kernel_rfl
end U97
namespace U71
theorem start {β:Type} (ns:List D) (al:List D) (bk:Int) (s:ByteArray) (k:List TV→List TV→Option β):evalF Tryz.prog W7 Tryz.f71 [.d true 0 (D.pt 4 (D.ag [D.sl 0 ns,D.sl 0 al,D.int .i64 bk])),.d true 0 (D.str s)] k=if ns.length≤34359738368 then match idxN s ns 0 with
   |some i2=>if decide (i2<0)=true then k [.own false 0 [],.d false 0 (D.ifc 84 (D.int .i64 30))] []else if al.length≤34359738368 then match eachB 98 [.d true 0 (D.pt 0 (D.pt 4 (D.ag [D.sl 0 ns,D.sl 0 al,D.int .i64 bk]))),.d true 0 (D.pt 0 (D.int .i64 i2))] al.length with
    |some bs7=>k [.own false 0 (bD bs7),.d false 0 D.nili] []
    |none=>none else none
   |none=>none else none:=by kernel_rfl
end U71
namespace U72
theorem start {β:Type} (ns:List D) (al:List D) (bk:Int) (op:ByteArray) (a:List D) (k:List TV→List TV→Option β):evalF Tryz.prog W7 Tryz.f72 [.d true 0 (D.pt 4 (D.ag [D.sl 0 ns,D.sl 0 al,D.int .i64 bk])),.d true 0 (D.str op),.d true 0 (D.sl 0 a)] k=if al.length≤34359738368 then match eachB 99 [] al.length with
   |some bs2=>if(op.toList==[33])=true then if al.length≤34359738368 then match eachB 100 [.d true 0 (D.pt 0 (D.sl 0 a))] al.length with
    |some bs7=>k [.own false 0 (bD bs7),.d false 0 D.nili] []
    |none=>none else none else if(op.toList==[88])=true then if al.length≤34359738368 then match eachB 101 [.d true 0 (D.pt 0 (D.sl 0 a)),.d true 0 (D.pt 0 (D.pt 4 (D.ag [D.sl 0 ns,D.sl 0 al,D.int .i64 bk])))] al.length with
     |some bs11=>k [.own false 0 (bD bs11),.d false 0 D.nili] []
     |none=>none else none else if(op.toList==[70])=true then if al.length≤34359738368 then match untilB al.length bk (bD bs2) a with
      |some bs15=>k [.own false 0 (bD bs15),.d false 0 D.nili] []
      |none=>none else none else if(op.toList==[71])=true then if al.length≤34359738368 then match foreverB al.length bk a with
       |some bs19=>k [.own false 0 (bD bs19),.d false 0 D.nili] []
       |none=>none else none else k [.own false 0 [],.d false 0 (D.ifc 84 (D.int .i64 1))] []
   |none=>none else none:=by kernel_rfl
end U72
namespace U73
noncomputable def X:Fx:=⟨Tryz.prog,W7,768,4⟩
def j0 (ns:List D) (al:List D) (bk:Int) (op:ByteArray) (a:List D) (b:List D) (bs5064:List Bool) (bs3665:List Bool):S:=⟨Tm.mk 52 [(0,.d true 0 (D.pt 4 (D.ag [D.sl 0 ns,D.sl 0 al,D.int .i64 bk]))),(1,.d true 0 (D.str op)),(2,.d true 0 (D.sl 0 a)),(3,.d true 0 (D.sl 0 b)),(6,.rp 7 0),(7,.rp 8 0),(8,.own false 0 []),(9,.d false 0 D.nili),(10,.rp 11 0),(11,.rp 12 0),(12,.d true 0 (D.str op)),(13,.d false 0 (D.bool (op.toList==[38]))),(14,.d false 0 (D.bool (op.toList==[38]))),(18,.d false 0 (D.bool (op.toList==[124]))),(19,.d false 0 (D.bool (op.toList==[124]))),(23,.d false 0 (D.bool (op.toList==[61,62]))),(24,.d false 0 (D.bool (op.toList==[61,62]))),(28,.d false 0 (D.bool (op.toList==[85]))),(29,.d false 0 (D.bool (op.toList==[85]))),(34,.d false 0 (D.bool (op.toList==[87]))),(35,.d false 0 (D.bool (op.toList==[87]))),(36,.d true 0 (D.pt 4 (D.ag [D.sl 0 ns,D.sl 0 al,D.int .i64 bk]))),(37,.d true 0 (D.sl 0 a)),(38,.d true 0 (D.sl 0 b)),(39,.undef),(40,.d true 0 (D.pt 4 (D.ag [D.sl 0 ns,D.sl 0 al,D.int .i64 bk]))),(41,.d true 0 (D.sl 0 a)),(42,.undef)],[(7,false,[.d true 0 (D.sl 0 a)]),(8,false,[.d true 0 (D.sl 0 b)]),(11,false,[.own false 0 (bD bs5064)]),(12,false,[.own false 0 (bD bs3665)]),(1152921504606847015,true,[.undef]),(1152921504606847018,true,[.undef])]⟩
noncomputable abbrev J0 {β:Type} (ns:List D) (al:List D) (bk:Int) (op:ByteArray) (a:List D) (b:List D) (k:List TV→List TV→Option β):S→Option β:=applyK X (finK Tryz.prog Tryz.f73 [.d true 0 (D.pt 4 (D.ag [D.sl 0 ns,D.sl 0 al,D.int .i64 bk])),.d true 0 (D.str op),.d true 0 (D.sl 0 a),.d true 0 (D.sl 0 b)] k) [Kf.seq [(0,0)] (sub [1,0,1,0,1,1,1,1,1,1,1,1,1,0,1] (body Tryz.f73)) 0,Kf.cond 0,Kf.cond 0,Kf.cond 0,Kf.cond 0,Kf.cond 0,Kf.block 0 0,Kf.seq [] (sub [1,1] (body Tryz.f73)) 768] Ex.norm
noncomputable def R0:Array Oper:=regOps (sub [1,0,1,0,1,1,1,1,1,1,1,1,1,0,0] (body Tryz.f73))
def B0:List Nat:=[0,0,0,7,0,0,63,0,0,511,1023]
noncomputable def z0_0 (ns:List D) (al:List D) (bk:Int) (op:ByteArray) (a:List D) (b:List D) (bs27:List Bool) (bs29:List Bool):S:=⟨Tm.mk 52 [(0,.d true 0 (D.pt 4 (D.ag [D.sl 0 ns,D.sl 0 al,D.int .i64 bk]))),(1,.d true 0 (D.str op)),(2,.d true 0 (D.sl 0 a)),(3,.d true 0 (D.sl 0 b)),(6,.rp 7 0),(7,.rp 8 0),(8,.own false 0 []),(9,.d false 0 D.nili),(10,.rp 11 0),(11,.rp 12 0),(12,.d true 0 (D.str op)),(13,.d false 0 (D.bool (op.toList==[38]))),(14,.d false 0 (D.bool (op.toList==[38]))),(18,.d false 0 (D.bool (op.toList==[124]))),(19,.d false 0 (D.bool (op.toList==[124]))),(23,.d false 0 (D.bool (op.toList==[61,62]))),(24,.d false 0 (D.bool (op.toList==[61,62]))),(28,.d false 0 (D.bool (op.toList==[85]))),(29,.d false 0 (D.bool (op.toList==[85]))),(34,.d false 0 (D.bool (op.toList==[87]))),(35,.d false 0 (D.bool (op.toList==[87]))),(36,.d true 0 (D.pt 4 (D.ag [D.sl 0 ns,D.sl 0 al,D.int .i64 bk]))),(37,.d true 0 (D.sl 0 a)),(38,.d true 0 (D.sl 0 b)),(39,.undef),(40,.d true 0 (D.pt 4 (D.ag [D.sl 0 ns,D.sl 0 al,D.int .i64 bk]))),(41,.d true 0 (D.sl 0 a)),(42,.undef)],[(7,false,[.d true 0 (D.sl 0 a)]),(8,false,[.d true 0 (D.sl 0 b)]),(11,false,[.own false 0 (bD bs27)]),(12,false,[.own false 0 (bD bs29)]),(1152921504606847015,true,[.undef]),(1152921504606847018,true,[.undef])]⟩
noncomputable def z0_13 (ns:List D) (al:List D) (bk:Int) (op:ByteArray) (a:List D) (b:List D):S:=⟨Tm.mk 52 [(0,.d true 0 (D.pt 4 (D.ag [D.sl 0 ns,D.sl 0 al,D.int .i64 bk]))),(1,.d true 0 (D.str op)),(2,.d true 0 (D.sl 0 a)),(3,.d true 0 (D.sl 0 b)),(6,.rp 7 0),(7,.rp 8 0),(8,.own false 0 []),(9,.d false 0 D.nili),(12,.d true 0 (D.str op)),(13,.d false 0 (D.bool (op.toList==[38]))),(14,.d false 0 (D.bool (op.toList==[38]))),(18,.d false 0 (D.bool (op.toList==[124]))),(19,.d false 0 (D.bool (op.toList==[124]))),(23,.d false 0 (D.bool (op.toList==[61,62]))),(24,.d false 0 (D.bool (op.toList==[61,62]))),(28,.d false 0 (D.bool (op.toList==[85]))),(29,.d false 0 (D.bool (op.toList==[85]))),(34,.d false 0 (D.bool (op.toList==[87]))),(35,.d false 0 (D.bool (op.toList==[87])))],[(8,false,[.d true 0 (D.sl 0 b)]),(7,false,[.d true 0 (D.sl 0 a)])]⟩
noncomputable def u0_0 (ns:List D) (al:List D) (bk:Int) (op:ByteArray) (a:List D) (b:List D) (bs27:List Bool) (bs29:List Bool):List (Nat×V):=[(0,.d true 0 (D.pt 4 (D.ag [D.sl 0 ns,D.sl 0 al,D.int .i64 bk]))),(1,.d true 0 (D.str op)),(2,.d true 0 (D.sl 0 a)),(3,.d true 0 (D.sl 0 b)),(6,.rp 7 0),(7,.rp 8 0),(8,.own false 0 []),(9,.d false 0 D.nili),(10,.rp 11 0),(11,.rp 12 0),(12,.d true 0 (D.str op)),(13,.d false 0 (D.bool (op.toList==[38]))),(14,.d false 0 (D.bool (op.toList==[38]))),(18,.d false 0 (D.bool (op.toList==[124]))),(19,.d false 0 (D.bool (op.toList==[124]))),(23,.d false 0 (D.bool (op.toList==[61,62]))),(24,.d false 0 (D.bool (op.toList==[61,62]))),(28,.d false 0 (D.bool (op.toList==[85]))),(29,.d false 0 (D.bool (op.toList==[85]))),(34,.d false 0 (D.bool (op.toList==[87]))),(35,.d false 0 (D.bool (op.toList==[87]))),(36,.d true 0 (D.pt 4 (D.ag [D.sl 0 ns,D.sl 0 al,D.int .i64 bk]))),(37,.d true 0 (D.sl 0 a)),(38,.d true 0 (D.sl 0 b)),(39,.bf 1152921504606847015 0),(40,.d true 0 (D.pt 4 (D.ag [D.sl 0 ns,D.sl 0 al,D.int .i64 bk]))),(41,.d true 0 (D.sl 0 a)),(42,.bf 1152921504606847018 0)]
noncomputable def v0_0 (ns:List D) (al:List D) (bk:Int) (op:ByteArray) (a:List D) (b:List D) (bs27:List Bool) (bs29:List Bool):List (Nat×Bool×List V):=[(7,false,[.d true 0 (D.sl 0 a)]),(8,false,[.d true 0 (D.sl 0 b)]),(11,false,[.own false 0 []]),(12,false,[.own false 0 []]),(1152921504606847015,true,[.own false 0 (bD bs27)]),(1152921504606847018,true,[.own false 0 (bD bs29)])]
noncomputable def z0_1 (ns:List D) (al:List D) (bk:Int) (op:ByteArray) (a:List D) (b:List D) (bs27:List Bool) (bs29:List Bool):S:=⟨Tm.mk 52 (selT (u0_0 ns al bk op a b bs27 bs29) 24300672989353301 []),selR (v0_0 ns al bk op a b bs27 bs29) 1909 [(11,false,[.own false 0 (bD bs27)]),(1152921504606847015,true,[.undef])]⟩
noncomputable def z0_2 (ns:List D) (al:List D) (bk:Int) (op:ByteArray) (a:List D) (b:List D) (bs27:List Bool) (bs29:List Bool):S:=⟨Tm.mk 52 (selT (u0_0 ns al bk op a b bs27 bs29) 24019198012642645 []),selR (v0_0 ns al bk op a b bs27 bs29) 1365 []⟩
noncomputable def z0_3 (ns:List D) (al:List D) (bk:Int) (op:ByteArray) (a:List D) (b:List D) (bs27:List Bool) (bs29:List Bool):S:=⟨Tm.mk 52 (selT (u0_0 ns al bk op a b bs27 bs29) 24019198012380501 []),selR (v0_0 ns al bk op a b bs27 bs29) 1301 []⟩
noncomputable def z0_4 (ns:List D) (al:List D) (bk:Int) (op:ByteArray) (a:List D) (b:List D) (bs27:List Bool) (bs29:List Bool):S:=⟨Tm.mk 52 (selT (u0_0 ns al bk op a b bs27 bs29) 24019198012577109 []),selR (v0_0 ns al bk op a b bs27 bs29) 1349 []⟩
noncomputable def z0_5 (ns:List D) (al:List D) (bk:Int) (op:ByteArray) (a:List D) (b:List D) (bs27:List Bool) (bs29:List Bool):S:=⟨Tm.mk 52 (selT (u0_0 ns al bk op a b bs27 bs29) 24019198012314965 []),selR (v0_0 ns al bk op a b bs27 bs29) 1285 []⟩
noncomputable def u0_1 (ns:List D) (al:List D) (bk:Int) (op:ByteArray) (a:List D) (b:List D) (bs27:List Bool):List (Nat×V):=[(0,.d true 0 (D.pt 4 (D.ag [D.sl 0 ns,D.sl 0 al,D.int .i64 bk]))),(1,.d true 0 (D.str op)),(2,.d true 0 (D.sl 0 a)),(3,.d true 0 (D.sl 0 b)),(6,.rp 7 0),(7,.rp 8 0),(8,.own false 0 []),(9,.d false 0 D.nili),(10,.rp 11 0),(11,.rp 12 0),(12,.d true 0 (D.str op)),(13,.d false 0 (D.bool (op.toList==[38]))),(14,.d false 0 (D.bool (op.toList==[38]))),(18,.d false 0 (D.bool (op.toList==[124]))),(19,.d false 0 (D.bool (op.toList==[124]))),(23,.d false 0 (D.bool (op.toList==[61,62]))),(24,.d false 0 (D.bool (op.toList==[61,62]))),(28,.d false 0 (D.bool (op.toList==[85]))),(29,.d false 0 (D.bool (op.toList==[85]))),(34,.d false 0 (D.bool (op.toList==[87]))),(35,.d false 0 (D.bool (op.toList==[87]))),(36,.d true 0 (D.pt 4 (D.ag [D.sl 0 ns,D.sl 0 al,D.int .i64 bk]))),(37,.d true 0 (D.sl 0 a)),(38,.d true 0 (D.sl 0 b)),(39,.bf 1152921504606847015 0),(40,.d true 0 (D.pt 4 (D.ag [D.sl 0 ns,D.sl 0 al,D.int .i64 bk]))),(41,.d true 0 (D.sl 0 a))]
noncomputable def v0_1 (ns:List D) (al:List D) (bk:Int) (op:ByteArray) (a:List D) (b:List D) (bs27:List Bool):List (Nat×Bool×List V):=[(7,false,[.d true 0 (D.sl 0 a)]),(8,false,[.d true 0 (D.sl 0 b)]),(11,false,[.own false 0 []]),(12,false,[.own false 0 []]),(1152921504606847015,true,[.own false 0 (bD bs27)])]
noncomputable def z0_6 (ns:List D) (al:List D) (bk:Int) (op:ByteArray) (a:List D) (b:List D) (bs27:List Bool):S:=⟨Tm.mk 52 (selT (u0_1 ns al bk op a b bs27) 6004799503160661 []),selR (v0_1 ns al bk op a b bs27) 341 []⟩
noncomputable def z0_7 (ns:List D) (al:List D) (bk:Int) (op:ByteArray) (a:List D) (b:List D) (bs27:List Bool):S:=⟨Tm.mk 52 (selT (u0_1 ns al bk op a b bs27) 6004799502898517 []),selR (v0_1 ns al bk op a b bs27) 277 []⟩
noncomputable def z0_8 (ns:List D) (al:List D) (bk:Int) (op:ByteArray) (a:List D) (b:List D) (bs27:List Bool):S:=⟨Tm.mk 52 (selT (u0_1 ns al bk op a b bs27) 6004799503095125 []),selR (v0_1 ns al bk op a b bs27) 325 []⟩
noncomputable def z0_9 (ns:List D) (al:List D) (bk:Int) (op:ByteArray) (a:List D) (b:List D) (bs27:List Bool):S:=⟨Tm.mk 52 (selT (u0_1 ns al bk op a b bs27) 6004799502832981 []),selR (v0_1 ns al bk op a b bs27) 261 []⟩
noncomputable def u0_2 (ns:List D) (al:List D) (bk:Int) (op:ByteArray) (a:List D) (b:List D):List (Nat×V):=[(0,.d true 0 (D.pt 4 (D.ag [D.sl 0 ns,D.sl 0 al,D.int .i64 bk]))),(1,.d true 0 (D.str op)),(2,.d true 0 (D.sl 0 a)),(3,.d true 0 (D.sl 0 b)),(6,.rp 7 0),(7,.rp 8 0),(8,.own false 0 []),(9,.d false 0 D.nili),(10,.rp 11 0),(11,.rp 12 0),(12,.d true 0 (D.str op)),(13,.d false 0 (D.bool (op.toList==[38]))),(14,.d false 0 (D.bool (op.toList==[38]))),(18,.d false 0 (D.bool (op.toList==[124]))),(19,.d false 0 (D.bool (op.toList==[124]))),(23,.d false 0 (D.bool (op.toList==[61,62]))),(24,.d false 0 (D.bool (op.toList==[61,62]))),(28,.d false 0 (D.bool (op.toList==[85]))),(29,.d false 0 (D.bool (op.toList==[85]))),(34,.d false 0 (D.bool (op.toList==[87]))),(35,.d false 0 (D.bool (op.toList==[87]))),(36,.d true 0 (D.pt 4 (D.ag [D.sl 0 ns,D.sl 0 al,D.int .i64 bk]))),(37,.d true 0 (D.sl 0 a)),(38,.d true 0 (D.sl 0 b)),(40,.d true 0 (D.pt 4 (D.ag [D.sl 0 ns,D.sl 0 al,D.int .i64 bk]))),(41,.d true 0 (D.sl 0 a))]
noncomputable def v0_2 (ns:List D) (al:List D) (bk:Int) (op:ByteArray) (a:List D) (b:List D):List (Nat×Bool×List V):=[(7,false,[.d true 0 (D.sl 0 a)]),(8,false,[.d true 0 (D.sl 0 b)]),(11,false,[.own false 0 []]),(12,false,[.own false 0 []])]
noncomputable def z0_10 (ns:List D) (al:List D) (bk:Int) (op:ByteArray) (a:List D) (b:List D):S:=⟨Tm.mk 52 (selT (u0_2 ns al bk op a b) 1501199875790165 []),selR (v0_2 ns al bk op a b) 85 []⟩
noncomputable def z0_11 (ns:List D) (al:List D) (bk:Int) (op:ByteArray) (a:List D) (b:List D):S:=⟨Tm.mk 52 (selT (u0_2 ns al bk op a b) 1501199875528021 []),selR (v0_2 ns al bk op a b) 21 []⟩
noncomputable def z0_12 (ns:List D) (al:List D) (bk:Int) (op:ByteArray) (a:List D) (b:List D):S:=⟨Tm.mk 52 (selT (u0_2 ns al bk op a b) 1501199875724629 []),selR (v0_2 ns al bk op a b) 69 []⟩
def a0_0:List Nat:=[0,1,2,3,4,5,6,7,8,9,10]
def a0_1:List Nat:=[0,1,2,3,4,5,6,7,8,9]
def a0_2:List Nat:=[0,1,2,3,4,5,6,7,8]
def a0_3:List Nat:=[0,1,2,3,4,5,6,7]
def a0_4:List Nat:=[0,1,2,3,4,5,6,8]
def a0_5:List Nat:=[0,1,2,3,4,5,6]
def a0_6:List Nat:=[0,1,2,3,4,5,7,8]
def a0_7:List Nat:=[0,1,2,3,4,5,7]
def a0_8:List Nat:=[0,1,2,3,4,5,8]
def a0_9:List Nat:=[0,1,2,3,4,5]
def a0_10:List Nat:=[0,1,2,4,5,7,8]
def a0_11:List Nat:=[0,1,2,4,5,7]
def a0_12:List Nat:=[0,1,2,4,5,8]
  section
  variable {β:Type} (ns:List D) (al:List D) (bk:Int) (op:ByteArray) (a:List D) (b:List D) (bs27:List Bool) (bs29:List Bool) (kont20:S→Option β)
theorem n0_0:regA Tryz.prog W7 R0 B0 1 a0_0 (z0_0 ns al bk op a b bs27 bs29) kont20=kont20 (z0_0 ns al bk op a b bs27 bs29):=by
   kernel_rfl
theorem n0_1:regA Tryz.prog W7 R0 B0 2 a0_1 (z0_1 ns al bk op a b bs27 bs29) kont20=kont20 (z0_0 ns al bk op a b bs27 bs29):=by
   refine(show _=regA Tryz.prog W7 R0 B0 1 a0_0 (z0_0 ns al bk op a b bs27 bs29) kont20 from by kernel_rfl).trans ?_
   first|(simp only[n0_0];done)|(simp only[n0_0];rfl)|simp only[n0_0]
theorem n0_2:regA Tryz.prog W7 R0 B0 3 a0_2 (z0_2 ns al bk op a b bs27 bs29) kont20=kont20 (z0_0 ns al bk op a b bs27 bs29):=by
   refine(show _=regA Tryz.prog W7 R0 B0 2 a0_1 (z0_1 ns al bk op a b bs27 bs29) kont20 from by kernel_rfl).trans ?_
   first|(simp only[n0_1];done)|(simp only[n0_1];rfl)|simp only[n0_1]
theorem n0_3:regA Tryz.prog W7 R0 B0 4 a0_3 (z0_3 ns al bk op a b bs27 bs29) kont20=kont20 (z0_0 ns al bk op a b bs27 bs29):=by
   refine(show _=regA Tryz.prog W7 R0 B0 3 a0_2 (z0_2 ns al bk op a b bs27 bs29) kont20 from by kernel_rfl).trans ?_
   first|(simp only[n0_2];done)|(simp only[n0_2];rfl)|simp only[n0_2]
theorem n0_4:regA Tryz.prog W7 R0 B0 4 a0_4 (z0_4 ns al bk op a b bs27 bs29) kont20=kont20 (z0_0 ns al bk op a b bs27 bs29):=by
   refine(show _=regA Tryz.prog W7 R0 B0 3 a0_2 (z0_2 ns al bk op a b bs27 bs29) kont20 from by kernel_rfl).trans ?_
   first|(simp only[n0_2];done)|(simp only[n0_2];rfl)|simp only[n0_2]
theorem n0_5:regA Tryz.prog W7 R0 B0 5 a0_5 (z0_5 ns al bk op a b bs27 bs29) kont20=kont20 (z0_0 ns al bk op a b bs27 bs29):=by
   refine(show _=meet (regA Tryz.prog W7 R0 B0 4 a0_3 (z0_3 ns al bk op a b bs27 bs29) kont20) (regA Tryz.prog W7 R0 B0 4 a0_4 (z0_4 ns al bk op a b bs27 bs29) kont20)from by kernel_rfl).trans ?_
   first|(simp only[n0_3,n0_4,Go.Sc.meet_self];done)|(simp only[n0_3,n0_4,Go.Sc.meet_self];rfl)|simp only[n0_3,n0_4,Go.Sc.meet_self]
noncomputable def t0_0:Option β:=if al.length≤34359738368 then match foreverB al.length bk a with
   |some bs44=>kont20 (z0_0 ns al bk op a b bs27 bs44)
   |none=>none else none
theorem n0_6:regA Tryz.prog W7 R0 B0 4 a0_6 (z0_6 ns al bk op a b bs27) kont20=t0_0 ns al bk op a b bs27 kont20:=by
   refine(show _=if al.length≤34359738368 then
   match foreverB al.length bk a with
   |some bs43=>regA Tryz.prog W7 R0 B0 3 a0_2 (z0_2 ns al bk op a b bs27 bs43) kont20
   |none=>none
  else none from by kernel_rfl).trans ?_
   first|(simp only[n0_2];done)|(simp only[n0_2];rfl)|simp only[n0_2,t0_0]
theorem n0_7:regA Tryz.prog W7 R0 B0 5 a0_7 (z0_7 ns al bk op a b bs27) kont20=t0_0 ns al bk op a b bs27 kont20:=by
   refine(show _=meet
   (if al.length≤34359738368 then
    match foreverB al.length bk a with
    |some bs39=>regA Tryz.prog W7 R0 B0 4 a0_3 (z0_3 ns al bk op a b bs27 bs39) kont20
    |none=>none
   else none)
   (regA Tryz.prog W7 R0 B0 4 a0_6 (z0_6 ns al bk op a b bs27) kont20)from by kernel_rfl).trans ?_
   first|(simp only[n0_3,n0_6,Go.Sc.meet_self];done)|(simp only[n0_3,n0_6,Go.Sc.meet_self];rfl)|simp only[n0_3,n0_6,Go.Sc.meet_self,t0_0]
theorem n0_8:regA Tryz.prog W7 R0 B0 5 a0_8 (z0_8 ns al bk op a b bs27) kont20=t0_0 ns al bk op a b bs27 kont20:=by
   refine(show _=meet
   (if al.length≤34359738368 then
    match foreverB al.length bk a with
    |some bs47=>regA Tryz.prog W7 R0 B0 4 a0_4 (z0_4 ns al bk op a b bs27 bs47) kont20
    |none=>none
   else none)
   (regA Tryz.prog W7 R0 B0 4 a0_6 (z0_6 ns al bk op a b bs27) kont20)from by kernel_rfl).trans ?_
   first|(simp only[n0_4,n0_6,Go.Sc.meet_self];done)|(simp only[n0_4,n0_6,Go.Sc.meet_self];rfl)|simp only[n0_4,n0_6,Go.Sc.meet_self,t0_0]
theorem n0_9:regA Tryz.prog W7 R0 B0 6 a0_9 (z0_9 ns al bk op a b bs27) kont20=t0_0 ns al bk op a b bs27 kont20:=by
   refine(show _=meet
   (if al.length≤34359738368 then
    match foreverB al.length bk a with
    |some bs29=>regA Tryz.prog W7 R0 B0 5 a0_5 (z0_5 ns al bk op a b bs27 bs29) kont20
    |none=>none
   else none)
   (meet (regA Tryz.prog W7 R0 B0 5 a0_7 (z0_7 ns al bk op a b bs27) kont20) (regA Tryz.prog W7 R0 B0 5 a0_8 (z0_8 ns al bk op a b bs27) kont20))from by kernel_rfl).trans ?_
   first|(simp only[n0_5,n0_7,n0_8,Go.Sc.meet_self];done)|(simp only[n0_5,n0_7,n0_8,Go.Sc.meet_self];rfl)|simp only[n0_5,n0_7,n0_8,Go.Sc.meet_self,t0_0]
noncomputable def t0_1:Option β:=if al.length≤34359738368 then match untilB al.length bk a b with
   |some bs58=>if al.length≤34359738368 then match foreverB al.length bk a with
    |some bs44=>kont20 (z0_0 ns al bk op a b bs58 bs44)
    |none=>none else none
   |none=>none else none
theorem n0_10:regA Tryz.prog W7 R0 B0 5 a0_10 (z0_10 ns al bk op a b) kont20=t0_1 ns al bk op a b kont20:=by
   refine(show _=if al.length≤34359738368 then
   match untilB al.length bk a b with
   |some bs57=>regA Tryz.prog W7 R0 B0 4 a0_6 (z0_6 ns al bk op a b bs57) kont20
   |none=>none
  else none from by kernel_rfl).trans ?_
   first|(simp only[n0_6];done)|(simp only[n0_6];rfl)|simp only[n0_6,t0_0,t0_1]
theorem n0_11:regA Tryz.prog W7 R0 B0 6 a0_11 (z0_11 ns al bk op a b) kont20=t0_1 ns al bk op a b kont20:=by
   refine(show _=meet
   (if al.length≤34359738368 then
    match untilB al.length bk a b with
    |some bs53=>regA Tryz.prog W7 R0 B0 5 a0_7 (z0_7 ns al bk op a b bs53) kont20
    |none=>none
   else none)
   (regA Tryz.prog W7 R0 B0 5 a0_10 (z0_10 ns al bk op a b) kont20)from by kernel_rfl).trans ?_
   first|(simp only[n0_7,n0_10,Go.Sc.meet_self];done)|(simp only[n0_7,n0_10,Go.Sc.meet_self];rfl)|simp only[n0_7,n0_10,Go.Sc.meet_self,t0_0,t0_1]
theorem n0_12:regA Tryz.prog W7 R0 B0 6 a0_12 (z0_12 ns al bk op a b) kont20=t0_1 ns al bk op a b kont20:=by
   refine(show _=meet
   (if al.length≤34359738368 then
    match untilB al.length bk a b with
    |some bs61=>regA Tryz.prog W7 R0 B0 5 a0_8 (z0_8 ns al bk op a b bs61) kont20
    |none=>none
   else none)
   (regA Tryz.prog W7 R0 B0 5 a0_10 (z0_10 ns al bk op a b) kont20)from by kernel_rfl).trans ?_
   first|(simp only[n0_8,n0_10,Go.Sc.meet_self];done)|(simp only[n0_8,n0_10,Go.Sc.meet_self];rfl)|simp only[n0_8,n0_10,Go.Sc.meet_self,t0_0,t0_1]
theorem n0_13:regA Tryz.prog W7 R0 B0 12 [] (z0_13 ns al bk op a b) kont20=t0_1 ns al bk op a b kont20:=by
   refine(show _=meet
   (if al.length≤34359738368 then
    match untilB al.length bk a b with
    |some bs27=>regA Tryz.prog W7 R0 B0 6 a0_9 (z0_9 ns al bk op a b bs27) kont20
    |none=>none
   else none)
   (meet (regA Tryz.prog W7 R0 B0 6 a0_11 (z0_11 ns al bk op a b) kont20) (regA Tryz.prog W7 R0 B0 6 a0_12 (z0_12 ns al bk op a b) kont20))from by kernel_rfl).trans ?_
   first|(simp only[n0_9,n0_11,n0_12,Go.Sc.meet_self];done)|(simp only[n0_9,n0_11,n0_12,Go.Sc.meet_self];rfl)|simp only[n0_9,n0_11,n0_12,Go.Sc.meet_self,t0_0,t0_1]
end
theorem reg0 {β:Type} (ns:List D) (al:List D) (bk:Int) (op:ByteArray) (a:List D) (b:List D) (kont20:S→Option β):regH Tryz.prog W7 R0 (z0_13 ns al bk op a b) kont20=if al.length≤34359738368 then match untilB al.length bk a b with
   |some bs50=>if al.length≤34359738368 then match foreverB al.length bk a with
    |some bs36=>kont20 (z0_0 ns al bk op a b bs50 bs36)
    |none=>none else none
   |none=>none else none:=(show _=regA Tryz.prog W7 R0 B0 12 [] (z0_13 ns al bk op a b) kont20 from by kernel_rfl).trans (n0_13 ..)
theorem start {β:Type} (ns:List D) (al:List D) (bk:Int) (op:ByteArray) (a:List D) (b:List D) (k:List TV→List TV→Option β):evalF Tryz.prog W7 Tryz.f73 [.d true 0 (D.pt 4 (D.ag [D.sl 0 ns,D.sl 0 al,D.int .i64 bk])),.d true 0 (D.str op),.d true 0 (D.sl 0 a),.d true 0 (D.sl 0 b)] k=if(op.toList==[38])=true then if al.length≤34359738368 then match eachB 105 [.d true 0 (D.pt 0 (D.sl 0 a)),.d true 0 (D.pt 0 (D.sl 0 b))] al.length with
   |some bs79=>k [.own false 0 (bD bs79),.d false 0 D.nili] []
   |none=>none else none else if(op.toList==[124])=true then if al.length≤34359738368 then match eachB 106 [.d true 0 (D.pt 0 (D.sl 0 a)),.d true 0 (D.pt 0 (D.sl 0 b))] al.length with
    |some bs83=>k [.own false 0 (bD bs83),.d false 0 D.nili] []
    |none=>none else none else if(op.toList==[61,62])=true then if al.length≤34359738368 then match eachB 107 [.d true 0 (D.pt 0 (D.sl 0 a)),.d true 0 (D.pt 0 (D.sl 0 b))] al.length with
     |some bs87=>k [.own false 0 (bD bs87),.d false 0 D.nili] []
     |none=>none else none else if(op.toList==[85])=true then if al.length≤34359738368 then match untilB al.length bk a b with
      |some bs91=>k [.own false 0 (bD bs91),.d false 0 D.nili] []
      |none=>none else none else if(op.toList==[87])=true then regH Tryz.prog W7 R0 (z0_13 ns al bk op a b) fun s97 ↦ J0 ns al bk op a b k s97 else if(op.toList==[82])=true then if al.length≤34359738368 then match alongB 110 [.d true 0 (D.pt 0 (D.sl 0 b)),.d true 0 (D.pt 0 (D.sl 0 a))] al.length bk true with
       |some bs101=>k [.own false 0 (bD bs101),.d false 0 D.nili] []
       |none=>none else none else k [.own false 0 [],.d false 0 (D.ifc 84 (D.int .i64 1))] []:=by kernel_rfl
theorem j0_eq {β:Type} (ns:List D) (al:List D) (bk:Int) (op:ByteArray) (a:List D) (b:List D) (bs5064:List Bool) (bs3665:List Bool) (k:List TV→List TV→Option β):J0 ns al bk op a b k (j0 ns al bk op a b bs5064 bs3665)=if al.length≤34359738368 then match eachB 108 [.d true 0 (D.pt 0 (D.sl 0 (bD bs5064))),.d true 0 (D.pt 0 (D.sl 0 (bD bs3665)))] al.length with
   |some bs104=>k [.own false 0 (bD bs104),.d false 0 D.nili] []
   |none=>none else none:=by kernel_rfl
end U73
end Go.Sd
set_option maxRecDepth 100000
namespace Go.Sc
open Go Go.Cm
def labelB (ns al:List D) (bk:Int) (s:ByteArray):Option (Int ⊕ List Bool):=
 match idxN s ns 0 with
 |some i=>if i<0 then some (.inl 30)else(eachB 98 [.d true 0 (.pt 0 (.pt 4 (.ag [.sl 0 ns,.sl 0 al,.int .i64 bk]))),.d true 0 (.pt 0 (.int .i64 i))] al.length).map .inr
 |none=>none
def oneB (ns al:List D) (bk:Int) (op:ByteArray) (a:List D):Option (Int ⊕ List Bool):=
 match eachB 99 [] al.length with
 |none=>none
 |some yes=>
  if(op.toList==[33])=true then(eachB 100 [.d true 0 (.pt 0 (.sl 0 a))] al.length).map .inr
  else if(op.toList==[88])=true then(eachB 101 [.d true 0 (.pt 0 (.sl 0 a)),.d true 0 (.pt 0 (.pt 4 (.ag [.sl 0 ns,.sl 0 al,.int .i64 bk])))] al.length).map .inr
  else if(op.toList==[70])=true then(untilB al.length bk (bD yes) a).map .inr
  else if(op.toList==[71])=true then(foreverB al.length bk a).map .inr
  else some (.inl 1)
def twoB (al:List D) (bk:Int) (op:ByteArray) (a b:List D):Option (Int ⊕ List Bool):=
 if(op.toList==[38])=true then(eachB 105 [.d true 0 (.pt 0 (.sl 0 a)),.d true 0 (.pt 0 (.sl 0 b))] al.length).map .inr
 else if(op.toList==[124])=true then(eachB 106 [.d true 0 (.pt 0 (.sl 0 a)),.d true 0 (.pt 0 (.sl 0 b))] al.length).map .inr
 else if(op.toList==[61,62])=true then(eachB 107 [.d true 0 (.pt 0 (.sl 0 a)),.d true 0 (.pt 0 (.sl 0 b))] al.length).map .inr
 else if(op.toList==[85])=true then(untilB al.length bk a b).map .inr
 else if(op.toList==[87])=true then(match untilB al.length bk a b with
  |some u=>match foreverB al.length bk a with
   |some g=>(eachB 108 [.d true 0 (.pt 0 (.sl 0 (bD u))),.d true 0 (.pt 0 (.sl 0 (bD g)))] al.length).map .inr
   |none=>none
  |none=>none)
 else if(op.toList==[82])=true then(alongB 110 [.d true 0 (.pt 0 (.sl 0 b)),.d true 0 (.pt 0 (.sl 0 a))] al.length bk true).map .inr
 else some (.inl 1)
end Go.Sc
namespace Go.Sd
open Go Go.Cm Go.Proofs Go.Sc
def ansL {β:Type} (k:List TV→List TV→Option β) (r:Option (Int ⊕ List Bool)):Option β:=
 match r with
 |some (.inl e)=>k [.own false 0 [],.d false 0 (.ifc 84 (.int .i64 e))] []
 |some (.inr bs)=>k [.own false 0 (bD bs),.d false 0 .nili] []
 |none=>none
theorem ansL_map {β:Type} (k:List TV→List TV→Option β) (r:Option (List Bool)):ansL k (r.map .inr)=match r with|some bs=>k [.own false 0 (bD bs),.d false 0 .nili] []|none=>none:=by cases r<;>rfl
def cLabel {β:Type} (args:List TV) (k:List TV→List TV→Option β):Option β:=
 match args with
 |[.d true 0 (.pt 4 (.ag [.sl 0 ns,.sl 0 al,.int .i64 bk])),.d true 0 (.str s)]=>chkK (al.length≤big∧ns.length≤big) (ansL k (labelB ns al bk s))
 |_=>none
def cOne14 {β:Type} (args:List TV) (k:List TV→List TV→Option β):Option β:=
 match args with
 |[.d true 0 (.pt 4 (.ag [.sl 0 ns,.sl 0 al,.int .i64 bk])),.d true 0 (.str op),.d true 0 (.sl 0 a)]=>chkK (al.length≤big) (ansL k (oneB ns al bk op a))
 |_=>none
def cTwo14 {β:Type} (args:List TV) (k:List TV→List TV→Option β):Option β:=
 match args with
 |[.d true 0 (.pt 4 (.ag [.sl 0 ns,.sl 0 al,.int .i64 bk])),.d true 0 (.str op),.d true 0 (.sl 0 a),.d true 0 (.sl 0 b)]=>chkK (al.length≤big) (ansL k (twoB al bk op a b))
 |_=>none
theorem envw5:EnvOk glS Tryz.prog W5:=envwe.add fun β args k r hr=>enval β 109 args k r (by simpa[Env.add]using hr)
theorem envw6:EnvOk glS Tryz.prog W6:=by
 have hbig:big=34359738368:=rfl
 refine EnvOk.add (envw5.fn mixed Tryz.func103 (by kernel_rfl) fun β args k r hr=>?_) fun β args k r hr=>?_
 ·unfold cUntil at hr
  split at hr
  ·obtain⟨h0,hr⟩:=chkK_ok hr
   split at hr
   ·rename_i bs hb
    refine⟨_,_,hr,fun q=>?_⟩
    rw[U103.start,if_pos (by omega)]
    unfold untilB at hb
    simp only[hb]
   ·cases hr
  ·cases hr
 ·unfold cForever at hr
  split at hr
  ·obtain⟨h0,hr⟩:=chkK_ok hr
   split at hr
   ·rename_i bs hb
    refine⟨_,_,hr,valid_of envw5 mixed Tryz.func104 (by kernel_rfl) ?_⟩
    rw[U104.start,if_pos (by omega)]
    unfold foreverB at hb
    simp only[hb]
   ·cases hr
  ·cases hr
theorem idx_loop {s:ByteArray} {ns:List D} (hn:ns.length≤34359738368):∀(r:List D) (i:Nat) (v:Int),ns.drop i=r→idxN s r i=some v→
  (v<0∧v= -1∧Lp U97.L0 (U97.s0 ns s i)=some (.exit 0,U97.e0x0))∨(0≤v∧Lp U97.L0 (U97.s0 ns s i)=some (.ret,U97.e0r v))
 |[],i,v,hd,h=>by
  simp only[idxN,Option.some.injEq]at h
  subst h
  have hr:=U97.round0 ns s i
  have:ns.length≤i:=by have:=congrArg List.length hd;simp at this;omega
  rw[if_neg (by simp;omega)]at hr
  exact .inl ⟨by decide,rfl,Lp_exit hr⟩
 |x::r,i,v,hd,h=>by
  have hr:=U97.round0 ns s i
  have hlt:i<ns.length:=by
   rcases Nat.lt_or_ge i ns.length with h|h
   ·exact h
   ·rw[List.drop_eq_nil_of_le h]at hd;cases hd
  have hc:=List.drop_eq_getElem_cons hlt
  rw[hd]at hc
  have hx:ns[i]? =some x:=by rw[List.getElem?_eq_getElem hlt, ←(List.cons.inj hc).1]
  rw[if_pos (by simp;omega),if_pos (by omega),Int.toNat_natCast,hx]at hr
  simp only[idxN]at h
  split at h
  ·rename_i t
   simp only at hr
   have hsym:(s.toList==t.toList)=(t.toList==s.toList):=by
    rw[Bool.eq_iff_iff,beq_iff_eq,beq_iff_eq];exact⟨Eq.symm,Eq.symm⟩
   rw[hsym]at hr
   split at h
   ·rename_i he
    cases h
    rw[if_pos he]at hr
    exact .inr ⟨by omega,Lp_exit hr⟩
   ·rename_i he
    rw[if_neg he,wrap_id (by omega) (by omega)]at hr
    rcases idx_loop hn r (i+1) v (List.cons.inj hc).2.symm h with⟨h1,h2,h3⟩|⟨h1,h3⟩
    ·exact .inl ⟨h1,h2,Lp_step hr h3⟩
    ·exact .inr ⟨h1,Lp_step hr h3⟩
  ·cases h
theorem envw7:EnvOk glS Tryz.prog W7:=envw6.fn mixed Tryz.func97 (by kernel_rfl) fun β args k r hr=>by
 unfold cIdxN at hr
 split at hr
 ·rename_i ns s
  obtain⟨h0,hr⟩:=chkK_ok hr
  split at hr
  ·rename_i v hv
   refine⟨_,_,hr,fun q=>?_⟩
   rw[U97.start]
   rcases idx_loop h0 ns 0 v rfl hv with⟨_,rfl,h⟩|⟨_,h⟩
   ·rw[show(0:Int)=((0:Nat):Int)from rfl,goLp_of h,U97.behind0x0]
   ·rw[show(0:Int)=((0:Nat):Int)from rfl,goLp_of h,U97.behind0r]
  ·cases hr
 ·cases hr
def W8:Env:=((W7.add 71 io0 cLabel).add 72 io0 cOne14).add 73 io0 cTwo14
theorem ansL_out {β:Type} {k:List TV→List TV→Option β} {x:Option (Int ⊕ List Bool)} {r:β} (h:ansL k x=some r):∃res outs,k res outs=some r∧∀{γ:Type} (q:List TV→List TV→Option γ),ansL q x=q res outs:=by
 unfold ansL at h
 split at h
 ·exact⟨_,_,h,fun q=>rfl⟩
 ·exact⟨_,_,h,fun q=>rfl⟩
 ·cases h
theorem envw8:EnvOk glS Tryz.prog W8:=by
 have hbig:big=34359738368:=rfl
 refine EnvOk.add (EnvOk.add (envw7.fn mixed Tryz.func71 (by kernel_rfl) fun β args k r hr=>?_) fun β args k r hr=>?_) fun β args k r hr=>?_
 ·unfold cLabel at hr
  split at hr
  ·rename_i ns al bk s
   obtain⟨⟨h0,h1⟩,hr⟩:=chkK_ok hr
   obtain⟨res,outs,h2,h3⟩:=ansL_out hr
   refine⟨res,outs,h2,fun q=>?_⟩
   rw[←h3 q,U71.start,if_pos (by omega)]
   unfold labelB
   cases idxN s ns 0 with
   |none=>rfl
   |some i=>
    simp only
    by_cases hi:i<0
    ·rw[if_pos (by simpa using hi),if_pos hi];rfl
    ·rw[if_neg (by simpa using hi),if_neg hi,if_pos (by omega),ansL_map]
     all_goals (generalize eachB _ _ _=z;cases z<;>rfl)
  ·cases hr
 ·unfold cOne14 at hr
  split at hr
  ·rename_i ns al bk op a
   obtain⟨h0,hr⟩:=chkK_ok hr
   obtain⟨res,outs,h2,h3⟩:=ansL_out hr
   refine⟨res,outs,h2,valid_of envw7 mixed Tryz.func72 (by kernel_rfl) (Eq.trans ?_ (h3 fun a b=>some (a,b)))⟩
   rw[U72.start,if_pos (by omega)]
   unfold oneB
   cases eachB 99 [] al.length with
   |none=>rfl
   |some yes=>
    simp only[if_pos (show al.length≤34359738368 by omega)]
    repeat' split
    all_goals first|rfl|(simp only[ansL,Option.map, *])|simp_all [ansL]
  ·cases hr
 ·unfold cTwo14 at hr
  split at hr
  ·rename_i ns al bk op a b
   obtain⟨h0,hr⟩:=chkK_ok hr
   obtain⟨res,outs,h2,h3⟩:=ansL_out hr
   refine⟨res,outs,h2,valid_of envw7 mixed Tryz.func73 (by kernel_rfl) (Eq.trans ?_ (h3 fun a b=>some (a,b)))⟩
   rw[U73.start]
   have hJ:∀u g:List Bool,U73.J0 ns al bk op a b (fun a b=>some (a,b)) (U73.z0_0 ns al bk op a b u g)=_:=fun u g=>U73.j0_eq ns al bk op a b u g _
   unfold twoB
   simp only[U73.reg0,hJ,if_pos (show al.length≤34359738368 by omega)]
   rcases hu:untilB al.length bk a b with _|u<;>rcases hf:foreverB al.length bk a with _|g<;>simp only[hu,hf]
   all_goals repeat' split
   all_goals first|rfl|(simp only[ansL,Option.map, *])|simp_all [ansL]
  ·cases hr
end Go.Sd
namespace Go.Sc
open Go Go.Cm
mutual
def truthF (ns al:List D) (bk:Int):Fm→Option (Int ⊕ List Bool)
 |.mk op nm ks p=>match truthL ns al bk ks with
  |none=>none
  |some (.inl e)=>some (.inl e)
  |some (.inr l)=>match l with
   |[]=>
    if(op.toList==[116,114,117,101])=true∨(op.toList==[102,97,108,115,101])=true then some (.inr (List.replicate al.length (op.toList==[116,114,117,101])))
    else if(op.toList==[108,97,98,101,108])=true then labelB ns al bk nm
    else some (.inl 1)
   |[a]=>oneB ns al bk op (bD a)
   |[a,b]=>twoB al bk op (bD a) (bD b)
   |_=>some (.inl 1)
def truthL (ns al:List D) (bk:Int):List Fm→Option (Int ⊕ List (List Bool))
 |[]=>some (.inr [])
 |f::fs=>match truthF ns al bk f with
  |none=>none
  |some (.inl e)=>some (.inl e)
  |some (.inr a)=>match truthL ns al bk fs with
   |some (.inr l)=>some (.inr (a::l))
   |some (.inl e)=>some (.inl e)
   |none=>none
end
def anyBad (n:Nat):List D→Option Bool
 |[]=>some false
 |x::r=>match x with
  |.int .i64 i=>if badI n i=true then some true else anyBad n r
  |_=>none
end Go.Sc
namespace Go.Sd
open Go Go.Cm Go.Proofs Go.Sc
def cTruths {β:Type} (b:Option Nat) (args:List TV) (k:List TV→List TV→Option β):Option β:=
 match args with
 |[.d true 0 (.pt 4 (.ag [.sl 0 ns,.sl 0 al,.int .i64 bk])),.d true 5 x]=>match ofD x with
  |some f=>chkK (bd b f∧al.length≤big∧ns.length≤big) (ansL k (truthF ns al bk f))
  |none=>none
 |_=>none
def W9 (b:Option Nat):Env:=W8.add 46 io0 (cTruths b)
def cHasI {β:Type} (args:List TV) (k:List TV→List TV→Option β):Option β:=
 match args with
 |[.d true 0 (.sl 0 xs),.d true 0 (.fn 59 [.pt 0 (.sl 0 ns)])]=>chkK (xs.length≤big) (match anyBad ns.length xs with|some b=>k [.d false 0 (.bool b)] []|none=>none)
 |_=>none
def W10:Env:=W2.add 60 io0 cHasI
end Go.Sd
namespace Go.Sd
open Go Go.Cm Go.Proofs Go.Sc
set_option maxRecDepth 100000
namespace T46
  section
  variable (b:Option Nat)
noncomputable def X:Fx:=⟨Tryz.prog,W9 b,48,2⟩
def s0 (ns:List D) (al:List D) (bk:Int) (op:ByteArray) (nm:ByteArray) (ks:List D) (p:Int) (x69:List D) (x70:Int):S:=⟨Tm.mk 78 [(0,.d true 0 (D.pt 4 (D.ag [D.sl 0 ns,D.sl 0 al,D.int .i64 bk]))),(3,.rp 4 0),(6,.own false 0 x69),(12,.d true 0 (D.sl 5 ks)),(13,.d false 0 (D.int .i64 (ks.length:Int))),(14,.d false 0 (D.int .i64 x70))],[(4,true,[.d true 0 (D.str op),.d true 0 (D.str nm),.d true 0 (D.sl 5 ks),.d true 0 (D.int .i64 p)])]⟩
def e0r (x163:Int):S:=⟨Tm.mk 78 [(4,.own false 0 []),(5,.d false 0 (D.ifc 84 (D.int .i64 x163)))],[]⟩
def e0x0 (ns:List D) (al:List D) (bk:Int) (op:ByteArray) (nm:ByteArray) (ks:List D) (p:Int) (x164:List D):S:=⟨Tm.mk 78 [(0,.d true 0 (D.pt 4 (D.ag [D.sl 0 ns,D.sl 0 al,D.int .i64 bk]))),(3,.rp 4 0),(6,.own false 0 x164)],[(4,true,[.d true 0 (D.str op),.d true 0 (D.str nm),.d true 0 (D.sl 5 ks),.d true 0 (D.int .i64 p)])]⟩
noncomputable abbrev L0:S→Option (S ⊕ (Ex×S)):=roundK (X b) [(0,73)] (sub [1,1,0,1,0,0] (body Tryz.f46))
theorem start {β:Type} (ns:List D) (al:List D) (bk:Int) (op:ByteArray) (nm:ByteArray) (ks:List D) (p:Int) (k:List TV→List TV→Option β):evalF Tryz.prog (W9 b) Tryz.f46 [.d true 0 (D.pt 4 (D.ag [D.sl 0 ns,D.sl 0 al,D.int .i64 bk])),.d true 5 (D.ag [D.str op,D.str nm,D.sl 5 ks,D.int .i64 p])] k=goLp (X b) [(0,73)] (sub [1,1,0,1,0,0] (body Tryz.f46)) [Kf.block 0 73,Kf.seq [] (sub [1,1,1] (body Tryz.f46)) 48] (finK Tryz.prog Tryz.f46 [.d true 0 (D.pt 4 (D.ag [D.sl 0 ns,D.sl 0 al,D.int .i64 bk])),.d true 5 (D.ag [D.str op,D.str nm,D.sl 5 ks,D.int .i64 p])] k) (s0 ns al bk op nm ks p [] (0:Int)):=by kernel_rfl
theorem round0_0 (ns:List D) (al:List D) (bk:Int) (op:ByteArray) (nm:ByteArray) (ks:List D) (p:Int) (x67:List D) (x68:Int):roundK (X b) [(0,73)] (sub [1,1,0,1,0,0] (body Tryz.f46)) (s0 ns al bk op nm ks p x67 x68)=if decide (x68<(ks.length:Int))=true then if 0≤x68 then match ks[x68.toNat]? with
   |some x216=>match x216 with
    |D.ag xs217=>match xs217 with
     |x218::r219=>match x218 with
      |D.str s220=>match r219 with
       |x221::r222=>match x221 with
        |D.str s223=>match r222 with
         |x224::r225=>match x224 with
          |D.sl sh226 xs227=>if sh226=5 then match r225 with
           |x228::r229=>match x228 with
            |D.int j230 m231=>if j230=IntKind.i64 then match r229 with
             |[]=>match ofD (D.ag [D.str s220,D.str s223,D.sl 5 xs227,D.int .i64 m231])with
              |some f234=>if bd b f234∧al.length≤34359738368∧ns.length≤34359738368 then match truthF ns al bk f234 with
               |some (Sum.inl e235)=>some (Sum.inr (Ex.ret,e0r e235))
               |some (Sum.inr bs239)=>if x67.length+1≤34359738368 then some (Sum.inl (s0 ns al bk op nm ks p (x67++[D.sl 0 (bD bs239)]) (IntKind.wrap .i64 (x68+1))))else none
               |none=>none else none
              |none=>none
             |x=>none else none
            |x=>none
           |[]=>none else none
          |x=>none
         |[]=>none
        |x=>none
       |[]=>none
      |x=>none
     |[]=>none
    |x=>none
   |none=>none else none else some (Sum.inr (Ex.exit 0,e0x0 ns al bk op nm ks p x67)):=by kernel_rfl
theorem behind0r {β:Type} (ns:List D) (al:List D) (bk:Int) (op:ByteArray) (nm:ByteArray) (ks:List D) (p:Int) (x163:Int) (k:List TV→List TV→Option β):applyK (X b) (finK Tryz.prog Tryz.f46 [.d true 0 (D.pt 4 (D.ag [D.sl 0 ns,D.sl 0 al,D.int .i64 bk])),.d true 5 (D.ag [D.str op,D.str nm,D.sl 5 ks,D.int .i64 p])] k) [Kf.block 0 73,Kf.seq [] (sub [1,1,1] (body Tryz.f46)) 48] Ex.ret (e0r x163)=k [.own false 0 [],.d false 0 (D.ifc 84 (D.int .i64 x163))] []:=by kernel_rfl
theorem behind0x0 {β:Type} (ns:List D) (al:List D) (bk:Int) (op:ByteArray) (nm:ByteArray) (ks:List D) (p:Int) (x164:List D) (k:List TV→List TV→Option β):applyK (X b) (finK Tryz.prog Tryz.f46 [.d true 0 (D.pt 4 (D.ag [D.sl 0 ns,D.sl 0 al,D.int .i64 bk])),.d true 5 (D.ag [D.str op,D.str nm,D.sl 5 ks,D.int .i64 p])] k) [Kf.block 0 73,Kf.seq [] (sub [1,1,1] (body Tryz.f46)) 48] (Ex.exit 0) (e0x0 ns al bk op nm ks p x164)=if((x164.length:Int)==0)=true then if(op.toList==[116,114,117,101])=true then if(op.toList==[116,114,117,101])=true then if al.length≤34359738368 then match eachB 70 [.d true 0 (D.pt 5 (D.ag [D.str op,D.str nm,D.sl 5 ks,D.int .i64 p]))] al.length with
   |some bs285=>k [.own false 0 (bD bs285),.d false 0 D.nili] []
   |none=>none else none else if(op.toList==[108,97,98,101,108])=true then if al.length≤34359738368∧ns.length≤34359738368 then match labelB ns al bk nm with
    |some (Sum.inl e289)=>k [.own false 0 [],.d false 0 (D.ifc 84 (D.int .i64 e289))] []
    |some (Sum.inr bs290)=>k [.own false 0 (bD bs290),.d false 0 D.nili] []
    |none=>none else none else k [.own false 0 [],.d false 0 (D.ifc 84 (D.int .i64 1))] []else if(op.toList==[102,97,108,115,101])=true then if al.length≤34359738368 then match eachB 70 [.d true 0 (D.pt 5 (D.ag [D.str op,D.str nm,D.sl 5 ks,D.int .i64 p]))] al.length with
   |some bs295=>k [.own false 0 (bD bs295),.d false 0 D.nili] []
   |none=>none else none else if(op.toList==[108,97,98,101,108])=true then if al.length≤34359738368∧ns.length≤34359738368 then match labelB ns al bk nm with
    |some (Sum.inl e299)=>k [.own false 0 [],.d false 0 (D.ifc 84 (D.int .i64 e299))] []
    |some (Sum.inr bs300)=>k [.own false 0 (bD bs300),.d false 0 D.nili] []
    |none=>none else none else k [.own false 0 [],.d false 0 (D.ifc 84 (D.int .i64 1))] []else if((x164.length:Int)==1)=true then if(0:Int)≤0∧(0:Int)<(x164.length:Int)then match x164[0]? with
   |some x305=>match x305 with
    |D.sl sh306 xs307=>if sh306=0 then if al.length≤34359738368 then match oneB ns al bk op xs307 with
     |some (Sum.inl e308)=>k [.own false 0 [],.d false 0 (D.ifc 84 (D.int .i64 e308))] []
     |some (Sum.inr bs309)=>k [.own false 0 (bD bs309),.d false 0 D.nili] []
     |none=>none else none else none
    |x=>none
   |none=>none else none else if((x164.length:Int)==2)=true then if(0:Int)≤1∧(1:Int)<(x164.length:Int)then match x164[1]? with
    |some x313=>match x313 with
     |D.sl sh314 xs315=>if sh314=0 then if(0:Int)≤0∧(0:Int)<(x164.length:Int)then match x164[0]? with
      |some x316=>match x316 with
       |D.sl sh317 xs318=>if sh317=0 then if al.length≤34359738368 then match twoB al bk op xs318 xs315 with
        |some (Sum.inl e319)=>k [.own false 0 [],.d false 0 (D.ifc 84 (D.int .i64 e319))] []
        |some (Sum.inr bs320)=>k [.own false 0 (bD bs320),.d false 0 D.nili] []
        |none=>none else none else none
       |x=>none
      |none=>none else none else none
     |x=>none
    |none=>none else none else k [.own false 0 [],.d false 0 (D.ifc 84 (D.int .i64 1))] []:=by kernel_rfl
end
end T46
end Go.Sd
namespace Go.Sd
open Go Go.Cm Go.Proofs Go.Sc
set_option maxRecDepth 100000
namespace B38
noncomputable def X:Fx:=⟨Tryz.prog,W10,16,2⟩
def s0 (ns:List D) (st:List D) (lp:List D) (x17:List D) (x18:Int):S:=⟨Tm.mk 54 [(2,.rp 3 0),(3,.rp 4 0),(5,.own false 4611686018427387904 x17),(11,.d true 0 (D.sl 0 ns)),(12,.d false 0 (D.int .i64 (ns.length:Int))),(13,.d false 0 (D.int .i64 x18))],[(3,false,[.d true 0 (D.sl 0 ns)]),(4,true,[.d true 0 (D.sl 0 st),.d true 0 (D.sl 0 lp)])]⟩
def e0x0 (ns:List D) (st:List D) (lp:List D) (x51:List D):S:=⟨Tm.mk 54 [(2,.rp 3 0),(3,.rp 4 0),(5,.own false 4611686018427387904 x51)],[(3,false,[.d true 0 (D.sl 0 ns)]),(4,true,[.d true 0 (D.sl 0 st),.d true 0 (D.sl 0 lp)])]⟩
noncomputable abbrev L0:S→Option (S ⊕ (Ex×S)):=roundK X [(0,44)] (sub [1,1,0,1,0,0] (body Tryz.f38))
theorem start {β:Type} (ns:List D) (st:List D) (lp:List D) (k:List TV→List TV→Option β):evalF Tryz.prog W10 Tryz.f38 [.d true 0 (D.sl 0 ns),.d true 3 (D.ag [D.sl 0 st,D.sl 0 lp])] k=goLp X [(0,44)] (sub [1,1,0,1,0,0] (body Tryz.f38)) [Kf.block 0 44,Kf.seq [] (sub [1,1,1] (body Tryz.f38)) 16] (finK Tryz.prog Tryz.f38 [.d true 0 (D.sl 0 ns),.d true 3 (D.ag [D.sl 0 st,D.sl 0 lp])] k) (s0 ns st lp [] (0:Int)):=by kernel_rfl
theorem round0 (ns:List D) (st:List D) (lp:List D) (x17:List D) (x18:Int):roundK X [(0,44)] (sub [1,1,0,1,0,0] (body Tryz.f38)) (s0 ns st lp x17 x18)=if decide (x18<(ns.length:Int))=true then if 0≤x18 then match ns[x18.toNat]? with
   |some x73=>match x73 with
    |D.str s74=>match findM Tryz.prog 9 (D.str s74) x17 0 with
     |some r76=>some (Sum.inl (s0 ns st lp (updM x17 (D.str s74) (D.bool true) r76) (IntKind.wrap .i64 (x18+1))))
     |none=>none
    |x=>none
   |none=>none else none else some (Sum.inr (Ex.exit 0,e0x0 ns st lp x17)):=by kernel_rfl
theorem behind0x0 {β:Type} (ns:List D) (st:List D) (lp:List D) (x51:List D) (k:List TV→List TV→Option β):applyK X (finK Tryz.prog Tryz.f38 [.d true 0 (D.sl 0 ns),.d true 3 (D.ag [D.sl 0 st,D.sl 0 lp])] k) [Kf.block 0 44,Kf.seq [] (sub [1,1,1] (body Tryz.f38)) 16] (Ex.exit 0) (e0x0 ns st lp x51)=if st.length+lp.length≤34359738368 then if decide ((ns.length:Int)>6)=true then k [.d false 0 (D.ifc 84 (D.int .i64 1))] []else if(!(x51.length:Int)==(ns.length:Int))=true then k [.d false 0 (D.ifc 84 (D.int .i64 1))] []else if((lp.length:Int)==0)=true then k [.d false 0 (D.ifc 84 (D.int .i64 1))] []else if decide ((↑(List.length (st++lp)):Int)>64)=true then k [.d false 0 (D.ifc 84 (D.int .i64 1))] []else if List.length (st++lp)≤34359738368 then match anyBad ns.length (st++lp)with
   |some b95=>if b95=true then k [.d false 0 (D.ifc 84 (D.int .i64 1))] []else k [.d false 0 D.nili] []
   |none=>none else none else none:=by kernel_rfl
end B38
end Go.Sd
set_option maxRecDepth 100000
namespace Go.Sc
open Go Go.Cm
def bDL (l:List (List Bool)):List D:=l.map fun a=>.sl 0 (bD a)
theorem bDL_len (l:List (List Bool)):(bDL l).length=l.length:=by simp[bDL]
end Go.Sc
namespace Go.Sd
open Go Go.Cm Go.Proofs Go.Sc
theorem each70 (op nm:ByteArray) (ks:List D) (p:Int) (n:Nat):eachB 70 [.d true 0 (.pt 5 (.ag [.str op,.str nm,.sl 5 ks,.int .i64 p]))] n=some (List.replicate n (op.toList==[116,114,117,101])):=by
 have:(fun i:Int=>semB 70 (.d true 0 (.int .i64 i)::[.d true 0 (.pt 5 (.ag [.str op,.str nm,.sl 5 ks,.int .i64 p]))]))=fun _=>some (op.toList==[116,114,117,101]):=by
  funext i;unfold semB;simp only[sem1,if_neg (show ¬(70=59)by decide),if_pos]
 unfold eachB;rw[this];exact eachS_const _ n 0
theorem tru_loop {b:Option Nat} {ns al:List D} {bk:Int} {op nm:ByteArray} {p:Int} {fs:List Fm} (hl:fs.length≤4096) (hb:∀f∈fs,bd b f) (h1:al.length≤34359738368) (h2:ns.length≤34359738368):
  ∀(gs:List Fm) (i:Nat) (acc:List (List Bool)),fs.drop i=gs→acc.length=i→i≤fs.length→
  match truthL ns al bk gs with
  |none=>True
  |some (.inl e)=>Lp (T46.L0 b) (T46.s0 ns al bk op nm (Fm.dL fs) p (bDL acc) i)=some (.ret,T46.e0r e)
  |some (.inr l)=>Lp (T46.L0 b) (T46.s0 ns al bk op nm (Fm.dL fs) p (bDL acc) i)=some (.exit 0,T46.e0x0 ns al bk op nm (Fm.dL fs) p (bDL (acc++l)))
 |[],i,acc,hi,ha,hle=>by
  have hr:=T46.round0_0 b ns al bk op nm (Fm.dL fs) p (bDL acc) i
  have:fs.length≤i:=by have:=congrArg List.length hi;simp at this;omega
  rw[dL_len,if_neg (by simp;omega)]at hr
  simp only[truthL,List.append_nil]
  exact Lp_exit hr
 |f::gs,i,acc,hi,ha,hle=>by
  have hr:=T46.round0_0 b ns al bk op nm (Fm.dL fs) p (bDL acc) i
  have hlt:i<fs.length:=by
   rcases Nat.lt_or_ge i fs.length with h|h
   ·exact h
   ·rw[List.drop_eq_nil_of_le h]at hi;cases hi
  have hc:=List.drop_eq_getElem_cons hlt
  rw[hi]at hc
  have hf:fs[i]=f:=(List.cons.inj hc).1.symm
  have hgs:fs.drop (i+1)=gs:=(List.cons.inj hc).2.symm
  rw[dL_len,if_pos (by simp;omega),if_pos (by omega),Int.toNat_natCast,dL_get hlt,hf]at hr
  have hbf:=hb f (hf▸List.getElem_mem hlt)
  have ih:=fun a=>tru_loop (bk:=bk) (op:=op) (nm:=nm) (p:=p) hl hb h1 h2 gs (i+1) (acc++[a]) hgs (by simp[ha]) (by omega)
  cases f with
  |mk o n ks q=>
   have hof:=ofD_d (.mk o n ks q)
   simp only[Fm.d]at hr hof
   simp only[hof,if_true,if_pos (show bd b (.mk o n ks q)∧al.length≤34359738368∧ns.length≤34359738368 from⟨hbf,h1,h2⟩),wrap_id (show -9223372036854775808≤(i:Int)+1 by omega) (by omega)]at hr
   simp only[truthL]
   cases ht:truthF ns al bk (.mk o n ks q)with
   |none=>trivial
   |some v=>
    cases v with
    |inl e=>
     simp only[ht]at hr
     exact Lp_exit hr
    |inr a=>
     simp only[ht]at hr
     rw[if_pos (by rw[bDL_len];omega)]at hr
     have e1:bDL acc++[D.sl 0 (bD a)]=bDL (acc++[a]):=by simp[bDL]
     rw[e1]at hr
     have ih:=ih a
     have e2:((i+1:Nat):Int)=(i:Int)+1:=by omega
     rw[e2]at ih
     cases hL:truthL ns al bk gs with
     |none=>trivial
     |some v=>
      rw[hL]at ih
      cases v with
      |inl e=>exact Lp_step hr ih
      |inr l=>
       simp only[List.append_assoc,List.singleton_append]at ih
       exact Lp_step hr ih
theorem ev_tru {b:Option Nat} {ns al:List D} {bk:Int} {f:Fm} (hs:f.sm=true) (hb:∀n,b=some n→f.dep≤n) (h1:al.length≤34359738368) (h2:ns.length≤34359738368) (hn:truthF ns al bk f≠none) {γ:Type} (q:List TV→List TV→Option γ):
  evalF Tryz.prog (W9 b) Tryz.f46 [.d true 0 (.pt 4 (.ag [.sl 0 ns,.sl 0 al,.int .i64 bk])),.d true 5 f.d] q=ansL q (truthF ns al bk f):=by
 cases f with
 |mk op nm ks p=>
  simp only[Fm.sm,Bool.and_eq_true,Nat.ble_eq]at hs
  have h:=tru_loop (b:=b) (ns:=ns) (al:=al) (bk:=bk) (op:=op) (nm:=nm) (p:=p) hs.1 (fun g hg=>bd_none ⟨sm_mem hs.2 hg,trivial⟩ fun n hn=>by
   have h1:=hb n hn
   have h2:=dep_mem hg
   simp only[Fm.dep]at h1
   omega) h1 h2 ks 0 [] rfl rfl (by omega)
  have st:=T46.start b ns al bk op nm (Fm.dL ks) p q
  simp only[Fm.d]
  rw[st]
  simp only[truthF]at hn ⊢
  cases hL:truthL ns al bk ks with
  |none=>rw[hL]at hn;exact(hn rfl).elim
  |some v=>
   rw[hL]at h hn
   cases v with
   |inl e=>
    simp only at h
    have h':Lp (T46.L0 b) (T46.s0 ns al bk op nm (Fm.dL ks) p [] 0)=_:=h
    rw[goLp_of h',T46.behind0r]
    rfl
   |inr l=>
    simp only[List.nil_append]at h
    have h':Lp (T46.L0 b) (T46.s0 ns al bk op nm (Fm.dL ks) p [] 0)=_:=h
    rw[goLp_of h',T46.behind0x0]
    simp only[bDL_len,if_pos h1,if_pos (show al.length≤34359738368∧ns.length≤34359738368 from⟨h1,h2⟩),each70]
    match l with
    |[]=>
     by_cases ht:(op.toList==[116,114,117,101])=true
     ·simp only[List.length_nil,ht];rfl
     ·by_cases hf:(op.toList==[102,97,108,115,101])=true
      ·simp only[List.length_nil,ht,hf];rfl
      ·by_cases hlb:(op.toList==[108,97,98,101,108])=true
       ·simp only[List.length_nil,ht,hf,hlb]
        generalize labelB ns al bk nm=z
        rcases z with _|_|_<;>rfl
       ·simp only[List.length_nil,ht,hf,hlb];rfl
    |[a]=>
     simp only[bDL,List.map_cons,List.map_nil,List.length_cons,List.length_nil]
     generalize hz:oneB ns al bk op (bD a)=z
     simp[hz]
     rcases z with _|_|_<;>rfl
    |[a,c]=>
     simp only[bDL,List.map_cons,List.map_nil,List.length_cons,List.length_nil]
     generalize hz:twoB al bk op (bD a) (bD c)=z
     simp[hz]
     rcases z with _|_|_<;>rfl
    |a::c::d::r=>
     have e0:¬((((a::c::d::r).length:Nat):Int)==0)=true:=by simp;omega
     have e1:¬((((a::c::d::r).length:Nat):Int)==1)=true:=by simp;omega
     have e2:¬((((a::c::d::r).length:Nat):Int)==2)=true:=by simp;omega
     rw[if_neg e0,if_neg e1,if_neg e2]
     rfl
theorem envw9:EnvOk glS Tryz.prog (W9 none):=by
 refine EnvOk.rec1 (fun b {β} args k=>cTruths b args k) envw8 ?_ ?_ ?_
 ·intro β args k r hr
  unfold cTruths at hr
  split at hr
  ·split at hr
   ·obtain⟨h,_⟩:=chkK_ok hr
    have:=h.1.2;simp only at this;omega
   ·cases hr
  ·cases hr
 ·intro n ih β args k r hr
  unfold cTruths at hr
  split at hr
  ·rename_i ns al bk x
   split at hr
   ·rename_i f hf
    obtain⟨⟨h0,h1,h2⟩,hr⟩:=chkK_ok hr
    obtain⟨res,outs,h3,h4⟩:=ansL_out hr
    refine⟨res,outs,h3,valid_of ih mixed Tryz.func46 (by kernel_rfl) (Eq.trans ?_ (h4 fun a b=>some (a,b)))⟩
    rw[d_ofD _ _ hf]
    exact ev_tru (b:=some n) h0.1 (fun m hm=>by cases hm;have:=h0.2;simp only at this;omega) h1 h2 (fun e=>by rw[e]at hr;cases hr) _
   ·cases hr
  ·cases hr
 ·intro β args k r hr
  unfold cTruths at hr
  split at hr
  ·rename_i ns al bk x
   split at hr
   ·rename_i f hf
    obtain⟨⟨h0,h1,h2⟩,hr⟩:=chkK_ok hr
    refine⟨f.dep+1,?_⟩
    unfold cTruths
    simp only[hf]
    unfold chkK
    rw[if_pos ⟨⟨h0.1,by simp⟩,h1,h2⟩]
    exact hr
   ·cases hr
  ·cases hr
end Go.Sd
namespace Go.Sd
open Go Go.Cm Go.Proofs Go.Sc
set_option maxRecDepth 100000
namespace B91
noncomputable def X:Fx:=⟨Tryz.prog,WC,16,2⟩
def s0 (xs:List D) (f:Nat) (sh:Nat) (x:D) (x20:Int):S:=⟨Tm.mk 19 [(0,.d true 0 (D.sl 0 xs)),(1,.d true 0 (D.fn f [D.pt sh x])),(7,.d false 0 (D.int .i64 (xs.length:Int))),(8,.d false 0 (D.int .i64 x20))],[]⟩
def e0r (x42:Int):S:=⟨Tm.mk 19 [(4,.d false 0 (D.int .i64 x42))],[]⟩
def e0x0:S:=⟨Tm.mk 19 [],[]⟩
noncomputable abbrev L0:S→Option (S ⊕ (Ex×S)):=roundK X [(0,0)] (sub [1,0,1,0,0] (body Tryz.f91))
theorem start {β:Type} (xs:List D) (f:Nat) (sh:Nat) (x:D) (k:List TV→List TV→Option β):evalF Tryz.prog WC Tryz.f91 [.d true 0 (D.sl 0 xs),.d true 0 (D.fn f [D.pt sh x])] k=goLp X [(0,0)] (sub [1,0,1,0,0] (body Tryz.f91)) [Kf.block 0 0,Kf.seq [] (sub [1,1] (body Tryz.f91)) 16] (finK Tryz.prog Tryz.f91 [.d true 0 (D.sl 0 xs),.d true 0 (D.fn f [D.pt sh x])] k) (s0 xs f sh x (0:Int)):=by kernel_rfl
theorem round0 (xs:List D) (f:Nat) (sh:Nat) (x:D) (x20:Int):roundK X [(0,0)] (sub [1,0,1,0,0] (body Tryz.f91)) (s0 xs f sh x x20)=if decide (x20<(xs.length:Int))=true then if 0≤x20 then match xs[x20.toNat]? with
   |some x50=>match x50 with
    |D.int j51 m52=>if j51=IntKind.i64 then match semB f [.d true 0 (D.int .i64 m52),.d true 0 (D.pt sh x)]with
     |some b53=>if b53=true then some (Sum.inr (Ex.ret,e0r x20))else some (Sum.inl (s0 xs f sh x (IntKind.wrap .i64 (x20+1))))
     |none=>none else none
    |x=>none
   |none=>none else none else some (Sum.inr (Ex.exit 0,e0x0)):=by kernel_rfl
theorem behind0r {β:Type} (xs:List D) (f:Nat) (sh:Nat) (x:D) (x42:Int) (k:List TV→List TV→Option β):applyK X (finK Tryz.prog Tryz.f91 [.d true 0 (D.sl 0 xs),.d true 0 (D.fn f [D.pt sh x])] k) [Kf.block 0 0,Kf.seq [] (sub [1,1] (body Tryz.f91)) 16] Ex.ret (e0r x42)=k [.d false 0 (D.int .i64 x42)] []:=by kernel_rfl
theorem behind0x0 {β:Type} (xs:List D) (f:Nat) (sh:Nat) (x:D) (k:List TV→List TV→Option β):applyK X (finK Tryz.prog Tryz.f91 [.d true 0 (D.sl 0 xs),.d true 0 (D.fn f [D.pt sh x])] k) [Kf.block 0 0,Kf.seq [] (sub [1,1] (body Tryz.f91)) 16] (Ex.exit 0) e0x0=k [.d false 0 (D.int .i64 (-1:Int))] []:=by kernel_rfl
end B91
end Go.Sd
namespace Go.Sc
open Go Go.Cm
def idxBad (n:Nat):List D→Nat→Option Int
 |[],_=>some (-1)
 |x::r,i=>match x with
  |.int .i64 v=>if badI n v=true then some i else idxBad n r (i+1)
  |_=>none
end Go.Sc
namespace Go.Sd
open Go Go.Cm Go.Proofs Go.Sc
def cIdxI {β:Type} (args:List TV) (k:List TV→List TV→Option β):Option β:=
 match args with
 |[.d true 0 (.sl 0 xs),.d true 0 (.fn 59 [.pt 0 (.sl 0 ns)])]=>chkK (xs.length≤big) (match idxBad ns.length xs 0 with|some b=>k [.d false 0 (.int .i64 b)] []|none=>none)
 |_=>none
def WI:Env:=W2.add 91 io0 cIdxI
end Go.Sd
namespace Go.Sd
open Go Go.Cm Go.Proofs Go.Sc
set_option maxRecDepth 100000
namespace B60
noncomputable def X:Fx:=⟨Tryz.prog,WI,16,2⟩
theorem start {β:Type} (xs:List D) (ns:List D) (k:List TV→List TV→Option β):evalF Tryz.prog WI Tryz.f60 [.d true 0 (D.sl 0 xs),.d true 0 (D.fn (59:FuncId) [D.pt 0 (D.sl 0 ns)])] k=if xs.length≤34359738368 then match idxBad ns.length xs 0 with
   |some b2=>k [.d false 0 (D.bool (decide (b2≥0)))] []
   |none=>none else none:=by kernel_rfl
end B60
end Go.Sd
set_option maxRecDepth 100000
namespace Go.Sc
open Go Go.Cm
theorem idxBad_any {n:Nat}:∀(xs:List D) (i:Nat),(match idxBad n xs i with|some v=>some (decide (v≥0))|none=>none)=anyBad n xs
 |[],i=>rfl
 |.int .i64 v::r,i=>by
  have ih:=idxBad_any (n:=n) r (i+1)
  simp only[idxBad,anyBad]
  by_cases h:badI n v=true
  ·simp only[if_pos h]
   have:((i:Int)≥0):=by omega
   simp[this]
  ·simp only[if_neg h]
   exact ih
 |.int .i8 _::_,_|.int .i16 _::_,_|.int .i32 _::_,_|.int .u8 _::_,_|.int .u16 _::_,_|.int .u32 _::_,_|.int .u64 _::_,_=>rfl
 |.bool _::_,_|.str _::_,_|.nilp::_,_|.nilm::_,_|.nilf::_,_|.nili::_,_|.nilsl::_,_|.ifc _ _::_,_|.ag _::_,_|.sl _ _::_,_|.pt _ _::_,_|.mp _ _::_,_|.fn _ _::_,_=>rfl
def seenM (P:Program):List D→List D→Option (List D)
 |[],m=>some m
 |x::r,m=>match x with
  |.str s=>match findM P 9 (.str s) m 0 with
   |some q=>seenM P r (updM m (.str s) (.bool true) q)
   |none=>none
  |_=>none
def checkS (P:Program) (ns st lp:List D):Option Bool:=
 match seenM P ns []with
 |none=>none
 |some m=>
  if ns.length>6 then some false
  else if m.length≠ns.length then some false
  else if lp.length=0 then some false
  else if(st++lp).length>64 then some false
  else(anyBad ns.length (st++lp)).map (!·)
end Go.Sc
namespace Go.Sd
open Go Go.Cm Go.Proofs Go.Sc
theorem bad_loop {xs ns:List D} (hn:xs.length≤34359738368):∀(r:List D) (i:Nat) (v:Int),xs.drop i=r→idxBad ns.length r i=some v→
  (v= -1∧Lp B91.L0 (B91.s0 xs 59 0 (.sl 0 ns) i)=some (.exit 0,B91.e0x0))∨(0≤v∧Lp B91.L0 (B91.s0 xs 59 0 (.sl 0 ns) i)=some (.ret,B91.e0r v))
 |[],i,v,hd,h=>by
  simp only[idxBad,Option.some.injEq]at h
  subst h
  have hr:=B91.round0 xs 59 0 (.sl 0 ns) i
  have:xs.length≤i:=by have:=congrArg List.length hd;simp at this;omega
  rw[if_neg (by simp;omega)]at hr
  exact .inl ⟨rfl,Lp_exit hr⟩
 |x::r,i,v,hd,h=>by
  have hr:=B91.round0 xs 59 0 (.sl 0 ns) i
  have hlt:i<xs.length:=by
   rcases Nat.lt_or_ge i xs.length with h|h
   ·exact h
   ·rw[List.drop_eq_nil_of_le h]at hd;cases hd
  have hc:=List.drop_eq_getElem_cons hlt
  rw[hd]at hc
  have hx:xs[i]? =some x:=by rw[List.getElem?_eq_getElem hlt, ←(List.cons.inj hc).1]
  rw[if_pos (by simp;omega),if_pos (by omega),Int.toNat_natCast,hx]at hr
  simp only[idxBad]at h
  split at h
  ·rename_i m
   have hs:semB 59 [.d true 0 (.int .i64 m),.d true 0 (.pt 0 (.sl 0 ns))]=some (badI ns.length m):=by unfold semB;simp only[sem1,if_pos]
   simp only[if_true,hs]at hr
   split at h
   ·rename_i he
    cases h
    rw[if_pos he]at hr
    exact .inr ⟨by omega,Lp_exit hr⟩
   ·rename_i he
    rw[if_neg he,wrap_id (by omega) (by omega)]at hr
    rcases bad_loop hn r (i+1) v (List.cons.inj hc).2.symm h with⟨h1,h3⟩|⟨h1,h3⟩
    ·exact .inl ⟨h1,Lp_step hr h3⟩
    ·exact .inr ⟨h1,Lp_step hr h3⟩
  ·cases h
theorem envwi:EnvOk glS Tryz.prog WI:=envw2.add fun β args k r hr=>by
 unfold cIdxI at hr
 split at hr
 ·rename_i xs ns
  obtain⟨h0,hr⟩:=chkK_ok hr
  split at hr
  ·rename_i v hv
   refine⟨_,_,hr,valid_of envwc mixed Tryz.func91 (by kernel_rfl) ?_⟩
   rw[B91.start]
   rcases bad_loop h0 xs 0 v rfl hv with⟨rfl,h⟩|⟨_,h⟩
   ·have h':Lp B91.L0 (B91.s0 xs 59 0 (.sl 0 ns) 0)=_:=h
    rw[goLp_of h',B91.behind0x0]
   ·have h':Lp B91.L0 (B91.s0 xs 59 0 (.sl 0 ns) 0)=_:=h
    rw[goLp_of h',B91.behind0r]
  ·cases hr
 ·cases hr
theorem envw10:EnvOk glS Tryz.prog W10:=envw2.add fun β args k r hr=>by
 unfold cHasI at hr
 split at hr
 ·rename_i xs ns
  obtain⟨h0,hr⟩:=chkK_ok hr
  have hbig:big=34359738368:=rfl
  split at hr
  ·rename_i b hb
   refine⟨_,_,hr,valid_of envwi mixed Tryz.func60 (by kernel_rfl) ?_⟩
   rw[B60.start,if_pos (by omega)]
   rw[←idxBad_any xs 0]at hb
   cases hv:idxBad ns.length xs 0 with
   |none=>rw[hv]at hb;cases hb
   |some v=>rw[hv]at hb;cases hb;rfl
  ·cases hr
 ·cases hr
noncomputable def cCheck {β:Type} (args:List TV) (k:List TV→List TV→Option β):Option β:=
 match args with
 |[.d true 0 (.sl 0 ns),.d true 3 (.ag [.sl 0 st,.sl 0 lp])]=>chkK (ns.length≤big∧st.length+lp.length≤big) (match checkS Tryz.prog ns st lp with
  |some true=>k [.d false 0 .nili] []
  |some false=>k [.d false 0 (.ifc 84 (.int .i64 1))] []
  |none=>none)
 |_=>none
theorem seen_loop {ns st lp:List D} (hn:ns.length≤34359738368):∀(r:List D) (i:Nat) (m m':List D),ns.drop i=r→seenM Tryz.prog r m=some m'→
  Lp B38.L0 (B38.s0 ns st lp m i)=some (.exit 0,B38.e0x0 ns st lp m')
 |[],i,m,m',hd,h=>by
  simp only[seenM,Option.some.injEq]at h
  subst h
  have hr:=B38.round0 ns st lp m i
  have:ns.length≤i:=by have:=congrArg List.length hd;simp at this;omega
  rw[if_neg (by simp;omega)]at hr
  exact Lp_exit hr
 |x::r,i,m,m',hd,h=>by
  have hr:=B38.round0 ns st lp m i
  have hlt:i<ns.length:=by
   rcases Nat.lt_or_ge i ns.length with h|h
   ·exact h
   ·rw[List.drop_eq_nil_of_le h]at hd;cases hd
  have hc:=List.drop_eq_getElem_cons hlt
  rw[hd]at hc
  have hx:ns[i]? =some x:=by rw[List.getElem?_eq_getElem hlt, ←(List.cons.inj hc).1]
  rw[if_pos (by simp;omega),if_pos (by omega),Int.toNat_natCast,hx]at hr
  simp only[seenM]at h
  split at h
  ·rename_i s
   simp only at hr
   split at h
   ·rename_i q hq
    simp only[hq,wrap_id (show -9223372036854775808≤(i:Int)+1 by omega) (by omega)]at hr
    exact Lp_step hr (seen_loop hn r (i+1) _ m' (List.cons.inj hc).2.symm h)
   ·cases h
  ·cases h
noncomputable def W11:Env:=W10.add 38 io0 cCheck
theorem envw11:EnvOk glS Tryz.prog W11:=envw10.fn mixed Tryz.func38 (by kernel_rfl) fun β args k r hr=>by
 unfold cCheck at hr
 have hbig:big=34359738368:=rfl
 split at hr
 ·rename_i ns st lp
  obtain⟨⟨h0,h1⟩,hr⟩:=chkK_ok hr
  rw[hbig]at h0 h1
  cases hc:checkS Tryz.prog ns st lp with
  |none=>rw[hc]at hr;cases hr
  |some b=>
   have key:∀{γ:Type} (q:List TV→List TV→Option γ),evalF Tryz.prog W10 Tryz.f38 [.d true 0 (.sl 0 ns),.d true 3 (.ag [.sl 0 st,.sl 0 lp])] q=match b with
     |true=>q [.d false 0 .nili] []
     |false=>q [.d false 0 (.ifc 84 (.int .i64 1))] []:=by
    intro γ q
    unfold checkS at hc
    cases hm:seenM Tryz.prog ns []with
    |none=>rw[hm]at hc;cases hc
    |some m=>
     rw[hm]at hc
     simp only at hc
     have hl:Lp B38.L0 (B38.s0 ns st lp [] 0)=_:=seen_loop (st:=st) (lp:=lp) h0 ns 0 [] m rfl hm
     rw[B38.start,goLp_of hl,B38.behind0x0,if_pos h1]
     by_cases c1:ns.length>6
     ·rw[if_pos c1]at hc;cases hc
      rw[if_pos (by simp;omega)]
     ·rw[if_neg c1]at hc
      rw[if_neg (by simp;omega)]
      by_cases c2:m.length≠ns.length
      ·rw[if_pos c2]at hc;cases hc
       rw[if_pos (by simp;omega)]
      ·rw[if_neg c2]at hc
       rw[if_neg (by simp;omega)]
       by_cases c3:lp.length=0
       ·rw[if_pos c3]at hc;cases hc
        rw[if_pos (by simpa using c3)]
       ·rw[if_neg c3]at hc
        rw[if_neg (by simpa using c3)]
        by_cases c4:(st++lp).length>64
        ·rw[if_pos c4]at hc;cases hc
         rw[if_pos (by simp at c4 ⊢;omega)]
        ·rw[if_neg c4]at hc
         rw[if_neg (by simp at c4 ⊢;omega),if_pos (by rw[List.length_append];exact h1)]
         cases hb:anyBad ns.length (st++lp)with
         |none=>rw[hb]at hc;cases hc
         |some v=>
          rw[hb]at hc
          cases hc
          cases v<;>rfl
   rw[hc]at hr
   cases b with
   |true=>exact⟨_,_,hr,fun q=>key q⟩
   |false=>exact⟨_,_,hr,fun q=>key q⟩
 ·cases hr
end Go.Sd

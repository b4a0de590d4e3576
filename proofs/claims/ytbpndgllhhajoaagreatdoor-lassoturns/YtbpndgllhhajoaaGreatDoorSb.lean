/- Made by a program of the session's own (tools/gen_scan.py): what functions come to, segment by segment. -/
import Derived.Test.YtbpndgllhhajoaaGreatDoorSa
set_option linter.unusedVariables false
set_option linter.unusedSimpArgs false
namespace Go.Sd
open Go Go.Cm Go.Proofs Go.Sc
set_option maxRecDepth 100000
namespace F51
theorem start {β:Type} (s:ByteArray) (c:Int) (k:List TV→List TV→Option β):evalF Tryz.prog E0 Tryz.f139 [.d true 0 (.str s),.d true 0 (.int .u8 c)] k=k [.d false 0 (.int .i64 (idxS s c))] []:=by kernel_rfl
end F51
namespace F46
theorem start {β:Type} (s:ByteArray) (c:Int) (k:List TV→List TV→Option β):evalF Tryz.prog E1 Tryz.f137 [.d true 0 (.str s),.d true 0 (.int .u8 c)] k=k [.d false 0 (.int .i64 (idxS s c))] []:=by kernel_rfl
end F46
namespace F44
theorem start {β:Type} (s:ByteArray) (p:ByteArray) (k:List TV→List TV→Option β):evalF Tryz.prog E2 Tryz.f135 [.d true 0 (.str s),.d true 0 (.str p)] k=if decide ((↑(ByteArray.size s):Int)≥(↑(ByteArray.size p):Int))=true then if(0:Int)≤(↑(ByteArray.size p):Int)∧(↑(ByteArray.size p):Int)≤(↑(ByteArray.size s):Int)∧(0:Int)≤0∧(0:Int)≤(↑(ByteArray.size p):Int)then k [.d false 0 (.bool (ByteArray.toList (ByteArray.extract s 0 (Int.toNat (↑(ByteArray.size p):Int)))==p.toList))] []else none else k [.d false 0 (.bool false)] []:=by kernel_rfl
end F44
namespace F31
theorem start {β:Type} (s:ByteArray) (p:ByteArray) (k:List TV→List TV→Option β):evalF Tryz.prog E3 Tryz.f124 [.d true 0 (.str s),.d true 0 (.str p)] k=k [.d false 0 (.bool (hasP s p))] []:=by kernel_rfl
end F31
namespace F50
theorem start {β:Type} (s:ByteArray) (p:ByteArray) (k:List TV→List TV→Option β):evalF Tryz.prog E4 Tryz.f138 [.d true 0 (.str s),.d true 0 (.str p)] k=if((↑(ByteArray.size p):Int)==0)=true then k [.d false 0 (.int .i64 0)] []else if(p.toList==s.toList)=true then k [.d false 0 (.int .i64 0)] []else if((↑(ByteArray.size p):Int)==1)=true then match p[0]? with
   |some c10=>k [.d false 0 (.int .i64 (idxS s (↑(UInt8.toNat c10):Int)))] []
   |none=>none else if decide ((↑(ByteArray.size p):Int)≥(↑(ByteArray.size s):Int))=true then k [.d false 0 (.int .i64 (-1:Int))] []else none:=by kernel_rfl
end F50
namespace F45
theorem start {β:Type} (s:ByteArray) (p:ByteArray) (k:List TV→List TV→Option β):evalF Tryz.prog E5 Tryz.f136 [.d true 0 (.str s),.d true 0 (.str p)] k=match p.toList with
   |[c2]=>if decide (indexS s c2≥0)=true then if 0≤indexS s c2∧indexS s c2≤(↑(ByteArray.size s):Int)∧(0:Int)≤0∧0≤indexS s c2 then if(0:Int)≤(↑(ByteArray.size s):Int)∧(↑(ByteArray.size s):Int)≤(↑(ByteArray.size s):Int)∧0≤IntKind.wrap .i64 (indexS s c2+(↑(ByteArray.size p):Int))∧IntKind.wrap .i64 (indexS s c2+(↑(ByteArray.size p):Int))≤(↑(ByteArray.size s):Int)then k [.d false 0 (.str (ByteArray.extract s 0 (Int.toNat (indexS s c2)))),.d false 0 (.str (ByteArray.extract s (Int.toNat (IntKind.wrap .i64 (indexS s c2+(↑(ByteArray.size p):Int)))) (Int.toNat (↑(ByteArray.size s):Int)))),.d false 0 (.bool true)] []else none else none else k [.d false 0 (.str s),.d false 0 (.str (ByteArray.mk #[])),.d false 0 (.bool false)] []
   |x=>none:=by kernel_rfl
end F45
namespace F32
theorem start {β:Type} (s:ByteArray) (p:ByteArray) (k:List TV→List TV→Option β):evalF Tryz.prog E6 Tryz.f125 [.d true 0 (.str s),.d true 0 (.str p)] k=match p.toList with
   |[c2]=>if small s then match Nat.ble (ByteArray.size s) (Int.toNat (indexS s c2))||decide (indexS s c2<0)with
    |true=>k [.d false 0 (.str s),.d false 0 (.str (ByteArray.mk #[])),.d false 0 (.bool false)] []
    |false=>k [.d false 0 (.str (ByteArray.extract s 0 (Int.toNat (indexS s c2)))),.d false 0 (.str (ByteArray.extract s (Int.toNat (indexS s c2)+1) (ByteArray.size s))),.d false 0 (.bool true)] []else none
   |x=>none:=by kernel_rfl
end F32
namespace F33
theorem start {β:Type} (c:Int) (k:List TV→List TV→Option β):evalF Tryz.prog E7 Tryz.f126 [.d true 0 (.int .u8 c)] k=if decide (c≥97)=true then if decide (c≤122)=true then k [.d false 0 (.int .i64 1)] []else if decide (c≥65)=true then if decide (c≤90)=true then k [.d false 0 (.int .i64 1)] []else if(c==95)=true then k [.d false 0 (.int .i64 1)] []else if decide (c≥48)=true then if decide (c≤57)=true then k [.d false 0 (.int .i64 2)] []else if(c==34)=true then k [.d false 0 (.int .i64 3)] []else if decide (idxS (ByteArray.mk #[45,60,62,33,61,46,91,93,40,41,58,59,44,43,42,38,124,63,39]) c≥0)=true then k [.d false 0 (.int .i64 4)] []else k [.d false 0 (.int .i64 (-1:Int))] []else if(c==34)=true then k [.d false 0 (.int .i64 3)] []else if decide (idxS (ByteArray.mk #[45,60,62,33,61,46,91,93,40,41,58,59,44,43,42,38,124,63,39]) c≥0)=true then k [.d false 0 (.int .i64 4)] []else k [.d false 0 (.int .i64 (-1:Int))] []else if(c==95)=true then k [.d false 0 (.int .i64 1)] []else if decide (c≥48)=true then if decide (c≤57)=true then k [.d false 0 (.int .i64 2)] []else if(c==34)=true then k [.d false 0 (.int .i64 3)] []else if decide (idxS (ByteArray.mk #[45,60,62,33,61,46,91,93,40,41,58,59,44,43,42,38,124,63,39]) c≥0)=true then k [.d false 0 (.int .i64 4)] []else k [.d false 0 (.int .i64 (-1:Int))] []else if(c==34)=true then k [.d false 0 (.int .i64 3)] []else if decide (idxS (ByteArray.mk #[45,60,62,33,61,46,91,93,40,41,58,59,44,43,42,38,124,63,39]) c≥0)=true then k [.d false 0 (.int .i64 4)] []else k [.d false 0 (.int .i64 (-1:Int))] []else if decide (c≥65)=true then if decide (c≤90)=true then k [.d false 0 (.int .i64 1)] []else if(c==95)=true then k [.d false 0 (.int .i64 1)] []else if decide (c≥48)=true then if decide (c≤57)=true then k [.d false 0 (.int .i64 2)] []else if(c==34)=true then k [.d false 0 (.int .i64 3)] []else if decide (idxS (ByteArray.mk #[45,60,62,33,61,46,91,93,40,41,58,59,44,43,42,38,124,63,39]) c≥0)=true then k [.d false 0 (.int .i64 4)] []else k [.d false 0 (.int .i64 (-1:Int))] []else if(c==34)=true then k [.d false 0 (.int .i64 3)] []else if decide (idxS (ByteArray.mk #[45,60,62,33,61,46,91,93,40,41,58,59,44,43,42,38,124,63,39]) c≥0)=true then k [.d false 0 (.int .i64 4)] []else k [.d false 0 (.int .i64 (-1:Int))] []else if(c==95)=true then k [.d false 0 (.int .i64 1)] []else if decide (c≥48)=true then if decide (c≤57)=true then k [.d false 0 (.int .i64 2)] []else if(c==34)=true then k [.d false 0 (.int .i64 3)] []else if decide (idxS (ByteArray.mk #[45,60,62,33,61,46,91,93,40,41,58,59,44,43,42,38,124,63,39]) c≥0)=true then k [.d false 0 (.int .i64 4)] []else k [.d false 0 (.int .i64 (-1:Int))] []else if(c==34)=true then k [.d false 0 (.int .i64 3)] []else if decide (idxS (ByteArray.mk #[45,60,62,33,61,46,91,93,40,41,58,59,44,43,42,38,124,63,39]) c≥0)=true then k [.d false 0 (.int .i64 4)] []else k [.d false 0 (.int .i64 (-1:Int))] []:=by kernel_rfl
end F33
namespace F35
theorem start {β:Type} (c:Int) (k:List TV→List TV→Option β):evalF Tryz.prog E8 Tryz.f128 [.d true 0 (.int .i64 c)] k=if(c==1)=true then k [.d false 0 (.bool true)] []else k [.d false 0 (.bool (c==2))] []:=by kernel_rfl
end F35
namespace F36
theorem start {β:Type} (c:Int) (k:List TV→List TV→Option β):evalF Tryz.prog E8b Tryz.f129 [.d true 0 (.int .i64 c)] k=k [.d false 0 (.bool (c==2))] []:=by kernel_rfl
end F36
namespace F34a
noncomputable def X:Fx:=⟨Tryz.prog,E9,64,3⟩
def s0 (s:ByteArray) (a:Int) (x9:Int):S:=⟨Tm.mk 27 [(0,.d true 0 (.str s)),(1,.d true 0 (.int .i64 a)),(2,.d true 0 (.fn 128 [])),(7,.d false 0 (.int .i64 x9))],[]⟩
def e0x0 (x20:Int):S:=⟨Tm.mk 27 [(7,.d false 0 (.int .i64 x20))],[]⟩
noncomputable abbrev L0:S→Option (S ⊕ (Ex×S)):=roundK X [(0,128)] (sub [1,1,0,0,0] (body Tryz.f127))
theorem start {β:Type} (s:ByteArray) (a:Int) (k:List TV→List TV→Option β):evalF Tryz.prog E9 Tryz.f127 [.d true 0 (.str s),.d true 0 (.int .i64 a),.d true 0 (.fn (128:FuncId) [])] k=goLp X [(0,128)] (sub [1,1,0,0,0] (body Tryz.f127)) [Kf.block 0 128,Kf.seq [] (sub [1,1,1] (body Tryz.f127)) 64] (finK Tryz.prog Tryz.f127 [.d true 0 (.str s),.d true 0 (.int .i64 a),.d true 0 (.fn (128:FuncId) [])] k) (s0 s a (0:Int)):=by kernel_rfl
theorem round0 (s:ByteArray) (a:Int) (x9:Int):roundK X [(0,128)] (sub [1,1,0,0,0] (body Tryz.f127)) (s0 s a x9)=if decide (IntKind.wrap .i64 (a+x9)<(↑(ByteArray.size s):Int))=true then if 0≤IntKind.wrap .i64 (a+x9)then match s[Int.toNat (IntKind.wrap .i64 (a+x9))]? with
   |some c25=>if(0:Int)≤(↑(UInt8.toNat c25):Int)∧(↑(UInt8.toNat c25):Int)<256 then if may1 (kindI (↑(UInt8.toNat c25):Int))=true then some (Sum.inl (s0 s a (IntKind.wrap .i64 (x9+1))))else some (Sum.inr (Ex.exit 0,e0x0 x9))else none
   |none=>none else none else some (Sum.inr (Ex.exit 0,e0x0 x9)):=by kernel_rfl
theorem behind0x0 {β:Type} (s:ByteArray) (a:Int) (x20:Int) (k:List TV→List TV→Option β):applyK X (finK Tryz.prog Tryz.f127 [.d true 0 (.str s),.d true 0 (.int .i64 a),.d true 0 (.fn (128:FuncId) [])] k) [Kf.block 0 128,Kf.seq [] (sub [1,1,1] (body Tryz.f127)) 64] (Ex.exit 0) (e0x0 x20)=k [.d false 0 (.int .i64 x20)] []:=by kernel_rfl
end F34a
namespace F34b
noncomputable def X:Fx:=⟨Tryz.prog,E9,64,3⟩
def s0 (s:ByteArray) (a:Int) (x9:Int):S:=⟨Tm.mk 27 [(0,.d true 0 (.str s)),(1,.d true 0 (.int .i64 a)),(2,.d true 0 (.fn 129 [])),(7,.d false 0 (.int .i64 x9))],[]⟩
def e0x0 (x20:Int):S:=⟨Tm.mk 27 [(7,.d false 0 (.int .i64 x20))],[]⟩
noncomputable abbrev L0:S→Option (S ⊕ (Ex×S)):=roundK X [(0,128)] (sub [1,1,0,0,0] (body Tryz.f127))
theorem start {β:Type} (s:ByteArray) (a:Int) (k:List TV→List TV→Option β):evalF Tryz.prog E9 Tryz.f127 [.d true 0 (.str s),.d true 0 (.int .i64 a),.d true 0 (.fn (129:FuncId) [])] k=goLp X [(0,128)] (sub [1,1,0,0,0] (body Tryz.f127)) [Kf.block 0 128,Kf.seq [] (sub [1,1,1] (body Tryz.f127)) 64] (finK Tryz.prog Tryz.f127 [.d true 0 (.str s),.d true 0 (.int .i64 a),.d true 0 (.fn (129:FuncId) [])] k) (s0 s a (0:Int)):=by kernel_rfl
theorem round0 (s:ByteArray) (a:Int) (x9:Int):roundK X [(0,128)] (sub [1,1,0,0,0] (body Tryz.f127)) (s0 s a x9)=if decide (IntKind.wrap .i64 (a+x9)<(↑(ByteArray.size s):Int))=true then if 0≤IntKind.wrap .i64 (a+x9)then match s[Int.toNat (IntKind.wrap .i64 (a+x9))]? with
   |some c25=>if(0:Int)≤(↑(UInt8.toNat c25):Int)∧(↑(UInt8.toNat c25):Int)<256 then if may2 (kindI (↑(UInt8.toNat c25):Int))=true then some (Sum.inl (s0 s a (IntKind.wrap .i64 (x9+1))))else some (Sum.inr (Ex.exit 0,e0x0 x9))else none
   |none=>none else none else some (Sum.inr (Ex.exit 0,e0x0 x9)):=by kernel_rfl
theorem behind0x0 {β:Type} (s:ByteArray) (a:Int) (x20:Int) (k:List TV→List TV→Option β):applyK X (finK Tryz.prog Tryz.f127 [.d true 0 (.str s),.d true 0 (.int .i64 a),.d true 0 (.fn (129:FuncId) [])] k) [Kf.block 0 128,Kf.seq [] (sub [1,1,1] (body Tryz.f127)) 64] (Ex.exit 0) (e0x0 x20)=k [.d false 0 (.int .i64 x20)] []:=by kernel_rfl
end F34b
namespace F30
noncomputable def X:Fx:=⟨Tryz.prog,E10,12,1⟩
def s0 (s:ByteArray) (x15:Int) (x16:Int):S:=⟨Tm.mk 28 [(0,.d true 0 (.str s)),(4,.d false 0 (.int .i64 x15)),(8,.d false 0 (.int .i64 (↑(ByteArray.size s):Int))),(9,.d false 0 (.int .i64 x16))],[]⟩
def e0r:S:=⟨Tm.mk 28 [(2,.d false 0 (.int .i64 0)),(3,.d false 0 (.bool false))],[]⟩
def e0x0 (x33:Int):S:=⟨Tm.mk 28 [(4,.d false 0 (.int .i64 x33))],[]⟩
noncomputable abbrev L0:S→Option (S ⊕ (Ex×S)):=roundK X [(0,16)] (sub [1,1,0,1,0,0] (body Tryz.f130))
theorem start {β:Type} (s:ByteArray) (k:List TV→List TV→Option β):evalF Tryz.prog E10 Tryz.f130 [.d true 0 (.str s)] k=goLp X [(0,16)] (sub [1,1,0,1,0,0] (body Tryz.f130)) [Kf.block 0 16,Kf.seq [] (sub [1,1,1] (body Tryz.f130)) 12] (finK Tryz.prog Tryz.f130 [.d true 0 (.str s)] k) (s0 s (0:Int) (0:Int)):=by kernel_rfl
theorem round0 (s:ByteArray) (x15:Int) (x16:Int):roundK X [(0,16)] (sub [1,1,0,1,0,0] (body Tryz.f130)) (s0 s x15 x16)=if decide (x16<(↑(ByteArray.size s):Int))=true then if 0≤x16 then match s[x16.toNat]? with
   |some c42=>if decide (x15>IntKind.wrap .i64 (Int.tdiv (IntKind.wrap .i64 ((9223372036854775807:Int) - IntKind.wrap .i64 (IntKind.wrap IntKind.u8 ((↑(UInt8.toNat c42):Int) - 48)))) (10:Int)))=true then some (Sum.inr (Ex.ret,e0r))else some (Sum.inl (s0 s (IntKind.wrap .i64 (IntKind.wrap .i64 ((10:Int)*x15)+IntKind.wrap .i64 (IntKind.wrap IntKind.u8 ((↑(UInt8.toNat c42):Int) - 48)))) (IntKind.wrap .i64 (x16+1))))
   |none=>none else none else some (Sum.inr (Ex.exit 0,e0x0 x15)):=by kernel_rfl
theorem behind0r {β:Type} (s:ByteArray) (k:List TV→List TV→Option β):applyK X (finK Tryz.prog Tryz.f130 [.d true 0 (.str s)] k) [Kf.block 0 16,Kf.seq [] (sub [1,1,1] (body Tryz.f130)) 12] Ex.ret e0r=k [.d false 0 (.int .i64 0),.d false 0 (.bool false)] []:=by kernel_rfl
theorem behind0x0 {β:Type} (s:ByteArray) (x33:Int) (k:List TV→List TV→Option β):applyK X (finK Tryz.prog Tryz.f130 [.d true 0 (.str s)] k) [Kf.block 0 16,Kf.seq [] (sub [1,1,1] (body Tryz.f130)) 12] (Ex.exit 0) (e0x0 x33)=k [.d false 0 (.int .i64 x33),.d false 0 (.bool true)] []:=by kernel_rfl
end F30
namespace F38
noncomputable def X:Fx:=⟨Tryz.prog,E11,4,1⟩
def s0 (s:ByteArray) (x22:Int):S:=⟨Tm.mk 31 [(0,.d true 0 (.str s)),(3,.d false 0 (.int .i64 (idxS (ByteArray.extract s 1 (Int.toNat (↑(ByteArray.size s):Int))) (34:Int)))),(4,.d false 0 (.int .i64 x22))],[]⟩
def e0r:S:=⟨Tm.mk 31 [(2,.d false 0 (.int .i64 0))],[]⟩
def e0x0 (s:ByteArray):S:=⟨Tm.mk 31 [(3,.d false 0 (.int .i64 (idxS (ByteArray.extract s 1 (Int.toNat (↑(ByteArray.size s):Int))) (34:Int))))],[]⟩
noncomputable abbrev L0:S→Option (S ⊕ (Ex×S)):=roundK X [(0,8)] (sub [1,1,1,0,1,0,0] (body Tryz.f132))
theorem start {β:Type} (s:ByteArray) (k:List TV→List TV→Option β):evalF Tryz.prog E11 Tryz.f132 [.d true 0 (.str s)] k=if(0:Int)≤(↑(ByteArray.size s):Int)∧(↑(ByteArray.size s):Int)≤(↑(ByteArray.size s):Int)∧(0:Int)≤1∧(1:Int)≤(↑(ByteArray.size s):Int)then if decide (idxS (ByteArray.extract s 1 (Int.toNat (↑(ByteArray.size s):Int))) (34:Int)<1)=true then k [.d false 0 (.int .i64 0)] []else if decide (idxS (ByteArray.extract s 1 (Int.toNat (↑(ByteArray.size s):Int))) (34:Int)>32)=true then k [.d false 0 (.int .i64 0)] []else goLp X [(0,8)] (sub [1,1,1,0,1,0,0] (body Tryz.f132)) [Kf.block 0 8,Kf.seq [] (sub [1,1,1,1] (body Tryz.f132)) 4] (finK Tryz.prog Tryz.f132 [.d true 0 (.str s)] k) (s0 s (1:Int))else none:=by kernel_rfl
theorem round0 (s:ByteArray) (x22:Int):roundK X [(0,8)] (sub [1,1,1,0,1,0,0] (body Tryz.f132)) (s0 s x22)=if decide (x22≤idxS (ByteArray.extract s 1 (Int.toNat (↑(ByteArray.size s):Int))) (34:Int))=true then if 0≤x22 then match s[x22.toNat]? with
   |some c35=>if decide ((↑(UInt8.toNat c35):Int)<32)=true then some (Sum.inr (Ex.ret,e0r))else if 0≤x22 then match s[x22.toNat]? with
    |some c38=>if decide ((↑(UInt8.toNat c38):Int)>126)=true then some (Sum.inr (Ex.ret,e0r))else some (Sum.inl (s0 s (IntKind.wrap .i64 (x22+1))))
    |none=>none else none
   |none=>none else none else some (Sum.inr (Ex.exit 0,e0x0 s)):=by kernel_rfl
theorem behind0r {β:Type} (s:ByteArray) (k:List TV→List TV→Option β):applyK X (finK Tryz.prog Tryz.f132 [.d true 0 (.str s)] k) [Kf.block 0 8,Kf.seq [] (sub [1,1,1,1] (body Tryz.f132)) 4] Ex.ret e0r=k [.d false 0 (.int .i64 0)] []:=by kernel_rfl
theorem behind0x0 {β:Type} (s:ByteArray) (k:List TV→List TV→Option β):applyK X (finK Tryz.prog Tryz.f132 [.d true 0 (.str s)] k) [Kf.block 0 8,Kf.seq [] (sub [1,1,1,1] (body Tryz.f132)) 4] (Ex.exit 0) (e0x0 s)=k [.d false 0 (.int .i64 (IntKind.wrap .i64 (idxS (ByteArray.extract s 1 (Int.toNat (↑(ByteArray.size s):Int))) (34:Int)+2)))] []:=by kernel_rfl
end F38
namespace F39
noncomputable def X:Fx:=⟨Tryz.prog,E12,4,1⟩
def s0 (s:ByteArray) (x9:Int):S:=⟨Tm.mk 18 [(0,.d true 0 (.str s)),(5,.ag [.d false 0 (.str (ByteArray.mk #[45,62])),.d false 0 (.str (ByteArray.mk #[60,61])),.d false 0 (.str (ByteArray.mk #[62,61])),.d false 0 (.str (ByteArray.mk #[33,61])),.d false 0 (.str (ByteArray.mk #[61,62])),.d false 0 (.str (ByteArray.mk #[46,46]))]),(6,.d false 0 (.int .i64 x9))],[]⟩
def e0r:S:=⟨Tm.mk 18 [(2,.d false 0 (.int .i64 2))],[]⟩
def e0x0 (s:ByteArray):S:=⟨Tm.mk 18 [(0,.d true 0 (.str s))],[]⟩
noncomputable abbrev L0:S→Option (S ⊕ (Ex×S)):=roundK X [(0,1)] (sub [1,0,1,0,0] (body Tryz.f133))
theorem start {β:Type} (s:ByteArray) (k:List TV→List TV→Option β):evalF Tryz.prog E12 Tryz.f133 [.d true 0 (.str s)] k=goLp X [(0,1)] (sub [1,0,1,0,0] (body Tryz.f133)) [Kf.block 0 1,Kf.seq [] (sub [1,1] (body Tryz.f133)) 4] (finK Tryz.prog Tryz.f133 [.d true 0 (.str s)] k) (s0 s (0:Int)):=by kernel_rfl
theorem round0_0 (s:ByteArray):roundK X [(0,1)] (sub [1,0,1,0,0] (body Tryz.f133)) (s0 s (0:Int))=if hasP s (ByteArray.mk #[45,62])=true then some (Sum.inr (Ex.ret,e0r))else some (Sum.inl (s0 s (1:Int))):=by kernel_rfl
theorem round0_1 (s:ByteArray):roundK X [(0,1)] (sub [1,0,1,0,0] (body Tryz.f133)) (s0 s (1:Int))=if hasP s (ByteArray.mk #[60,61])=true then some (Sum.inr (Ex.ret,e0r))else some (Sum.inl (s0 s (2:Int))):=by kernel_rfl
theorem round0_2 (s:ByteArray):roundK X [(0,1)] (sub [1,0,1,0,0] (body Tryz.f133)) (s0 s (2:Int))=if hasP s (ByteArray.mk #[62,61])=true then some (Sum.inr (Ex.ret,e0r))else some (Sum.inl (s0 s (3:Int))):=by kernel_rfl
theorem round0_3 (s:ByteArray):roundK X [(0,1)] (sub [1,0,1,0,0] (body Tryz.f133)) (s0 s (3:Int))=if hasP s (ByteArray.mk #[33,61])=true then some (Sum.inr (Ex.ret,e0r))else some (Sum.inl (s0 s (4:Int))):=by kernel_rfl
theorem round0_4 (s:ByteArray):roundK X [(0,1)] (sub [1,0,1,0,0] (body Tryz.f133)) (s0 s (4:Int))=if hasP s (ByteArray.mk #[61,62])=true then some (Sum.inr (Ex.ret,e0r))else some (Sum.inl (s0 s (5:Int))):=by kernel_rfl
theorem round0_5 (s:ByteArray):roundK X [(0,1)] (sub [1,0,1,0,0] (body Tryz.f133)) (s0 s (5:Int))=if hasP s (ByteArray.mk #[46,46])=true then some (Sum.inr (Ex.ret,e0r))else some (Sum.inl (s0 s (6:Int))):=by kernel_rfl
theorem round0_6 (s:ByteArray):roundK X [(0,1)] (sub [1,0,1,0,0] (body Tryz.f133)) (s0 s (6:Int))=some (Sum.inr (Ex.exit 0,e0x0 s)):=by kernel_rfl
theorem behind0r {β:Type} (s:ByteArray) (k:List TV→List TV→Option β):applyK X (finK Tryz.prog Tryz.f133 [.d true 0 (.str s)] k) [Kf.block 0 1,Kf.seq [] (sub [1,1] (body Tryz.f133)) 4] Ex.ret e0r=k [.d false 0 (.int .i64 2)] []:=by kernel_rfl
theorem behind0x0 {β:Type} (s:ByteArray) (k:List TV→List TV→Option β):applyK X (finK Tryz.prog Tryz.f133 [.d true 0 (.str s)] k) [Kf.block 0 1,Kf.seq [] (sub [1,1] (body Tryz.f133)) 4] (Ex.exit 0) (e0x0 s)=match s[0]? with
   |some c99=>if((↑(UInt8.toNat c99):Int)==46)=true then k [.d false 0 (.int .i64 0)] []else k [.d false 0 (.int .i64 1)] []
   |none=>none:=by kernel_rfl
end F39
namespace F23
noncomputable def X:Fx:=⟨Tryz.prog,E13,16,2⟩
def s0 (s:ByteArray) (a:Int) (x35:Bool) (x36:Int):S:=⟨Tm.mk 53 [(0,.d true 0 (.str s)),(1,.d true 0 (.int .i64 a)),(5,.d x35 0 (.int .i64 x36))],[]⟩
def e0x0 (a:Int) (x74:Bool) (x75:Int):S:=⟨Tm.mk 53 [(1,.d true 0 (.int .i64 a)),(5,.d x74 0 (.int .i64 x75))],[]⟩
def j0 (s:ByteArray) (a:Int) (x22:Bool) (x54:Bool) (x55:Int):S:=⟨Tm.mk 53 [(0,.d true 0 (.str s)),(1,.d true 0 (.int .i64 a)),(5,.d x54 0 (.int .i64 x55)),(14,.d false 0 (.bool x22))],[]⟩
noncomputable abbrev L0:S→Option (S ⊕ (Ex×S)):=roundK X [(0,34)] (sub [1,1,0,0,0] (body Tryz.f115))
theorem start {β:Type} (s:ByteArray) (a:Int) (k:List TV→List TV→Option β):evalF Tryz.prog E13 Tryz.f115 [.d true 0 (.str s),.d true 0 (.int .i64 a)] k=goLp X [(0,34)] (sub [1,1,0,0,0] (body Tryz.f115)) [Kf.block 0 34,Kf.seq [] (sub [1,1,1] (body Tryz.f115)) 16] (finK Tryz.prog Tryz.f115 [.d true 0 (.str s),.d true 0 (.int .i64 a)] k) (s0 s a true a):=by kernel_rfl
theorem round0 (s:ByteArray) (a:Int) (x35:Bool) (x36:Int):roundK X [(0,34)] (sub [1,1,0,0,0] (body Tryz.f115)) (s0 s a x35 x36)=if decide (x36<(↑(ByteArray.size s):Int))=true then if 0≤x36 then match s[x36.toNat]? with
   |some c91=>if((↑(UInt8.toNat c91):Int)==32)=true then applyK X (finR X [(0,34)] (sub [1,1,0,0,0] (body Tryz.f115))) [Kf.seq [(2,34),(1,35),(0,34)] (sub [1,1,0,0,0,1,0,0,0,1] (body Tryz.f115)) 34,Kf.block 2 34,Kf.seq [(1,35),(0,34)] (sub [1,1,0,0,0,1,0,1] (body Tryz.f115)) 35,Kf.block 1 35] Ex.norm (j0 s a ((↑(UInt8.toNat c91):Int)==32) x35 x36)else if 0≤x36 then match s[x36.toNat]? with
    |some c94=>if((↑(UInt8.toNat c94):Int)==9)=true then applyK X (finR X [(0,34)] (sub [1,1,0,0,0] (body Tryz.f115))) [Kf.seq [(2,34),(1,35),(0,34)] (sub [1,1,0,0,0,1,0,0,0,1] (body Tryz.f115)) 34,Kf.block 2 34,Kf.seq [(1,35),(0,34)] (sub [1,1,0,0,0,1,0,1] (body Tryz.f115)) 35,Kf.block 1 35] Ex.norm (j0 s a ((↑(UInt8.toNat c94):Int)==9) x35 x36)else if 0≤x36 then match s[x36.toNat]? with
     |some c97=>if((↑(UInt8.toNat c97):Int)==10)=true then applyK X (finR X [(0,34)] (sub [1,1,0,0,0] (body Tryz.f115))) [Kf.seq [(2,34),(1,35),(0,34)] (sub [1,1,0,0,0,1,0,0,0,1] (body Tryz.f115)) 34,Kf.block 2 34,Kf.seq [(1,35),(0,34)] (sub [1,1,0,0,0,1,0,1] (body Tryz.f115)) 35,Kf.block 1 35] Ex.norm (j0 s a ((↑(UInt8.toNat c97):Int)==10) x35 x36)else if 0≤x36 then match s[x36.toNat]? with
      |some c100=>applyK X (finR X [(0,34)] (sub [1,1,0,0,0] (body Tryz.f115))) [Kf.seq [(2,34),(1,35),(0,34)] (sub [1,1,0,0,0,1,0,0,0,1] (body Tryz.f115)) 34,Kf.block 2 34,Kf.seq [(1,35),(0,34)] (sub [1,1,0,0,0,1,0,1] (body Tryz.f115)) 35,Kf.block 1 35] Ex.norm (j0 s a ((↑(UInt8.toNat c100):Int)==13) x35 x36)
      |none=>none else none
     |none=>none else none
    |none=>none else none
   |none=>none else none else some (Sum.inr (Ex.exit 0,e0x0 a x35 x36)):=by kernel_rfl
theorem behind0x0 {β:Type} (s:ByteArray) (a:Int) (x74:Bool) (x75:Int) (k:List TV→List TV→Option β):applyK X (finK Tryz.prog Tryz.f115 [.d true 0 (.str s),.d true 0 (.int .i64 a)] k) [Kf.block 0 34,Kf.seq [] (sub [1,1,1] (body Tryz.f115)) 16] (Ex.exit 0) (e0x0 a x74 x75)=k [.d false 0 (.int .i64 (IntKind.wrap .i64 (x75 - a)))] []:=by kernel_rfl
theorem j0_eq (s:ByteArray) (a:Int) (x22:Bool) (x54:Bool) (x55:Int):applyK X (finR X [(0,34)] (sub [1,1,0,0,0] (body Tryz.f115))) [Kf.seq [(2,34),(1,35),(0,34)] (sub [1,1,0,0,0,1,0,0,0,1] (body Tryz.f115)) 34,Kf.block 2 34,Kf.seq [(1,35),(0,34)] (sub [1,1,0,0,0,1,0,1] (body Tryz.f115)) 35,Kf.block 1 35] Ex.norm (j0 s a x22 x54 x55)=if x22=true then some (Sum.inl (s0 s a false (IntKind.wrap .i64 (x55+1))))else if(0:Int)≤(↑(ByteArray.size s):Int)∧(↑(ByteArray.size s):Int)≤(↑(ByteArray.size s):Int)∧0≤x55∧x55≤(↑(ByteArray.size s):Int)then if hasP (ByteArray.extract s x55.toNat (Int.toNat (↑(ByteArray.size s):Int))) (ByteArray.mk #[47,47])=true then if(0:Int)≤(↑(ByteArray.size s):Int)∧(↑(ByteArray.size s):Int)≤(↑(ByteArray.size s):Int)∧0≤x55∧x55≤(↑(ByteArray.size s):Int)then if small (ByteArray.extract s x55.toNat (Int.toNat (↑(ByteArray.size s):Int)))then match Nat.ble (ByteArray.size (ByteArray.extract s x55.toNat (Int.toNat (↑(ByteArray.size s):Int)))) (Int.toNat (indexS (ByteArray.extract s x55.toNat (Int.toNat (↑(ByteArray.size s):Int))) (UInt8.ofNat (nat_lit 10))))||decide (indexS (ByteArray.extract s x55.toNat (Int.toNat (↑(ByteArray.size s):Int))) (UInt8.ofNat (nat_lit 10))<0)with
   |true=>some (Sum.inl (s0 s a false (IntKind.wrap .i64 (x55+(↑(ByteArray.size (ByteArray.extract s x55.toNat (Int.toNat (↑(ByteArray.size s):Int)))):Int)))))
   |false=>some (Sum.inl (s0 s a false (IntKind.wrap .i64 (x55+(↑(ByteArray.size (ByteArray.extract (ByteArray.extract s x55.toNat (Int.toNat (↑(ByteArray.size s):Int))) 0 (Int.toNat (indexS (ByteArray.extract s x55.toNat (Int.toNat (↑(ByteArray.size s):Int))) (UInt8.ofNat (nat_lit 10)))))):Int)))))else none else none else some (Sum.inr (Ex.exit 0,e0x0 a x54 x55))else none:=by kernel_rfl
end F23
namespace F37
theorem start {β:Type} (p:Int) (n:Int) (k:List TV→List TV→Option β):evalF Tryz.prog E14 Tryz.f131 [.d true 0 (.int .i64 p),.d true 0 (.ifc (84:TypeId) (.int .i64 n))] k=k [.d true 0 (.ifc 114 (.pt 3 (.ag [D.int .i64 p,D.ifc 84 (.int .i64 n)])))] []:=by kernel_rfl
end F37
namespace F24
theorem start {β:Type} (s:ByteArray) (a:Int) (k:List TV→List TV→Option β):evalF Tryz.prog E15 Tryz.f116 [.d true 0 (.str s),.d true 0 (.int .i64 a)] k=if 0≤a then match s[a.toNat]? with
   |some c2=>if(0:Int)≤(↑(UInt8.toNat c2):Int)∧(↑(UInt8.toNat c2):Int)<256 then if(kindI (↑(UInt8.toNat c2):Int)==1)=true then if inS s a then if((↑(runL may1 (List.drop a.toNat s.toList)):Int)==0)=true then k [.d false 4 (.ag [D.int .i64 0,D.str (ByteArray.mk #[]),D.int .i64 0]),.d false 0 (.int .i64 0),.d false 0 (.ifc 114 (.pt 3 (.ag [D.int .i64 a,D.ifc 84 (.int .i64 20)])))] []else if 0≤IntKind.wrap .i64 (a+(↑(runL may1 (List.drop a.toNat s.toList)):Int))∧IntKind.wrap .i64 (a+(↑(runL may1 (List.drop a.toNat s.toList)):Int))≤(↑(ByteArray.size s):Int)∧0≤a∧a≤IntKind.wrap .i64 (a+(↑(runL may1 (List.drop a.toNat s.toList)):Int))then k [.d true 4 (.ag [D.int .i64 (kindI (↑(UInt8.toNat c2):Int)),D.str (ByteArray.extract s a.toNat (Int.toNat (IntKind.wrap .i64 (a+(↑(runL may1 (List.drop a.toNat s.toList)):Int))))),D.int .i64 a]),.d false 0 (.int .i64 (↑(runL may1 (List.drop a.toNat s.toList)):Int)),.d false 0 D.nili] []else none else none else if(kindI (↑(UInt8.toNat c2):Int)==2)=true then if inS s a then if 0≤IntKind.wrap .i64 (a+(↑(runL may2 (List.drop a.toNat s.toList)):Int))∧IntKind.wrap .i64 (a+(↑(runL may2 (List.drop a.toNat s.toList)):Int))≤(↑(ByteArray.size s):Int)∧0≤a∧a≤IntKind.wrap .i64 (a+(↑(runL may2 (List.drop a.toNat s.toList)):Int))then if small (ByteArray.extract s a.toNat (Int.toNat (IntKind.wrap .i64 (a+(↑(runL may2 (List.drop a.toNat s.toList)):Int)))))∧digitsL (ByteArray.toList (ByteArray.extract s a.toNat (Int.toNat (IntKind.wrap .i64 (a+(↑(runL may2 (List.drop a.toNat s.toList)):Int))))))then match valI (ByteArray.toList (ByteArray.extract s a.toNat (Int.toNat (IntKind.wrap .i64 (a+(↑(runL may2 (List.drop a.toNat s.toList)):Int)))))) (0:Int)with
    |some n17=>if((↑(runL may2 (List.drop a.toNat s.toList)):Int)==0)=true then k [.d false 4 (.ag [D.int .i64 0,D.str (ByteArray.mk #[]),D.int .i64 0]),.d false 0 (.int .i64 0),.d false 0 (.ifc 114 (.pt 3 (.ag [D.int .i64 a,D.ifc 84 (.int .i64 20)])))] []else if 0≤IntKind.wrap .i64 (a+(↑(runL may2 (List.drop a.toNat s.toList)):Int))∧IntKind.wrap .i64 (a+(↑(runL may2 (List.drop a.toNat s.toList)):Int))≤(↑(ByteArray.size s):Int)∧0≤a∧a≤IntKind.wrap .i64 (a+(↑(runL may2 (List.drop a.toNat s.toList)):Int))then k [.d true 4 (.ag [D.int .i64 (kindI (↑(UInt8.toNat c2):Int)),D.str (ByteArray.extract s a.toNat (Int.toNat (IntKind.wrap .i64 (a+(↑(runL may2 (List.drop a.toNat s.toList)):Int))))),D.int .i64 a]),.d false 0 (.int .i64 (↑(runL may2 (List.drop a.toNat s.toList)):Int)),.d false 0 D.nili] []else none
    |none=>k [.d false 4 (.ag [D.int .i64 0,D.str (ByteArray.mk #[]),D.int .i64 0]),.d false 0 (.int .i64 0),.d false 0 (.ifc 114 (.pt 3 (.ag [D.int .i64 a,D.ifc 84 (.int .i64 10)])))] []else none else none else none else if(kindI (↑(UInt8.toNat c2):Int)==3)=true then if(0:Int)≤(↑(ByteArray.size s):Int)∧(↑(ByteArray.size s):Int)≤(↑(ByteArray.size s):Int)∧0≤a∧a≤(↑(ByteArray.size s):Int)then if small (ByteArray.extract s a.toNat (Int.toNat (↑(ByteArray.size s):Int)))∧0<ByteArray.size (ByteArray.extract s a.toNat (Int.toNat (↑(ByteArray.size s):Int)))then if decide ((↑(quotedL (ByteArray.toList (ByteArray.extract s a.toNat (Int.toNat (↑(ByteArray.size s):Int))))):Int)>0)=true then if 0≤IntKind.wrap .i64 (IntKind.wrap .i64 (a+(↑(quotedL (ByteArray.toList (ByteArray.extract s a.toNat (Int.toNat (↑(ByteArray.size s):Int))))):Int)) - 1)∧IntKind.wrap .i64 (IntKind.wrap .i64 (a+(↑(quotedL (ByteArray.toList (ByteArray.extract s a.toNat (Int.toNat (↑(ByteArray.size s):Int))))):Int)) - 1)≤(↑(ByteArray.size s):Int)∧0≤IntKind.wrap .i64 (a+1)∧IntKind.wrap .i64 (a+1)≤IntKind.wrap .i64 (IntKind.wrap .i64 (a+(↑(quotedL (ByteArray.toList (ByteArray.extract s a.toNat (Int.toNat (↑(ByteArray.size s):Int))))):Int)) - 1)then k [.d true 4 (.ag [D.int .i64 (kindI (↑(UInt8.toNat c2):Int)),D.str (ByteArray.extract s (Int.toNat (IntKind.wrap .i64 (a+1))) (Int.toNat (IntKind.wrap .i64 (IntKind.wrap .i64 (a+(↑(quotedL (ByteArray.toList (ByteArray.extract s a.toNat (Int.toNat (↑(ByteArray.size s):Int))))):Int)) - 1)))),D.int .i64 a]),.d false 0 (.int .i64 (↑(quotedL (ByteArray.toList (ByteArray.extract s a.toNat (Int.toNat (↑(ByteArray.size s):Int))))):Int)),.d false 0 D.nili] []else none else if((↑(quotedL (ByteArray.toList (ByteArray.extract s a.toNat (Int.toNat (↑(ByteArray.size s):Int))))):Int)==0)=true then k [.d false 4 (.ag [D.int .i64 0,D.str (ByteArray.mk #[]),D.int .i64 0]),.d false 0 (.int .i64 0),.d false 0 (.ifc 114 (.pt 3 (.ag [D.int .i64 a,D.ifc 84 (.int .i64 20)])))] []else if 0≤IntKind.wrap .i64 (a+(↑(quotedL (ByteArray.toList (ByteArray.extract s a.toNat (Int.toNat (↑(ByteArray.size s):Int))))):Int))∧IntKind.wrap .i64 (a+(↑(quotedL (ByteArray.toList (ByteArray.extract s a.toNat (Int.toNat (↑(ByteArray.size s):Int))))):Int))≤(↑(ByteArray.size s):Int)∧0≤a∧a≤IntKind.wrap .i64 (a+(↑(quotedL (ByteArray.toList (ByteArray.extract s a.toNat (Int.toNat (↑(ByteArray.size s):Int))))):Int))then k [.d true 4 (.ag [D.int .i64 (kindI (↑(UInt8.toNat c2):Int)),D.str (ByteArray.extract s a.toNat (Int.toNat (IntKind.wrap .i64 (a+(↑(quotedL (ByteArray.toList (ByteArray.extract s a.toNat (Int.toNat (↑(ByteArray.size s):Int))))):Int))))),D.int .i64 a]),.d false 0 (.int .i64 (↑(quotedL (ByteArray.toList (ByteArray.extract s a.toNat (Int.toNat (↑(ByteArray.size s):Int))))):Int)),.d false 0 D.nili] []else none else none else none else if(kindI (↑(UInt8.toNat c2):Int)==4)=true then if(0:Int)≤(↑(ByteArray.size s):Int)∧(↑(ByteArray.size s):Int)≤(↑(ByteArray.size s):Int)∧0≤a∧a≤(↑(ByteArray.size s):Int)then if 0<ByteArray.size (ByteArray.extract s a.toNat (Int.toNat (↑(ByteArray.size s):Int)))then if((↑(markL (ByteArray.toList (ByteArray.extract s a.toNat (Int.toNat (↑(ByteArray.size s):Int))))):Int)==0)=true then k [.d false 4 (.ag [D.int .i64 0,D.str (ByteArray.mk #[]),D.int .i64 0]),.d false 0 (.int .i64 0),.d false 0 (.ifc 114 (.pt 3 (.ag [D.int .i64 a,D.ifc 84 (.int .i64 20)])))] []else if 0≤IntKind.wrap .i64 (a+(↑(markL (ByteArray.toList (ByteArray.extract s a.toNat (Int.toNat (↑(ByteArray.size s):Int))))):Int))∧IntKind.wrap .i64 (a+(↑(markL (ByteArray.toList (ByteArray.extract s a.toNat (Int.toNat (↑(ByteArray.size s):Int))))):Int))≤(↑(ByteArray.size s):Int)∧0≤a∧a≤IntKind.wrap .i64 (a+(↑(markL (ByteArray.toList (ByteArray.extract s a.toNat (Int.toNat (↑(ByteArray.size s):Int))))):Int))then k [.d true 4 (.ag [D.int .i64 (kindI (↑(UInt8.toNat c2):Int)),D.str (ByteArray.extract s a.toNat (Int.toNat (IntKind.wrap .i64 (a+(↑(markL (ByteArray.toList (ByteArray.extract s a.toNat (Int.toNat (↑(ByteArray.size s):Int))))):Int))))),D.int .i64 a]),.d false 0 (.int .i64 (↑(markL (ByteArray.toList (ByteArray.extract s a.toNat (Int.toNat (↑(ByteArray.size s):Int))))):Int)),.d false 0 D.nili] []else none else none else none else k [.d false 4 (.ag [D.int .i64 0,D.str (ByteArray.mk #[]),D.int .i64 0]),.d false 0 (.int .i64 0),.d false 0 (.ifc 114 (.pt 3 (.ag [D.int .i64 a,D.ifc 84 (.int .i64 20)])))] []else none
   |none=>none else none:=by kernel_rfl
end F24
namespace F10
noncomputable def X:Fx:=⟨Tryz.prog,E16,12,1⟩
def s0 (s:ByteArray) (x25:List D) (x26:Int):S:=⟨Tm.mk 47 [(0,.d true 0 (.str s)),(4,.own false 4 x25),(5,.d false 0 (.int .i64 x26))],[]⟩
def e0r (x53:Int) (x54:Int):S:=⟨Tm.mk 47 [(2,.own false 4 []),(3,.d false 0 (.ifc 114 (.pt 3 (.ag [D.int .i64 x53,D.ifc 84 (.int .i64 x54)]))))],[]⟩
def e0x0 (s:ByteArray) (x55:List D):S:=⟨Tm.mk 47 [(0,.d true 0 (.str s)),(4,.own false 4 x55)],[]⟩
noncomputable abbrev L0:S→Option (S ⊕ (Ex×S)):=roundK X [(0,17)] (sub [1,1,1,1,0,0,0] (body Tryz.f92))
theorem start {β:Type} (s:ByteArray) (k:List TV→List TV→Option β):evalF Tryz.prog E16 Tryz.f92 [.d true 0 (.str s)] k=if decide ((↑(ByteArray.size s):Int)>65536)=true then k [.own false 4 [],.d false 0 (.ifc 84 (.int .i64 2))] []else if inS s (0:Int)then goLp X [(0,17)] (sub [1,1,1,1,0,0,0] (body Tryz.f92)) [Kf.block 0 17,Kf.seq [] (sub [1,1,1,1,1] (body Tryz.f92)) 12] (finK Tryz.prog Tryz.f92 [.d true 0 (.str s)] k) (s0 s [] (↑(blankL (List.drop 0 s.toList)):Int))else none:=by kernel_rfl
theorem round0 (s:ByteArray) (x25:List D) (x26:Int):roundK X [(0,17)] (sub [1,1,1,1,0,0,0] (body Tryz.f92)) (s0 s x25 x26)=if decide (x26<(↑(ByteArray.size s):Int))=true then if inS s x26∧x26<(↑(ByteArray.size s):Int)then match oneL (List.drop x26.toNat s.toList)with
   |Sum.inl n66=>some (Sum.inr (Ex.ret,e0r x26 n66))
   |Sum.inr (c70,t71,n72)=>if x25.length+1≤34359738368 then if inS s (IntKind.wrap .i64 (x26+(↑n72:Int)))then some (Sum.inl (s0 s (x25++[D.ag [D.int .i64 c70,D.str (B t71),D.int .i64 x26]]) (IntKind.wrap .i64 (IntKind.wrap .i64 (x26+(↑n72:Int))+(↑(blankL (List.drop (Int.toNat (IntKind.wrap .i64 (x26+(↑n72:Int)))) s.toList)):Int)))))else none else none else none else some (Sum.inr (Ex.exit 0,e0x0 s x25)):=by kernel_rfl
theorem behind0r {β:Type} (s:ByteArray) (x53:Int) (x54:Int) (k:List TV→List TV→Option β):applyK X (finK Tryz.prog Tryz.f92 [.d true 0 (.str s)] k) [Kf.block 0 17,Kf.seq [] (sub [1,1,1,1,1] (body Tryz.f92)) 12] Ex.ret (e0r x53 x54)=k [.own false 4 [],.d false 0 (.ifc 114 (.pt 3 (.ag [D.int .i64 x53,D.ifc 84 (.int .i64 x54)])))] []:=by kernel_rfl
theorem behind0x0 {β:Type} (s:ByteArray) (x55:List D) (k:List TV→List TV→Option β):applyK X (finK Tryz.prog Tryz.f92 [.d true 0 (.str s)] k) [Kf.block 0 17,Kf.seq [] (sub [1,1,1,1,1] (body Tryz.f92)) 12] (Ex.exit 0) (e0x0 s x55)=if x55.length+1≤34359738368 then k [.own false 4 (x55++[D.ag [D.int .i64 0,D.str (ByteArray.mk #[]),D.int .i64 (↑(ByteArray.size s):Int)]]),.d false 0 D.nili] []else none:=by kernel_rfl
end F10
end Go.Sd
namespace Go.Sd
open Go Go.Cm Go.Proofs Go.Sc
set_option maxRecDepth 100000
namespace F14
noncomputable def X:Fx:=⟨Tryz.prog,E17,12,1⟩
theorem start {β:Type} (s:ByteArray) (k:List TV→List TV→Option β):evalF Tryz.prog E17 Tryz.f61 [.d true 0 (.str s)] k=match Nat.ble (ByteArray.size s) 65536 with
   |false=>k [.d false 0 D.nilp,.d false 0 (.ifc 84 (.int .i64 2))] []
   |true=>match tokS s.toList with
    |Sum.inl (n7,p8)=>k [.d false 0 D.nilp,.d false 0 (.ifc 114 (.pt 3 (.ag [D.int .i64 (↑p8:Int),D.ifc 84 (.int .i64 n7)])))] []
    |Sum.inr l12=>k [.ob true [.own false 4 (List.map tokT l12),.d false 0 (.int .i64 0)],.d false 0 D.nili] []:=by kernel_rfl
end F14
namespace F17
noncomputable def X:Fx:=⟨Tryz.prog,E18,4,1⟩
theorem start {β:Type} (xs:List D) (a:Int) (k:List TV→List TV→Option β):evalF Tryz.prog E18 Tryz.f41 [.ob true [.own true 4 xs,.d false 0 (.int .i64 a)]] k=if 0≤a∧a<(xs.length:Int)then match xs[a.toNat]? with
   |some x4=>match x4 with
    |D.ag xs5=>match xs5 with
     |x6::r7=>match x6 with
      |D.int j8 m9=>if j8=IntKind.i64 then match r7 with
       |x10::r11=>match x10 with
        |D.str s12=>match r11 with
         |x13::r14=>match x13 with
          |D.int j15 m16=>if j15=IntKind.i64 then match r14 with
           |[]=>k [.d true 4 (.ag [D.int .i64 m9,D.str s12,D.int .i64 m16])] [.ob true [.own true 4 xs,.d false 0 (.int .i64 a)]]
           |x=>none else none
          |x=>none
         |[]=>none
        |x=>none
       |[]=>none else none
      |x=>none
     |[]=>none
    |x=>none
   |none=>none else none:=by kernel_rfl
end F17
namespace F18
noncomputable def X:Fx:=⟨Tryz.prog,E19,4,1⟩
theorem start {β:Type} (xs:List D) (a:Int) (k:List TV→List TV→Option β):evalF Tryz.prog E19 Tryz.f118 [.ob true [.own true 4 xs,.d false 0 (.int .i64 a)]] k=if 0≤a then match xs[a.toNat]? with
   |some (.ag [D.int .i64 c2,D.str t3,D.int .i64 p4])=>if(!c2==0)=true then k [.d true 4 (.ag [D.int .i64 c2,D.str t3,D.int .i64 p4])] [.ob true [.own true 4 xs,.d false 0 (.int .i64 (IntKind.wrap .i64 (a+1)))]]else k [.d true 4 (.ag [D.int .i64 c2,D.str t3,D.int .i64 p4])] [.ob true [.own true 4 xs,.d false 0 (.int .i64 a)]]
   |x=>none else none:=by kernel_rfl
end F18
namespace F19
noncomputable def X:Fx:=⟨Tryz.prog,E20,16,2⟩
theorem start {β:Type} (xs:List D) (a:Int) (s:ByteArray) (k:List TV→List TV→Option β):evalF Tryz.prog E20 Tryz.f117 [.ob true [.own true 4 xs,.d false 0 (.int .i64 a)],.d true 0 (.str s)] k=if 0≤a then match xs[a.toNat]? with
   |some (.ag [D.int .i64 c2,D.str t3,D.int .i64 p4])=>if(c2==1)=true then k [.d false 0 (.bool (t3.toList==s.toList))] [.ob true [.own true 4 xs,.d false 0 (.int .i64 a)]]else if(c2==4)=true then k [.d false 0 (.bool (t3.toList==s.toList))] [.ob true [.own true 4 xs,.d false 0 (.int .i64 a)]]else k [.d false 0 (.bool false)] [.ob true [.own true 4 xs,.d false 0 (.int .i64 a)]]
   |x=>none else none:=by kernel_rfl
end F19
namespace F20
noncomputable def X:Fx:=⟨Tryz.prog,E21,16,2⟩
theorem start {β:Type} (xs:List D) (a:Int) (s:ByteArray) (k:List TV→List TV→Option β):evalF Tryz.prog E21 Tryz.f93 [.ob true [.own true 4 xs,.d false 0 (.int .i64 a)],.d true 0 (.str s)] k=if 0≤a then match xs[a.toNat]? with
   |some (.ag [D.int .i64 c2,D.str t3,D.int .i64 n4])=>if((c2==1||c2==4)&&t3.toList==s.toList)=true then if 0≤a∧a<34359738368 then match xs[a.toNat]? with
    |some (.ag [D.int .i64 c8,D.str t9,D.int .i64 p10])=>if(!c8==0)=true then k [.d false 0 (.bool ((c2==1||c2==4)&&t3.toList==s.toList))] [.ob true [.own true 4 xs,.d false 0 (.int .i64 (a+1))]]else k [.d false 0 (.bool ((c2==1||c2==4)&&t3.toList==s.toList))] [.ob true [.own true 4 xs,.d false 0 (.int .i64 a)]]
    |x=>none else none else k [.d false 0 (.bool ((c2==1||c2==4)&&t3.toList==s.toList))] [.ob true [.own true 4 xs,.d false 0 (.int .i64 a)]]
   |x=>none else none:=by kernel_rfl
end F20
namespace F29
noncomputable def X:Fx:=⟨Tryz.prog,E22,4,1⟩
theorem start {β:Type} (xs:List D) (a:Int) (k:List TV→List TV→Option β):evalF Tryz.prog E22 Tryz.f134 [.ob true [.own true 4 xs,.d false 0 (.int .i64 a)]] k=if 0≤a then match xs[a.toNat]? with
   |some (.ag [D.int .i64 c4,D.str t5,D.int .i64 p6])=>k [.d false 0 (.ifc 114 (.pt 3 (.ag [D.int .i64 p6,D.ifc 84 (.int .i64 20)])))] [.ob true [.own true 4 xs,.d false 0 (.int .i64 a)]]
   |x=>none else none:=by kernel_rfl
end F29
namespace F21
noncomputable def X:Fx:=⟨Tryz.prog,E23,16,2⟩
theorem start {β:Type} (xs:List D) (a:Int) (s:ByteArray) (k:List TV→List TV→Option β):evalF Tryz.prog E23 Tryz.f119 [.ob true [.own true 4 xs,.d false 0 (.int .i64 a)],.d true 0 (.str s)] k=if 0≤a∧a<34359738368 then match xs[a.toNat]? with
   |some (.ag [D.int .i64 c2,D.str t3,D.int .i64 n4])=>if((c2==1||c2==4)&&t3.toList==s.toList)=true then k [.d false 0 D.nili] [.ob true [.own true 4 xs,.d false 0 (.int .i64 (a+1))]]else if 0≤a then match xs[a.toNat]? with
    |some (.ag [D.int .i64 n9,D.str s10,D.int .i64 p11])=>k [.d false 0 (.ifc 114 (.pt 3 (.ag [D.int .i64 p11,D.ifc 84 (.int .i64 20)])))] [.ob true [.own true 4 xs,.d false 0 (.int .i64 a)]]
    |x=>none else none
   |x=>none else none:=by kernel_rfl
end F21
end Go.Sd

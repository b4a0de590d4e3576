/- Made by a program of the session's own (tools/gen_scan.py): what functions come to, segment by segment. -/
import Derived.Test.YtbpndgllhhajoaaGreatDoorLd
import Derived.Test.YtbpndgllhhajoaaGreatDoorLf
import Derived.Test.YtbpndgllhhajoaaGreatDoorPe
set_option linter.unusedVariables false
set_option linter.unusedSimpArgs false
namespace Go.Sd
open Go Go.Cm Go.Proofs Go.Sc
set_option maxRecDepth 100000
namespace Q4T
noncomputable def X:Fx:=⟨Tryz.prog,WY,64,3⟩
def j0 (a:List D) (b:List D) (op7:ByteArray) (nm8:ByteArray) (ks9:List D) (p10:Int) (x16:List D) (y17:List D) (b19:Bool) (x336488:D) (m414490:Int) (x472491:D) (m482493:Int):S:=⟨Tm.mk 212 [(1,.d true 0 (D.sl 0 a)),(2,.d true 0 (D.sl 0 b)),(7,.rp 8 0),(9,.rp 10 0),(10,.d false 0 (D.bool b19)),(11,.d false 0 D.nili),(12,.rp 13 0),(45,.d true 0 (D.sl 0 a)),(46,.d true 0 (D.sl 0 b)),(47,.d false 3 (D.ag [D.sl 0 x16,D.sl 0 (loopOf y17)])),(48,.tup [.d false 0 (D.bool b19),.d false 0 D.nili]),(49,.ag [.d false 0 (D.str op7),.d false 0 (D.str nm8),.d false 0 (D.sl 5 ks9),.d false 0 (D.int .i64 p10)]),(50,.bf 1152921504606847026 0),(51,.ag [.d false 0 (D.sl 0 x16),.d false 0 (D.sl 0 (loopOf y17))]),(52,.tup [.d false 0 (D.bool b19),.d false 0 D.nili]),(53,.d false 0 (D.bool b19)),(54,.d false 0 D.nili),(55,.undef),(56,.rp 10 0),(57,.d false 0 (D.sl 0 x16)),(58,.undef),(59,.rp 10 1),(60,.d false 0 (D.sl 0 (loopOf y17))),(61,.d false 0 (D.pt 0 x336488)),(62,.d false 0 (D.int .i64 m414490)),(63,.own false 0 [D.int .i64 m414490]),(64,.undef),(65,.undef),(66,.rp 10 1),(67,.d false 0 (D.sl 0 (loopOf y17))),(68,.d false 0 (D.sl 0 (List.take (Int.toNat (↑(List.length (loopOf y17)):Int) - 1) (List.drop 1 (loopOf y17))))),(69,.undef),(70,.rp 10 1),(71,.d false 0 (D.sl 0 (loopOf y17))),(72,.d false 0 (D.pt 0 x472491)),(73,.d false 0 (D.int .i64 m482493)),(74,.own false 0 [D.int .i64 m482493]),(75,.undef),(76,.undef)],[(8,true,[.d false 0 (D.str op7),.d false 0 (D.str nm8),.d false 0 (D.sl 5 ks9),.d false 0 (D.int .i64 p10)]),(10,true,[.d false 0 (D.sl 0 x16),.d false 0 (D.sl 0 (loopOf y17))]),(13,true,[.own false 0 (x16++[D.int .i64 m414490]),.own false 0 (List.take (Int.toNat (↑(List.length (loopOf y17)):Int) - 1) (List.drop 1 (loopOf y17))++[D.int .i64 m482493])]),(1152921504606847023,true,[.d false 3 (D.ag [D.sl 0 x16,D.sl 0 (loopOf y17)])]),(1152921504606847026,true,[.own false 0 [D.str (ByteArray.mk #[97]),D.str (ByteArray.mk #[98]),D.str (ByteArray.mk #[103,111,97,108])]]),(1152921504606847028,true,[.d false 0 (D.bool b19),.d false 0 D.nili])]⟩
def j1 (a:List D) (b:List D) (op7:ByteArray) (nm8:ByteArray) (ks9:List D) (p10:Int) (x16:List D) (y17:List D) (b19:Bool) (x336488:D) (m414490:Int) (x472491:D) (m482493:Int) (b505:Bool) (b526529:Bool):S:=⟨Tm.mk 212 [(1,.d true 0 (D.sl 0 a)),(2,.d true 0 (D.sl 0 b)),(7,.rp 8 0),(9,.rp 10 0),(10,.d false 0 (D.bool b19)),(11,.d false 0 D.nili),(12,.rp 13 0),(13,.d false 0 (D.bool b505)),(14,.d false 0 D.nili),(15,.d false 0 (D.bool b526529)),(16,.d false 0 D.nili),(45,.d true 0 (D.sl 0 a)),(46,.d true 0 (D.sl 0 b)),(47,.d false 3 (D.ag [D.sl 0 x16,D.sl 0 (loopOf y17)])),(48,.tup [.d false 0 (D.bool b19),.d false 0 D.nili]),(49,.ag [.d false 0 (D.str op7),.d false 0 (D.str nm8),.d false 0 (D.sl 5 ks9),.d false 0 (D.int .i64 p10)]),(50,.bf 1152921504606847026 0),(51,.ag [.d false 0 (D.sl 0 x16),.d false 0 (D.sl 0 (loopOf y17))]),(52,.tup [.d false 0 (D.bool b19),.d false 0 D.nili]),(53,.d false 0 (D.bool b19)),(54,.d false 0 D.nili),(55,.undef),(56,.rp 10 0),(57,.d false 0 (D.sl 0 x16)),(58,.undef),(59,.rp 10 1),(60,.d false 0 (D.sl 0 (loopOf y17))),(61,.d false 0 (D.pt 0 x336488)),(62,.d false 0 (D.int .i64 m414490)),(63,.own false 0 [D.int .i64 m414490]),(64,.undef),(65,.undef),(66,.rp 10 1),(67,.d false 0 (D.sl 0 (loopOf y17))),(68,.d false 0 (D.sl 0 (List.take (Int.toNat (↑(List.length (loopOf y17)):Int) - 1) (List.drop 1 (loopOf y17))))),(69,.undef),(70,.rp 10 1),(71,.d false 0 (D.sl 0 (loopOf y17))),(72,.d false 0 (D.pt 0 x472491)),(73,.d false 0 (D.int .i64 m482493)),(74,.own false 0 [D.int .i64 m482493]),(75,.undef),(76,.undef),(77,.tup [.d false 0 (D.bool b505),.d false 0 D.nili]),(78,.ag [.d false 0 (D.str op7),.d false 0 (D.str nm8),.d false 0 (D.sl 5 ks9),.d false 0 (D.int .i64 p10)]),(79,.bf 1152921504606847055 0),(80,.ag [.bf 13 0,.bf 13 1]),(81,.tup [.d false 0 (D.bool b505),.d false 0 D.nili]),(82,.d false 0 (D.bool b505)),(83,.d false 0 D.nili),(84,.tup [.d false 0 (D.bool b526529),.d false 0 D.nili]),(85,.ag [.d false 0 (D.str op7),.d false 0 (D.str nm8),.d false 0 (D.sl 5 ks9),.d false 0 (D.int .i64 p10)]),(86,.bf 1152921504606847062 0),(87,.rp 10 0),(88,.d false 0 (D.sl 0 x16)),(89,.undef),(90,.rp 10 1),(91,.d false 0 (D.sl 0 (loopOf y17))),(92,.undef),(93,.rp 10 1),(94,.d false 0 (D.sl 0 (loopOf y17))),(95,.own false 0 (loopOf y17++loopOf y17)),(96,.ag [.d false 0 (D.sl 0 x16),.bf 0 95]),(97,.tup [.d false 0 (D.bool b526529),.d false 0 D.nili]),(98,.d false 0 (D.bool b526529)),(99,.d false 0 D.nili)],[(8,true,[.d false 0 (D.str op7),.d false 0 (D.str nm8),.d false 0 (D.sl 5 ks9),.d false 0 (D.int .i64 p10)]),(10,true,[.d false 0 (D.sl 0 x16),.d false 0 (D.sl 0 (loopOf y17))]),(13,true,[.own false 0 (x16++[D.int .i64 m414490]),.own false 0 (List.take (Int.toNat (↑(List.length (loopOf y17)):Int) - 1) (List.drop 1 (loopOf y17))++[D.int .i64 m482493])]),(1152921504606847023,true,[.d false 3 (D.ag [D.sl 0 x16,D.sl 0 (loopOf y17)])]),(1152921504606847026,true,[.own false 0 [D.str (ByteArray.mk #[97]),D.str (ByteArray.mk #[98]),D.str (ByteArray.mk #[103,111,97,108])]]),(1152921504606847028,true,[.d false 0 (D.bool b19),.d false 0 D.nili]),(1152921504606847055,true,[.own false 0 [D.str (ByteArray.mk #[97]),D.str (ByteArray.mk #[98]),D.str (ByteArray.mk #[103,111,97,108])]]),(1152921504606847057,true,[.d false 0 (D.bool b505),.d false 0 D.nili]),(1152921504606847062,true,[.own false 0 [D.str (ByteArray.mk #[97]),D.str (ByteArray.mk #[98]),D.str (ByteArray.mk #[103,111,97,108])]]),(1152921504606847073,true,[.d false 0 (D.bool b526529),.d false 0 D.nili])]⟩
noncomputable abbrev J0 {β:Type} (s:ByteArray) (a:List D) (b:List D) (k:List TV→List TV→Option β):S→Option β:=applyK X (finK Tryz.prog Tryz.f4 [.d true 0 (D.str s),.d true 0 (D.sl 0 a),.d true 0 (D.sl 0 b)] k) [Kf.seq [] (sub [1,1,1,1,1,1,1,1] (body Tryz.f4)) 64] Ex.norm
noncomputable abbrev J1 {β:Type} (s:ByteArray) (a:List D) (b:List D) (k:List TV→List TV→Option β):S→Option β:=applyK X (finK Tryz.prog Tryz.f4 [.d true 0 (D.str s),.d true 0 (D.sl 0 a),.d true 0 (D.sl 0 b)] k) [Kf.seq [] (sub [1,1,1,1,1,1,1,1,1,1] (body Tryz.f4)) 64] Ex.norm
noncomputable def R0:Array Oper:=regOps (sub [1,1,1,1,1,1,1,0] (body Tryz.f4))
def B0:List Nat:=[0,0,2,7,0,16,48,112,240,511,0,0,2048,6144,16383,0,32768,98304,229376,491520,1048575,2097151,0,8388607]
  section
  variable {β:Type} (a:List D) (b:List D) (op7:ByteArray) (nm8:ByteArray) (ks9:List D) (p10:Int) (x16:List D) (y17:List D) (b19:Bool) (x26:D) (m29:Int) (x36:D) (m39:Int) (kont20:S→Option β)
noncomputable def z0_0:S:=⟨Tm.mk 212 [(1,.d true 0 (D.sl 0 a)),(2,.d true 0 (D.sl 0 b)),(7,.rp 8 0),(9,.rp 10 0),(10,.d false 0 (D.bool b19)),(11,.d false 0 D.nili),(12,.rp 13 0),(45,.d true 0 (D.sl 0 a)),(46,.d true 0 (D.sl 0 b)),(47,.d false 3 (D.ag [D.sl 0 x16,D.sl 0 (loopOf y17)])),(48,.tup [.d false 0 (D.bool b19),.d false 0 D.nili]),(49,.ag [.d false 0 (D.str op7),.d false 0 (D.str nm8),.d false 0 (D.sl 5 ks9),.d false 0 (D.int .i64 p10)]),(50,.bf 1152921504606847026 0),(51,.ag [.d false 0 (D.sl 0 x16),.d false 0 (D.sl 0 (loopOf y17))]),(52,.tup [.d false 0 (D.bool b19),.d false 0 D.nili]),(53,.d false 0 (D.bool b19)),(54,.d false 0 D.nili),(55,.undef),(56,.rp 10 0),(57,.d false 0 (D.sl 0 x16)),(58,.undef),(59,.rp 10 1),(60,.d false 0 (D.sl 0 (loopOf y17))),(61,.d false 0 (D.pt 0 x26)),(62,.d false 0 (D.int .i64 m29)),(63,.own false 0 [D.int .i64 m29]),(64,.undef),(65,.undef),(66,.rp 10 1),(67,.d false 0 (D.sl 0 (loopOf y17))),(68,.d false 0 (D.sl 0 (List.take (Int.toNat (↑(List.length (loopOf y17)):Int) - 1) (List.drop 1 (loopOf y17))))),(69,.undef),(70,.rp 10 1),(71,.d false 0 (D.sl 0 (loopOf y17))),(72,.d false 0 (D.pt 0 x36)),(73,.d false 0 (D.int .i64 m39)),(74,.own false 0 [D.int .i64 m39]),(75,.undef),(76,.undef)],[(8,true,[.d false 0 (D.str op7),.d false 0 (D.str nm8),.d false 0 (D.sl 5 ks9),.d false 0 (D.int .i64 p10)]),(10,true,[.d false 0 (D.sl 0 x16),.d false 0 (D.sl 0 (loopOf y17))]),(13,true,[.own false 0 (x16++[D.int .i64 m29]),.own false 0 (List.take (Int.toNat (↑(List.length (loopOf y17)):Int) - 1) (List.drop 1 (loopOf y17))++[D.int .i64 m39])]),(1152921504606847023,true,[.d false 3 (D.ag [D.sl 0 x16,D.sl 0 (loopOf y17)])]),(1152921504606847026,true,[.own false 0 [D.str (ByteArray.mk #[97]),D.str (ByteArray.mk #[98]),D.str (ByteArray.mk #[103,111,97,108])]]),(1152921504606847028,true,[.d false 0 (D.bool b19),.d false 0 D.nili])]⟩
noncomputable def z0_63:S:=⟨Tm.mk 212 [(1,.d true 0 (D.sl 0 a)),(2,.d true 0 (D.sl 0 b)),(7,.rp 8 0),(9,.rp 10 0),(10,.d false 0 (D.bool b19)),(11,.d false 0 D.nili),(45,.d true 0 (D.sl 0 a)),(46,.d true 0 (D.sl 0 b)),(47,.d false 3 (D.ag [D.sl 0 x16,D.sl 0 (loopOf y17)])),(48,.tup [.d false 0 (D.bool b19),.d false 0 D.nili]),(49,.ag [.d false 0 (D.str op7),.d false 0 (D.str nm8),.d false 0 (D.sl 5 ks9),.d false 0 (D.int .i64 p10)]),(50,.bf 1152921504606847026 0),(51,.ag [.d false 0 (D.sl 0 x16),.d false 0 (D.sl 0 (loopOf y17))]),(52,.tup [.d false 0 (D.bool b19),.d false 0 D.nili]),(53,.d false 0 (D.bool b19)),(54,.d false 0 D.nili)],[(1152921504606847028,true,[.d false 0 (D.bool b19),.d false 0 D.nili]),(1152921504606847026,true,[.own false 0 [D.str (ByteArray.mk #[97]),D.str (ByteArray.mk #[98]),D.str (ByteArray.mk #[103,111,97,108])]]),(10,true,[.d false 0 (D.sl 0 x16),.d false 0 (D.sl 0 (loopOf y17))]),(1152921504606847023,true,[.d false 3 (D.ag [D.sl 0 x16,D.sl 0 (loopOf y17)])]),(8,true,[.d false 0 (D.str op7),.d false 0 (D.str nm8),.d false 0 (D.sl 5 ks9),.d false 0 (D.int .i64 p10)])]⟩
noncomputable def u0_0:List (Nat×V):=[(1,.d true 0 (D.sl 0 a)),(2,.d true 0 (D.sl 0 b)),(7,.rp 8 0),(9,.rp 10 0),(10,.d false 0 (D.bool b19)),(11,.d false 0 D.nili),(12,.rp 13 0),(45,.d true 0 (D.sl 0 a)),(46,.d true 0 (D.sl 0 b)),(47,.d false 3 (D.ag [D.sl 0 x16,D.sl 0 (loopOf y17)])),(48,.tup [.d false 0 (D.bool b19),.d false 0 D.nili]),(49,.ag [.d false 0 (D.str op7),.d false 0 (D.str nm8),.d false 0 (D.sl 5 ks9),.d false 0 (D.int .i64 p10)]),(50,.bf 1152921504606847026 0),(51,.ag [.d false 0 (D.sl 0 x16),.d false 0 (D.sl 0 (loopOf y17))]),(52,.tup [.d false 0 (D.bool b19),.d false 0 D.nili]),(53,.d false 0 (D.bool b19)),(54,.d false 0 D.nili),(55,.own false 0 []),(56,.rp 10 0),(57,.d false 0 (D.sl 0 x16)),(58,.own false 0 x16),(59,.rp 10 1),(60,.d false 0 (D.sl 0 (loopOf y17))),(61,.d false 0 (D.pt 0 x26)),(62,.d false 0 (D.int .i64 m29)),(63,.own false 0 [D.int .i64 m29]),(64,.own false 0 (x16++[D.int .i64 m29])),(65,.own false 0 []),(66,.rp 10 1),(67,.d false 0 (D.sl 0 (loopOf y17))),(68,.d false 0 (D.sl 0 (List.take (Int.toNat (↑(List.length (loopOf y17)):Int) - 1) (List.drop 1 (loopOf y17))))),(69,.own false 0 (List.take (Int.toNat (↑(List.length (loopOf y17)):Int) - 1) (List.drop 1 (loopOf y17)))),(70,.rp 10 1),(71,.d false 0 (D.sl 0 (loopOf y17))),(72,.d false 0 (D.pt 0 x36)),(73,.d false 0 (D.int .i64 m39)),(74,.own false 0 [D.int .i64 m39]),(75,.own false 0 (List.take (Int.toNat (↑(List.length (loopOf y17)):Int) - 1) (List.drop 1 (loopOf y17))++[D.int .i64 m39])),(76,.ag [.bf 0 64,.bf 0 75])]
noncomputable def v0_0:List (Nat×Bool×List V):=[(8,true,[.d false 0 (D.str op7),.d false 0 (D.str nm8),.d false 0 (D.sl 5 ks9),.d false 0 (D.int .i64 p10)]),(10,true,[.d false 0 (D.sl 0 x16),.d false 0 (D.sl 0 (loopOf y17))]),(13,true,[.own false 0 [],.own false 0 []]),(1152921504606847023,true,[.d false 3 (D.ag [D.sl 0 x16,D.sl 0 (loopOf y17)])]),(1152921504606847026,true,[.own false 0 [D.str (ByteArray.mk #[97]),D.str (ByteArray.mk #[98]),D.str (ByteArray.mk #[103,111,97,108])]]),(1152921504606847028,true,[.d false 0 (D.bool b19),.d false 0 D.nili])]
noncomputable def z0_1:S:=⟨Tm.mk 212 (selT (u0_0 a b op7 nm8 ks9 p10 x16 y17 b19 x26 m29 x36 m39) 100748448002752726259029 []),selR (v0_0 op7 nm8 ks9 p10 x16 y17 b19) 1365 []⟩
noncomputable def z0_2:S:=⟨Tm.mk 212 (selT (u0_0 a b op7 nm8 ks9 p10 x16 y17 b19 x26 m29 x36 m39) 25190584276838402835797 []),selR (v0_0 op7 nm8 ks9 p10 x16 y17 b19) 1349 []⟩
noncomputable def z0_3:S:=⟨Tm.mk 212 (selT (u0_0 a b op7 nm8 ks9 p10 x16 y17 b19 x26 m29 x36 m39) 25190584276838402839893 []),selR (v0_0 op7 nm8 ks9 p10 x16 y17 b19) 1365 []⟩
noncomputable def z0_4:S:=⟨Tm.mk 212 (selT (u0_0 a b op7 nm8 ks9 p10 x16 y17 b19 x26 m29 x36 m39) 6296506659341394597205 []),selR (v0_0 op7 nm8 ks9 p10 x16 y17 b19) 1365 []⟩
noncomputable def z0_5:S:=⟨Tm.mk 212 (selT (u0_0 a b op7 nm8 ks9 p10 x16 y17 b19 x26 m29 x36 m39) 6296506659341394593109 []),selR (v0_0 op7 nm8 ks9 p10 x16 y17 b19) 1349 []⟩
noncomputable def z0_6:S:=⟨Tm.mk 212 (selT (u0_0 a b op7 nm8 ks9 p10 x16 y17 b19 x26 m29 x36 m39) 1574140176471749383509 []),selR (v0_0 op7 nm8 ks9 p10 x16 y17 b19) 1365 []⟩
noncomputable def z0_7:S:=⟨Tm.mk 212 (selT (u0_0 a b op7 nm8 ks9 p10 x16 y17 b19 x26 m29 x36 m39) 1574140176471749379413 []),selR (v0_0 op7 nm8 ks9 p10 x16 y17 b19) 1349 []⟩
noncomputable def z0_8:S:=⟨Tm.mk 212 (selT (u0_0 a b op7 nm8 ks9 p10 x16 y17 b19 x26 m29 x36 m39) 6291876958924457727317 []),selR (v0_0 op7 nm8 ks9 p10 x16 y17 b19) 1365 []⟩
noncomputable def z0_9:S:=⟨Tm.mk 212 (selT (u0_0 a b op7 nm8 ks9 p10 x16 y17 b19 x26 m29 x36 m39) 6291876958924457723221 []),selR (v0_0 op7 nm8 ks9 p10 x16 y17 b19) 1349 []⟩
noncomputable def z0_10:S:=⟨Tm.mk 212 (selT (u0_0 a b op7 nm8 ks9 p10 x16 y17 b19 x26 m29 x36 m39) 1569510476054812513621 []),selR (v0_0 op7 nm8 ks9 p10 x16 y17 b19) 1365 []⟩
noncomputable def z0_11:S:=⟨Tm.mk 212 (selT (u0_0 a b op7 nm8 ks9 p10 x16 y17 b19 x26 m29 x36 m39) 1569510476054812509525 []),selR (v0_0 op7 nm8 ks9 p10 x16 y17 b19) 1349 []⟩
noncomputable def z0_12:S:=⟨Tm.mk 212 (selT (u0_0 a b op7 nm8 ks9 p10 x16 y17 b19 x26 m29 x36 m39) 6291858944525948245333 []),selR (v0_0 op7 nm8 ks9 p10 x16 y17 b19) 1365 []⟩
noncomputable def z0_13:S:=⟨Tm.mk 212 (selT (u0_0 a b op7 nm8 ks9 p10 x16 y17 b19 x26 m29 x36 m39) 6291858944525948241237 []),selR (v0_0 op7 nm8 ks9 p10 x16 y17 b19) 1349 []⟩
noncomputable def z0_14:S:=⟨Tm.mk 212 (selT (u0_0 a b op7 nm8 ks9 p10 x16 y17 b19 x26 m29 x36 m39) 1569492461656303031637 []),selR (v0_0 op7 nm8 ks9 p10 x16 y17 b19) 1365 []⟩
noncomputable def z0_15:S:=⟨Tm.mk 212 (selT (u0_0 a b op7 nm8 ks9 p10 x16 y17 b19 x26 m29 x36 m39) 1569492461656303027541 []),selR (v0_0 op7 nm8 ks9 p10 x16 y17 b19) 1349 []⟩
noncomputable def z0_16:S:=⟨Tm.mk 212 (selT (u0_0 a b op7 nm8 ks9 p10 x16 y17 b19 x26 m29 x36 m39) 6291872454225318729045 []),selR (v0_0 op7 nm8 ks9 p10 x16 y17 b19) 1365 []⟩
noncomputable def z0_17:S:=⟨Tm.mk 212 (selT (u0_0 a b op7 nm8 ks9 p10 x16 y17 b19 x26 m29 x36 m39) 6291872454225318724949 []),selR (v0_0 op7 nm8 ks9 p10 x16 y17 b19) 1349 []⟩
noncomputable def z0_18:S:=⟨Tm.mk 212 (selT (u0_0 a b op7 nm8 ks9 p10 x16 y17 b19 x26 m29 x36 m39) 1569505971355673515349 []),selR (v0_0 op7 nm8 ks9 p10 x16 y17 b19) 1365 []⟩
noncomputable def z0_19:S:=⟨Tm.mk 212 (selT (u0_0 a b op7 nm8 ks9 p10 x16 y17 b19 x26 m29 x36 m39) 1569505971355673511253 []),selR (v0_0 op7 nm8 ks9 p10 x16 y17 b19) 1349 []⟩
noncomputable def z0_20:S:=⟨Tm.mk 212 (selT (u0_0 a b op7 nm8 ks9 p10 x16 y17 b19 x26 m29 x36 m39) 6291854439826809247061 []),selR (v0_0 op7 nm8 ks9 p10 x16 y17 b19) 1365 []⟩
noncomputable def z0_21:S:=⟨Tm.mk 212 (selT (u0_0 a b op7 nm8 ks9 p10 x16 y17 b19 x26 m29 x36 m39) 6291854439826809242965 []),selR (v0_0 op7 nm8 ks9 p10 x16 y17 b19) 1349 []⟩
noncomputable def z0_22:S:=⟨Tm.mk 212 (selT (u0_0 a b op7 nm8 ks9 p10 x16 y17 b19 x26 m29 x36 m39) 1569487956957164033365 []),selR (v0_0 op7 nm8 ks9 p10 x16 y17 b19) 1365 []⟩
noncomputable def z0_23:S:=⟨Tm.mk 212 (selT (u0_0 a b op7 nm8 ks9 p10 x16 y17 b19 x26 m29 x36 m39) 1569487956957164029269 []),selR (v0_0 op7 nm8 ks9 p10 x16 y17 b19) 1349 []⟩
noncomputable def z0_24:S:=⟨Tm.mk 212 (selT (u0_0 a b op7 nm8 ks9 p10 x16 y17 b19 x26 m29 x36 m39) 6291871328325411886421 []),selR (v0_0 op7 nm8 ks9 p10 x16 y17 b19) 1365 []⟩
noncomputable def z0_25:S:=⟨Tm.mk 212 (selT (u0_0 a b op7 nm8 ks9 p10 x16 y17 b19 x26 m29 x36 m39) 6291871328325411882325 []),selR (v0_0 op7 nm8 ks9 p10 x16 y17 b19) 1349 []⟩
noncomputable def z0_26:S:=⟨Tm.mk 212 (selT (u0_0 a b op7 nm8 ks9 p10 x16 y17 b19 x26 m29 x36 m39) 1569504845455766672725 []),selR (v0_0 op7 nm8 ks9 p10 x16 y17 b19) 1365 []⟩
noncomputable def z0_27:S:=⟨Tm.mk 212 (selT (u0_0 a b op7 nm8 ks9 p10 x16 y17 b19 x26 m29 x36 m39) 1569504845455766668629 []),selR (v0_0 op7 nm8 ks9 p10 x16 y17 b19) 1349 []⟩
noncomputable def z0_28:S:=⟨Tm.mk 212 (selT (u0_0 a b op7 nm8 ks9 p10 x16 y17 b19 x26 m29 x36 m39) 6291853313926902404437 []),selR (v0_0 op7 nm8 ks9 p10 x16 y17 b19) 1365 []⟩
noncomputable def z0_29:S:=⟨Tm.mk 212 (selT (u0_0 a b op7 nm8 ks9 p10 x16 y17 b19 x26 m29 x36 m39) 6291853313926902400341 []),selR (v0_0 op7 nm8 ks9 p10 x16 y17 b19) 1349 []⟩
noncomputable def z0_30:S:=⟨Tm.mk 212 (selT (u0_0 a b op7 nm8 ks9 p10 x16 y17 b19 x26 m29 x36 m39) 1569486831057257190741 []),selR (v0_0 op7 nm8 ks9 p10 x16 y17 b19) 1365 []⟩
noncomputable def z0_31:S:=⟨Tm.mk 212 (selT (u0_0 a b op7 nm8 ks9 p10 x16 y17 b19 x26 m29 x36 m39) 1569486831057257186645 []),selR (v0_0 op7 nm8 ks9 p10 x16 y17 b19) 1349 []⟩
noncomputable def z0_32:S:=⟨Tm.mk 212 (selT (u0_0 a b op7 nm8 ks9 p10 x16 y17 b19 x26 m29 x36 m39) 6291872453108627232085 []),selR (v0_0 op7 nm8 ks9 p10 x16 y17 b19) 1365 []⟩
noncomputable def z0_33:S:=⟨Tm.mk 212 (selT (u0_0 a b op7 nm8 ks9 p10 x16 y17 b19 x26 m29 x36 m39) 6291872453108627227989 []),selR (v0_0 op7 nm8 ks9 p10 x16 y17 b19) 1349 []⟩
noncomputable def z0_34:S:=⟨Tm.mk 212 (selT (u0_0 a b op7 nm8 ks9 p10 x16 y17 b19 x26 m29 x36 m39) 1569505970238982018389 []),selR (v0_0 op7 nm8 ks9 p10 x16 y17 b19) 1365 []⟩
noncomputable def z0_35:S:=⟨Tm.mk 212 (selT (u0_0 a b op7 nm8 ks9 p10 x16 y17 b19 x26 m29 x36 m39) 1569505970238982014293 []),selR (v0_0 op7 nm8 ks9 p10 x16 y17 b19) 1349 []⟩
noncomputable def z0_36:S:=⟨Tm.mk 212 (selT (u0_0 a b op7 nm8 ks9 p10 x16 y17 b19 x26 m29 x36 m39) 6291854438710117750101 []),selR (v0_0 op7 nm8 ks9 p10 x16 y17 b19) 1365 []⟩
noncomputable def z0_37:S:=⟨Tm.mk 212 (selT (u0_0 a b op7 nm8 ks9 p10 x16 y17 b19 x26 m29 x36 m39) 6291854438710117746005 []),selR (v0_0 op7 nm8 ks9 p10 x16 y17 b19) 1349 []⟩
noncomputable def z0_38:S:=⟨Tm.mk 212 (selT (u0_0 a b op7 nm8 ks9 p10 x16 y17 b19 x26 m29 x36 m39) 1569487955840472536405 []),selR (v0_0 op7 nm8 ks9 p10 x16 y17 b19) 1365 []⟩
noncomputable def z0_39:S:=⟨Tm.mk 212 (selT (u0_0 a b op7 nm8 ks9 p10 x16 y17 b19 x26 m29 x36 m39) 1569487955840472532309 []),selR (v0_0 op7 nm8 ks9 p10 x16 y17 b19) 1349 []⟩
noncomputable def z0_40:S:=⟨Tm.mk 212 (selT (u0_0 a b op7 nm8 ks9 p10 x16 y17 b19 x26 m29 x36 m39) 6291871327208720389461 []),selR (v0_0 op7 nm8 ks9 p10 x16 y17 b19) 1365 []⟩
noncomputable def z0_41:S:=⟨Tm.mk 212 (selT (u0_0 a b op7 nm8 ks9 p10 x16 y17 b19 x26 m29 x36 m39) 6291871327208720385365 []),selR (v0_0 op7 nm8 ks9 p10 x16 y17 b19) 1349 []⟩
noncomputable def z0_42:S:=⟨Tm.mk 212 (selT (u0_0 a b op7 nm8 ks9 p10 x16 y17 b19 x26 m29 x36 m39) 1569504844339075175765 []),selR (v0_0 op7 nm8 ks9 p10 x16 y17 b19) 1365 []⟩
noncomputable def z0_43:S:=⟨Tm.mk 212 (selT (u0_0 a b op7 nm8 ks9 p10 x16 y17 b19 x26 m29 x36 m39) 1569504844339075171669 []),selR (v0_0 op7 nm8 ks9 p10 x16 y17 b19) 1349 []⟩
noncomputable def z0_44:S:=⟨Tm.mk 212 (selT (u0_0 a b op7 nm8 ks9 p10 x16 y17 b19 x26 m29 x36 m39) 6291853312810210907477 []),selR (v0_0 op7 nm8 ks9 p10 x16 y17 b19) 1365 []⟩
noncomputable def z0_45:S:=⟨Tm.mk 212 (selT (u0_0 a b op7 nm8 ks9 p10 x16 y17 b19 x26 m29 x36 m39) 6291853312810210903381 []),selR (v0_0 op7 nm8 ks9 p10 x16 y17 b19) 1349 []⟩
noncomputable def z0_46:S:=⟨Tm.mk 212 (selT (u0_0 a b op7 nm8 ks9 p10 x16 y17 b19 x26 m29 x36 m39) 1569486829940565693781 []),selR (v0_0 op7 nm8 ks9 p10 x16 y17 b19) 1365 []⟩
noncomputable def z0_47:S:=⟨Tm.mk 212 (selT (u0_0 a b op7 nm8 ks9 p10 x16 y17 b19 x26 m29 x36 m39) 1569486829940565689685 []),selR (v0_0 op7 nm8 ks9 p10 x16 y17 b19) 1349 []⟩
noncomputable def z0_48:S:=⟨Tm.mk 212 (selT (u0_0 a b op7 nm8 ks9 p10 x16 y17 b19 x26 m29 x36 m39) 6291872453091447362901 []),selR (v0_0 op7 nm8 ks9 p10 x16 y17 b19) 1365 []⟩
noncomputable def z0_49:S:=⟨Tm.mk 212 (selT (u0_0 a b op7 nm8 ks9 p10 x16 y17 b19 x26 m29 x36 m39) 6291872453091447358805 []),selR (v0_0 op7 nm8 ks9 p10 x16 y17 b19) 1349 []⟩
noncomputable def z0_50:S:=⟨Tm.mk 212 (selT (u0_0 a b op7 nm8 ks9 p10 x16 y17 b19 x26 m29 x36 m39) 1569505970221802149205 []),selR (v0_0 op7 nm8 ks9 p10 x16 y17 b19) 1365 []⟩
noncomputable def z0_51:S:=⟨Tm.mk 212 (selT (u0_0 a b op7 nm8 ks9 p10 x16 y17 b19 x26 m29 x36 m39) 1569505970221802145109 []),selR (v0_0 op7 nm8 ks9 p10 x16 y17 b19) 1349 []⟩
noncomputable def z0_52:S:=⟨Tm.mk 212 (selT (u0_0 a b op7 nm8 ks9 p10 x16 y17 b19 x26 m29 x36 m39) 6291854438692937880917 []),selR (v0_0 op7 nm8 ks9 p10 x16 y17 b19) 1365 []⟩
noncomputable def z0_53:S:=⟨Tm.mk 212 (selT (u0_0 a b op7 nm8 ks9 p10 x16 y17 b19 x26 m29 x36 m39) 6291854438692937876821 []),selR (v0_0 op7 nm8 ks9 p10 x16 y17 b19) 1349 []⟩
noncomputable def z0_54:S:=⟨Tm.mk 212 (selT (u0_0 a b op7 nm8 ks9 p10 x16 y17 b19 x26 m29 x36 m39) 1569487955823292667221 []),selR (v0_0 op7 nm8 ks9 p10 x16 y17 b19) 1365 []⟩
noncomputable def z0_55:S:=⟨Tm.mk 212 (selT (u0_0 a b op7 nm8 ks9 p10 x16 y17 b19 x26 m29 x36 m39) 1569487955823292663125 []),selR (v0_0 op7 nm8 ks9 p10 x16 y17 b19) 1349 []⟩
noncomputable def z0_56:S:=⟨Tm.mk 212 (selT (u0_0 a b op7 nm8 ks9 p10 x16 y17 b19 x26 m29 x36 m39) 6291871327191540520277 []),selR (v0_0 op7 nm8 ks9 p10 x16 y17 b19) 1365 []⟩
noncomputable def z0_57:S:=⟨Tm.mk 212 (selT (u0_0 a b op7 nm8 ks9 p10 x16 y17 b19 x26 m29 x36 m39) 6291871327191540516181 []),selR (v0_0 op7 nm8 ks9 p10 x16 y17 b19) 1349 []⟩
noncomputable def z0_58:S:=⟨Tm.mk 212 (selT (u0_0 a b op7 nm8 ks9 p10 x16 y17 b19 x26 m29 x36 m39) 1569504844321895306581 []),selR (v0_0 op7 nm8 ks9 p10 x16 y17 b19) 1365 []⟩
noncomputable def z0_59:S:=⟨Tm.mk 212 (selT (u0_0 a b op7 nm8 ks9 p10 x16 y17 b19 x26 m29 x36 m39) 1569504844321895302485 []),selR (v0_0 op7 nm8 ks9 p10 x16 y17 b19) 1349 []⟩
noncomputable def z0_60:S:=⟨Tm.mk 212 (selT (u0_0 a b op7 nm8 ks9 p10 x16 y17 b19 x26 m29 x36 m39) 6291853312793031038293 []),selR (v0_0 op7 nm8 ks9 p10 x16 y17 b19) 1365 []⟩
noncomputable def z0_61:S:=⟨Tm.mk 212 (selT (u0_0 a b op7 nm8 ks9 p10 x16 y17 b19 x26 m29 x36 m39) 6291853312793031034197 []),selR (v0_0 op7 nm8 ks9 p10 x16 y17 b19) 1349 []⟩
noncomputable def z0_62:S:=⟨Tm.mk 212 (selT (u0_0 a b op7 nm8 ks9 p10 x16 y17 b19 x26 m29 x36 m39) 1569486829923385824597 []),selR (v0_0 op7 nm8 ks9 p10 x16 y17 b19) 1365 []⟩
def a0_0:List Nat:=[0,1,2,3,4,5,6,7,8,9,10,11,12,13,14,15,16,17,18,19,20,21,22,23]
def a0_1:List Nat:=[0,1,2,3,4,5,6,7,8,9,10,11,12,13,14,15,16,17,18,19,20,21,22]
def a0_2:List Nat:=[0,1,2,3,4,5,6,7,8,9,10,11,12,13,14,15,16,17,18,19,20]
def a0_3:List Nat:=[0,1,2,3,4,5,6,7,8,9,10,11,12,13,14,15,16,17,18,19,20,22]
def a0_4:List Nat:=[0,1,2,3,4,5,6,7,8,9,10,11,12,13,14,15,16,17,18,19,22]
def a0_5:List Nat:=[0,1,2,3,4,5,6,7,8,9,10,11,12,13,14,15,16,17,18,19]
def a0_6:List Nat:=[0,1,2,3,4,5,6,7,8,9,10,11,12,13,14,15,16,17,18,22]
def a0_7:List Nat:=[0,1,2,3,4,5,6,7,8,9,10,11,12,13,14,15,16,17,18]
def a0_8:List Nat:=[0,1,2,3,4,5,6,7,8,9,10,11,12,13,15,16,17,18,19,22]
def a0_9:List Nat:=[0,1,2,3,4,5,6,7,8,9,10,11,12,13,15,16,17,18,19]
def a0_10:List Nat:=[0,1,2,3,4,5,6,7,8,9,10,11,12,13,15,16,17,18,22]
def a0_11:List Nat:=[0,1,2,3,4,5,6,7,8,9,10,11,12,13,15,16,17,18]
def a0_12:List Nat:=[0,1,2,3,4,5,6,7,8,9,11,12,13,15,16,17,18,19,22]
def a0_13:List Nat:=[0,1,2,3,4,5,6,7,8,9,11,12,13,15,16,17,18,19]
def a0_14:List Nat:=[0,1,2,3,4,5,6,7,8,9,11,12,13,15,16,17,18,22]
def a0_15:List Nat:=[0,1,2,3,4,5,6,7,8,9,11,12,13,15,16,17,18]
def a0_16:List Nat:=[0,1,2,3,4,5,6,7,8,10,11,12,13,15,16,17,18,19,22]
def a0_17:List Nat:=[0,1,2,3,4,5,6,7,8,10,11,12,13,15,16,17,18,19]
def a0_18:List Nat:=[0,1,2,3,4,5,6,7,8,10,11,12,13,15,16,17,18,22]
def a0_19:List Nat:=[0,1,2,3,4,5,6,7,8,10,11,12,13,15,16,17,18]
def a0_20:List Nat:=[0,1,2,3,4,5,6,7,8,11,12,13,15,16,17,18,19,22]
def a0_21:List Nat:=[0,1,2,3,4,5,6,7,8,11,12,13,15,16,17,18,19]
def a0_22:List Nat:=[0,1,2,3,4,5,6,7,8,11,12,13,15,16,17,18,22]
def a0_23:List Nat:=[0,1,2,3,4,5,6,7,8,11,12,13,15,16,17,18]
def a0_24:List Nat:=[0,1,2,3,4,5,6,7,10,11,12,13,15,16,17,18,19,22]
def a0_25:List Nat:=[0,1,2,3,4,5,6,7,10,11,12,13,15,16,17,18,19]
def a0_26:List Nat:=[0,1,2,3,4,5,6,7,10,11,12,13,15,16,17,18,22]
def a0_27:List Nat:=[0,1,2,3,4,5,6,7,10,11,12,13,15,16,17,18]
def a0_28:List Nat:=[0,1,2,3,4,5,6,7,11,12,13,15,16,17,18,19,22]
def a0_29:List Nat:=[0,1,2,3,4,5,6,7,11,12,13,15,16,17,18,19]
def a0_30:List Nat:=[0,1,2,3,4,5,6,7,11,12,13,15,16,17,18,22]
def a0_31:List Nat:=[0,1,2,3,4,5,6,7,11,12,13,15,16,17,18]
def a0_32:List Nat:=[0,1,2,4,5,6,7,8,10,11,12,13,15,16,17,18,19,22]
def a0_33:List Nat:=[0,1,2,4,5,6,7,8,10,11,12,13,15,16,17,18,19]
def a0_34:List Nat:=[0,1,2,4,5,6,7,8,10,11,12,13,15,16,17,18,22]
def a0_35:List Nat:=[0,1,2,4,5,6,7,8,10,11,12,13,15,16,17,18]
def a0_36:List Nat:=[0,1,2,4,5,6,7,8,11,12,13,15,16,17,18,19,22]
def a0_37:List Nat:=[0,1,2,4,5,6,7,8,11,12,13,15,16,17,18,19]
def a0_38:List Nat:=[0,1,2,4,5,6,7,8,11,12,13,15,16,17,18,22]
def a0_39:List Nat:=[0,1,2,4,5,6,7,8,11,12,13,15,16,17,18]
def a0_40:List Nat:=[0,1,2,4,5,6,7,10,11,12,13,15,16,17,18,19,22]
def a0_41:List Nat:=[0,1,2,4,5,6,7,10,11,12,13,15,16,17,18,19]
def a0_42:List Nat:=[0,1,2,4,5,6,7,10,11,12,13,15,16,17,18,22]
def a0_43:List Nat:=[0,1,2,4,5,6,7,10,11,12,13,15,16,17,18]
def a0_44:List Nat:=[0,1,2,4,5,6,7,11,12,13,15,16,17,18,19,22]
def a0_45:List Nat:=[0,1,2,4,5,6,7,11,12,13,15,16,17,18,19]
def a0_46:List Nat:=[0,1,2,4,5,6,7,11,12,13,15,16,17,18,22]
def a0_47:List Nat:=[0,1,2,4,5,6,7,11,12,13,15,16,17,18]
def a0_48:List Nat:=[1,2,4,5,6,7,8,10,11,12,13,15,16,17,18,19,22]
def a0_49:List Nat:=[1,2,4,5,6,7,8,10,11,12,13,15,16,17,18,19]
def a0_50:List Nat:=[1,2,4,5,6,7,8,10,11,12,13,15,16,17,18,22]
def a0_51:List Nat:=[1,2,4,5,6,7,8,10,11,12,13,15,16,17,18]
def a0_52:List Nat:=[1,2,4,5,6,7,8,11,12,13,15,16,17,18,19,22]
def a0_53:List Nat:=[1,2,4,5,6,7,8,11,12,13,15,16,17,18,19]
def a0_54:List Nat:=[1,2,4,5,6,7,8,11,12,13,15,16,17,18,22]
def a0_55:List Nat:=[1,2,4,5,6,7,8,11,12,13,15,16,17,18]
def a0_56:List Nat:=[1,2,4,5,6,7,10,11,12,13,15,16,17,18,19,22]
def a0_57:List Nat:=[1,2,4,5,6,7,10,11,12,13,15,16,17,18,19]
def a0_58:List Nat:=[1,2,4,5,6,7,10,11,12,13,15,16,17,18,22]
def a0_59:List Nat:=[1,2,4,5,6,7,10,11,12,13,15,16,17,18]
def a0_60:List Nat:=[1,2,4,5,6,7,11,12,13,15,16,17,18,19,22]
def a0_61:List Nat:=[1,2,4,5,6,7,11,12,13,15,16,17,18,19]
def a0_62:List Nat:=[1,2,4,5,6,7,11,12,13,15,16,17,18,22]
theorem n0_0:regA Tryz.prog WY R0 B0 1 a0_0 (z0_0 a b op7 nm8 ks9 p10 x16 y17 b19 x26 m29 x36 m39) kont20=kont20 (z0_0 a b op7 nm8 ks9 p10 x16 y17 b19 x26 m29 x36 m39):=by
   kernel_rfl
theorem n0_1:regA Tryz.prog WY R0 B0 2 a0_1 (z0_1 a b op7 nm8 ks9 p10 x16 y17 b19 x26 m29 x36 m39) kont20=kont20 (z0_0 a b op7 nm8 ks9 p10 x16 y17 b19 x26 m29 x36 m39):=by
   refine(show _=regA Tryz.prog WY R0 B0 1 a0_0 (z0_0 a b op7 nm8 ks9 p10 x16 y17 b19 x26 m29 x36 m39) kont20 from by kernel_rfl).trans ?_
   simp only[n0_0]
theorem n0_2:regA Tryz.prog WY R0 B0 4 a0_2 (z0_2 a b op7 nm8 ks9 p10 x16 y17 b19 x26 m29 x36 m39) kont20=kont20 (z0_0 a b op7 nm8 ks9 p10 x16 y17 b19 x26 m29 x36 m39):=by
   refine(show _=regA Tryz.prog WY R0 B0 2 a0_1 (z0_1 a b op7 nm8 ks9 p10 x16 y17 b19 x26 m29 x36 m39) kont20 from by kernel_rfl).trans ?_
   simp only[n0_1]
theorem n0_3:regA Tryz.prog WY R0 B0 3 a0_3 (z0_3 a b op7 nm8 ks9 p10 x16 y17 b19 x26 m29 x36 m39) kont20=kont20 (z0_0 a b op7 nm8 ks9 p10 x16 y17 b19 x26 m29 x36 m39):=by
   refine(show _=regA Tryz.prog WY R0 B0 1 a0_0 (z0_0 a b op7 nm8 ks9 p10 x16 y17 b19 x26 m29 x36 m39) kont20 from by kernel_rfl).trans ?_
   simp only[n0_0]
noncomputable def t0_0:Option β:=if List.length (List.take (Int.toNat (↑(List.length (loopOf y17)):Int) - 1) (List.drop 1 (loopOf y17)))+1≤34359738368 then kont20 (z0_0 a b op7 nm8 ks9 p10 x16 y17 b19 x26 m29 x36 m39)else none
theorem n0_4:regA Tryz.prog WY R0 B0 4 a0_4 (z0_4 a b op7 nm8 ks9 p10 x16 y17 b19 x26 m29 x36 m39) kont20=t0_0 a b op7 nm8 ks9 p10 x16 y17 b19 x26 m29 x36 m39 kont20:=by
   refine(show _=if List.length (List.take (Int.toNat (↑(List.length (loopOf y17)):Int) - 1) (List.drop 1 (loopOf y17)))+1≤34359738368 then
   regA Tryz.prog WY R0 B0 3 a0_3 (z0_3 a b op7 nm8 ks9 p10 x16 y17 b19 x26 m29 x36 m39) kont20
  else none from by kernel_rfl).trans ?_
   first|(simp only[n0_3];rfl)|simp only[n0_3,t0_0]
theorem n0_5:regA Tryz.prog WY R0 B0 5 a0_5 (z0_5 a b op7 nm8 ks9 p10 x16 y17 b19 x26 m29 x36 m39) kont20=t0_0 a b op7 nm8 ks9 p10 x16 y17 b19 x26 m29 x36 m39 kont20:=by
   refine(show _=meet
   (if List.length (List.take (Int.toNat (↑(List.length (loopOf y17)):Int) - 1) (List.drop 1 (loopOf y17)))+1≤34359738368 then
    regA Tryz.prog WY R0 B0 4 a0_2 (z0_2 a b op7 nm8 ks9 p10 x16 y17 b19 x26 m29 x36 m39) kont20
   else none)
   (regA Tryz.prog WY R0 B0 4 a0_4 (z0_4 a b op7 nm8 ks9 p10 x16 y17 b19 x26 m29 x36 m39) kont20)from by kernel_rfl).trans ?_
   simp only[n0_2,n0_4,Go.Sc.meet_self,t0_0]
theorem n0_6:regA Tryz.prog WY R0 B0 5 a0_6 (z0_6 a b op7 nm8 ks9 p10 x16 y17 b19 x26 m29 x36 m39) kont20=t0_0 a b op7 nm8 ks9 p10 x16 y17 b19 x26 m29 x36 m39 kont20:=by
   refine(show _=regA Tryz.prog WY R0 B0 4 a0_4 (z0_4 a b op7 nm8 ks9 p10 x16 y17 b19 x26 m29 x36 m39) kont20 from by kernel_rfl).trans ?_
   simp only[n0_4,t0_0]
theorem n0_7:regA Tryz.prog WY R0 B0 6 a0_7 (z0_7 a b op7 nm8 ks9 p10 x16 y17 b19 x26 m29 x36 m39) kont20=t0_0 a b op7 nm8 ks9 p10 x16 y17 b19 x26 m29 x36 m39 kont20:=by
   refine(show _=meet (regA Tryz.prog WY R0 B0 5 a0_5 (z0_5 a b op7 nm8 ks9 p10 x16 y17 b19 x26 m29 x36 m39) kont20) (regA Tryz.prog WY R0 B0 5 a0_6 (z0_6 a b op7 nm8 ks9 p10 x16 y17 b19 x26 m29 x36 m39) kont20)from by kernel_rfl).trans ?_
   first|(simp only[n0_5,n0_6,Go.Sc.meet_self];done)|simp only[n0_5,n0_6,Go.Sc.meet_self,t0_0]
noncomputable def t0_1:Option β:=if 0+List.length (List.take (Int.toNat (↑(List.length (loopOf y17)):Int) - 1) (List.drop 1 (loopOf y17)))≤34359738368 then t0_0 a b op7 nm8 ks9 p10 x16 y17 b19 x26 m29 x36 m39 kont20 else none
theorem n0_8:regA Tryz.prog WY R0 B0 5 a0_8 (z0_8 a b op7 nm8 ks9 p10 x16 y17 b19 x26 m29 x36 m39) kont20=t0_1 a b op7 nm8 ks9 p10 x16 y17 b19 x26 m29 x36 m39 kont20:=by
   refine(show _=if 0+List.length (List.take (Int.toNat (↑(List.length (loopOf y17)):Int) - 1) (List.drop 1 (loopOf y17)))≤34359738368 then
   regA Tryz.prog WY R0 B0 4 a0_4 (z0_4 a b op7 nm8 ks9 p10 x16 y17 b19 x26 m29 x36 m39) kont20
  else none from by kernel_rfl).trans ?_
   first|(simp only[n0_4];rfl)|simp only[n0_4,t0_0,t0_1]
theorem n0_9:regA Tryz.prog WY R0 B0 6 a0_9 (z0_9 a b op7 nm8 ks9 p10 x16 y17 b19 x26 m29 x36 m39) kont20=t0_1 a b op7 nm8 ks9 p10 x16 y17 b19 x26 m29 x36 m39 kont20:=by
   refine(show _=meet
   (if 0+List.length (List.take (Int.toNat (↑(List.length (loopOf y17)):Int) - 1) (List.drop 1 (loopOf y17)))≤34359738368 then
    regA Tryz.prog WY R0 B0 5 a0_5 (z0_5 a b op7 nm8 ks9 p10 x16 y17 b19 x26 m29 x36 m39) kont20
   else none)
   (regA Tryz.prog WY R0 B0 5 a0_8 (z0_8 a b op7 nm8 ks9 p10 x16 y17 b19 x26 m29 x36 m39) kont20)from by kernel_rfl).trans ?_
   simp only[n0_5,n0_8,Go.Sc.meet_self,t0_0,t0_1]
theorem n0_10:regA Tryz.prog WY R0 B0 6 a0_10 (z0_10 a b op7 nm8 ks9 p10 x16 y17 b19 x26 m29 x36 m39) kont20=t0_1 a b op7 nm8 ks9 p10 x16 y17 b19 x26 m29 x36 m39 kont20:=by
   refine(show _=meet
   (if 0+List.length (List.take (Int.toNat (↑(List.length (loopOf y17)):Int) - 1) (List.drop 1 (loopOf y17)))≤34359738368 then
    regA Tryz.prog WY R0 B0 5 a0_6 (z0_6 a b op7 nm8 ks9 p10 x16 y17 b19 x26 m29 x36 m39) kont20
   else none)
   (regA Tryz.prog WY R0 B0 5 a0_8 (z0_8 a b op7 nm8 ks9 p10 x16 y17 b19 x26 m29 x36 m39) kont20)from by kernel_rfl).trans ?_
   simp only[n0_6,n0_8,Go.Sc.meet_self,t0_0,t0_1]
theorem n0_11:regA Tryz.prog WY R0 B0 7 a0_11 (z0_11 a b op7 nm8 ks9 p10 x16 y17 b19 x26 m29 x36 m39) kont20=t0_1 a b op7 nm8 ks9 p10 x16 y17 b19 x26 m29 x36 m39 kont20:=by
   refine(show _=meet
   (if 0+List.length (List.take (Int.toNat (↑(List.length (loopOf y17)):Int) - 1) (List.drop 1 (loopOf y17)))≤34359738368 then
    regA Tryz.prog WY R0 B0 6 a0_7 (z0_7 a b op7 nm8 ks9 p10 x16 y17 b19 x26 m29 x36 m39) kont20
   else none)
   (meet (regA Tryz.prog WY R0 B0 6 a0_9 (z0_9 a b op7 nm8 ks9 p10 x16 y17 b19 x26 m29 x36 m39) kont20) (regA Tryz.prog WY R0 B0 6 a0_10 (z0_10 a b op7 nm8 ks9 p10 x16 y17 b19 x26 m29 x36 m39) kont20))from by kernel_rfl).trans ?_
   simp only[n0_7,n0_9,n0_10,Go.Sc.meet_self,t0_0,t0_1]
theorem n0_12:regA Tryz.prog WY R0 B0 6 a0_12 (z0_12 a b op7 nm8 ks9 p10 x16 y17 b19 x26 m29 x36 m39) kont20=t0_1 a b op7 nm8 ks9 p10 x16 y17 b19 x26 m29 x36 m39 kont20:=by
   refine(show _=regA Tryz.prog WY R0 B0 5 a0_8 (z0_8 a b op7 nm8 ks9 p10 x16 y17 b19 x26 m29 x36 m39) kont20 from by kernel_rfl).trans ?_
   simp only[n0_8,t0_0,t0_1]
theorem n0_13:regA Tryz.prog WY R0 B0 7 a0_13 (z0_13 a b op7 nm8 ks9 p10 x16 y17 b19 x26 m29 x36 m39) kont20=t0_1 a b op7 nm8 ks9 p10 x16 y17 b19 x26 m29 x36 m39 kont20:=by
   refine(show _=meet (regA Tryz.prog WY R0 B0 6 a0_9 (z0_9 a b op7 nm8 ks9 p10 x16 y17 b19 x26 m29 x36 m39) kont20) (regA Tryz.prog WY R0 B0 6 a0_12 (z0_12 a b op7 nm8 ks9 p10 x16 y17 b19 x26 m29 x36 m39) kont20)from by kernel_rfl).trans ?_
   first|(simp only[n0_9,n0_12,Go.Sc.meet_self];done)|simp only[n0_9,n0_12,Go.Sc.meet_self,t0_0,t0_1]
theorem n0_14:regA Tryz.prog WY R0 B0 7 a0_14 (z0_14 a b op7 nm8 ks9 p10 x16 y17 b19 x26 m29 x36 m39) kont20=t0_1 a b op7 nm8 ks9 p10 x16 y17 b19 x26 m29 x36 m39 kont20:=by
   refine(show _=meet (regA Tryz.prog WY R0 B0 6 a0_10 (z0_10 a b op7 nm8 ks9 p10 x16 y17 b19 x26 m29 x36 m39) kont20) (regA Tryz.prog WY R0 B0 6 a0_12 (z0_12 a b op7 nm8 ks9 p10 x16 y17 b19 x26 m29 x36 m39) kont20)from by kernel_rfl).trans ?_
   first|(simp only[n0_10,n0_12,Go.Sc.meet_self];done)|simp only[n0_10,n0_12,Go.Sc.meet_self,t0_0,t0_1]
theorem n0_15:regA Tryz.prog WY R0 B0 8 a0_15 (z0_15 a b op7 nm8 ks9 p10 x16 y17 b19 x26 m29 x36 m39) kont20=t0_1 a b op7 nm8 ks9 p10 x16 y17 b19 x26 m29 x36 m39 kont20:=by
   refine(show _=meet (regA Tryz.prog WY R0 B0 7 a0_11 (z0_11 a b op7 nm8 ks9 p10 x16 y17 b19 x26 m29 x36 m39) kont20)
   (meet (regA Tryz.prog WY R0 B0 7 a0_13 (z0_13 a b op7 nm8 ks9 p10 x16 y17 b19 x26 m29 x36 m39) kont20) (regA Tryz.prog WY R0 B0 7 a0_14 (z0_14 a b op7 nm8 ks9 p10 x16 y17 b19 x26 m29 x36 m39) kont20))from by kernel_rfl).trans ?_
   first|(simp only[n0_11,n0_13,n0_14,Go.Sc.meet_self];done)|simp only[n0_11,n0_13,n0_14,Go.Sc.meet_self,t0_0,t0_1]
noncomputable def t0_2:Option β:=if x16.length+1≤34359738368 then t0_1 a b op7 nm8 ks9 p10 x16 y17 b19 x26 m29 x36 m39 kont20 else none
theorem n0_16:regA Tryz.prog WY R0 B0 6 a0_16 (z0_16 a b op7 nm8 ks9 p10 x16 y17 b19 x26 m29 x36 m39) kont20=t0_2 a b op7 nm8 ks9 p10 x16 y17 b19 x26 m29 x36 m39 kont20:=by
   refine(show _=if x16.length+1≤34359738368 then regA Tryz.prog WY R0 B0 5 a0_8 (z0_8 a b op7 nm8 ks9 p10 x16 y17 b19 x26 m29 x36 m39) kont20 else none from by kernel_rfl).trans ?_
   first|(simp only[n0_8];rfl)|simp only[n0_8,t0_0,t0_1,t0_2]
theorem n0_17:regA Tryz.prog WY R0 B0 7 a0_17 (z0_17 a b op7 nm8 ks9 p10 x16 y17 b19 x26 m29 x36 m39) kont20=t0_2 a b op7 nm8 ks9 p10 x16 y17 b19 x26 m29 x36 m39 kont20:=by
   refine(show _=meet (if x16.length+1≤34359738368 then regA Tryz.prog WY R0 B0 6 a0_9 (z0_9 a b op7 nm8 ks9 p10 x16 y17 b19 x26 m29 x36 m39) kont20 else none)
   (regA Tryz.prog WY R0 B0 6 a0_16 (z0_16 a b op7 nm8 ks9 p10 x16 y17 b19 x26 m29 x36 m39) kont20)from by kernel_rfl).trans ?_
   simp only[n0_9,n0_16,Go.Sc.meet_self,t0_0,t0_1,t0_2]
theorem n0_18:regA Tryz.prog WY R0 B0 7 a0_18 (z0_18 a b op7 nm8 ks9 p10 x16 y17 b19 x26 m29 x36 m39) kont20=t0_2 a b op7 nm8 ks9 p10 x16 y17 b19 x26 m29 x36 m39 kont20:=by
   refine(show _=meet (if x16.length+1≤34359738368 then regA Tryz.prog WY R0 B0 6 a0_10 (z0_10 a b op7 nm8 ks9 p10 x16 y17 b19 x26 m29 x36 m39) kont20 else none)
   (regA Tryz.prog WY R0 B0 6 a0_16 (z0_16 a b op7 nm8 ks9 p10 x16 y17 b19 x26 m29 x36 m39) kont20)from by kernel_rfl).trans ?_
   simp only[n0_10,n0_16,Go.Sc.meet_self,t0_0,t0_1,t0_2]
theorem n0_19:regA Tryz.prog WY R0 B0 8 a0_19 (z0_19 a b op7 nm8 ks9 p10 x16 y17 b19 x26 m29 x36 m39) kont20=t0_2 a b op7 nm8 ks9 p10 x16 y17 b19 x26 m29 x36 m39 kont20:=by
   refine(show _=meet (if x16.length+1≤34359738368 then regA Tryz.prog WY R0 B0 7 a0_11 (z0_11 a b op7 nm8 ks9 p10 x16 y17 b19 x26 m29 x36 m39) kont20 else none)
   (meet (regA Tryz.prog WY R0 B0 7 a0_17 (z0_17 a b op7 nm8 ks9 p10 x16 y17 b19 x26 m29 x36 m39) kont20) (regA Tryz.prog WY R0 B0 7 a0_18 (z0_18 a b op7 nm8 ks9 p10 x16 y17 b19 x26 m29 x36 m39) kont20))from by kernel_rfl).trans ?_
   simp only[n0_11,n0_17,n0_18,Go.Sc.meet_self,t0_0,t0_1,t0_2]
theorem n0_20:regA Tryz.prog WY R0 B0 7 a0_20 (z0_20 a b op7 nm8 ks9 p10 x16 y17 b19 x26 m29 x36 m39) kont20=t0_2 a b op7 nm8 ks9 p10 x16 y17 b19 x26 m29 x36 m39 kont20:=by
   refine(show _=meet (if x16.length+1≤34359738368 then regA Tryz.prog WY R0 B0 6 a0_12 (z0_12 a b op7 nm8 ks9 p10 x16 y17 b19 x26 m29 x36 m39) kont20 else none)
   (regA Tryz.prog WY R0 B0 6 a0_16 (z0_16 a b op7 nm8 ks9 p10 x16 y17 b19 x26 m29 x36 m39) kont20)from by kernel_rfl).trans ?_
   simp only[n0_12,n0_16,Go.Sc.meet_self,t0_0,t0_1,t0_2]
theorem n0_21:regA Tryz.prog WY R0 B0 8 a0_21 (z0_21 a b op7 nm8 ks9 p10 x16 y17 b19 x26 m29 x36 m39) kont20=t0_2 a b op7 nm8 ks9 p10 x16 y17 b19 x26 m29 x36 m39 kont20:=by
   refine(show _=meet (if x16.length+1≤34359738368 then regA Tryz.prog WY R0 B0 7 a0_13 (z0_13 a b op7 nm8 ks9 p10 x16 y17 b19 x26 m29 x36 m39) kont20 else none)
   (meet (regA Tryz.prog WY R0 B0 7 a0_17 (z0_17 a b op7 nm8 ks9 p10 x16 y17 b19 x26 m29 x36 m39) kont20) (regA Tryz.prog WY R0 B0 7 a0_20 (z0_20 a b op7 nm8 ks9 p10 x16 y17 b19 x26 m29 x36 m39) kont20))from by kernel_rfl).trans ?_
   simp only[n0_13,n0_17,n0_20,Go.Sc.meet_self,t0_0,t0_1,t0_2]
theorem n0_22:regA Tryz.prog WY R0 B0 8 a0_22 (z0_22 a b op7 nm8 ks9 p10 x16 y17 b19 x26 m29 x36 m39) kont20=t0_2 a b op7 nm8 ks9 p10 x16 y17 b19 x26 m29 x36 m39 kont20:=by
   refine(show _=meet (if x16.length+1≤34359738368 then regA Tryz.prog WY R0 B0 7 a0_14 (z0_14 a b op7 nm8 ks9 p10 x16 y17 b19 x26 m29 x36 m39) kont20 else none)
   (meet (regA Tryz.prog WY R0 B0 7 a0_18 (z0_18 a b op7 nm8 ks9 p10 x16 y17 b19 x26 m29 x36 m39) kont20) (regA Tryz.prog WY R0 B0 7 a0_20 (z0_20 a b op7 nm8 ks9 p10 x16 y17 b19 x26 m29 x36 m39) kont20))from by kernel_rfl).trans ?_
   simp only[n0_14,n0_18,n0_20,Go.Sc.meet_self,t0_0,t0_1,t0_2]
theorem n0_23:regA Tryz.prog WY R0 B0 9 a0_23 (z0_23 a b op7 nm8 ks9 p10 x16 y17 b19 x26 m29 x36 m39) kont20=t0_2 a b op7 nm8 ks9 p10 x16 y17 b19 x26 m29 x36 m39 kont20:=by
   refine(show _=meet (if x16.length+1≤34359738368 then regA Tryz.prog WY R0 B0 8 a0_15 (z0_15 a b op7 nm8 ks9 p10 x16 y17 b19 x26 m29 x36 m39) kont20 else none)
   (meet (regA Tryz.prog WY R0 B0 8 a0_19 (z0_19 a b op7 nm8 ks9 p10 x16 y17 b19 x26 m29 x36 m39) kont20)
    (meet (regA Tryz.prog WY R0 B0 8 a0_21 (z0_21 a b op7 nm8 ks9 p10 x16 y17 b19 x26 m29 x36 m39) kont20)
     (regA Tryz.prog WY R0 B0 8 a0_22 (z0_22 a b op7 nm8 ks9 p10 x16 y17 b19 x26 m29 x36 m39) kont20)))from by kernel_rfl).trans ?_
   simp only[n0_15,n0_19,n0_21,n0_22,Go.Sc.meet_self,t0_0,t0_1,t0_2]
theorem n0_24:regA Tryz.prog WY R0 B0 7 a0_24 (z0_24 a b op7 nm8 ks9 p10 x16 y17 b19 x26 m29 x36 m39) kont20=t0_2 a b op7 nm8 ks9 p10 x16 y17 b19 x26 m29 x36 m39 kont20:=by
   refine(show _=regA Tryz.prog WY R0 B0 6 a0_16 (z0_16 a b op7 nm8 ks9 p10 x16 y17 b19 x26 m29 x36 m39) kont20 from by kernel_rfl).trans ?_
   simp only[n0_16,t0_0,t0_1,t0_2]
theorem n0_25:regA Tryz.prog WY R0 B0 8 a0_25 (z0_25 a b op7 nm8 ks9 p10 x16 y17 b19 x26 m29 x36 m39) kont20=t0_2 a b op7 nm8 ks9 p10 x16 y17 b19 x26 m29 x36 m39 kont20:=by
   refine(show _=meet (regA Tryz.prog WY R0 B0 7 a0_17 (z0_17 a b op7 nm8 ks9 p10 x16 y17 b19 x26 m29 x36 m39) kont20) (regA Tryz.prog WY R0 B0 7 a0_24 (z0_24 a b op7 nm8 ks9 p10 x16 y17 b19 x26 m29 x36 m39) kont20)from by kernel_rfl).trans ?_
   first|(simp only[n0_17,n0_24,Go.Sc.meet_self];done)|simp only[n0_17,n0_24,Go.Sc.meet_self,t0_0,t0_1,t0_2]
theorem n0_26:regA Tryz.prog WY R0 B0 8 a0_26 (z0_26 a b op7 nm8 ks9 p10 x16 y17 b19 x26 m29 x36 m39) kont20=t0_2 a b op7 nm8 ks9 p10 x16 y17 b19 x26 m29 x36 m39 kont20:=by
   refine(show _=meet (regA Tryz.prog WY R0 B0 7 a0_18 (z0_18 a b op7 nm8 ks9 p10 x16 y17 b19 x26 m29 x36 m39) kont20) (regA Tryz.prog WY R0 B0 7 a0_24 (z0_24 a b op7 nm8 ks9 p10 x16 y17 b19 x26 m29 x36 m39) kont20)from by kernel_rfl).trans ?_
   first|(simp only[n0_18,n0_24,Go.Sc.meet_self];done)|simp only[n0_18,n0_24,Go.Sc.meet_self,t0_0,t0_1,t0_2]
theorem n0_27:regA Tryz.prog WY R0 B0 9 a0_27 (z0_27 a b op7 nm8 ks9 p10 x16 y17 b19 x26 m29 x36 m39) kont20=t0_2 a b op7 nm8 ks9 p10 x16 y17 b19 x26 m29 x36 m39 kont20:=by
   refine(show _=meet (regA Tryz.prog WY R0 B0 8 a0_19 (z0_19 a b op7 nm8 ks9 p10 x16 y17 b19 x26 m29 x36 m39) kont20)
   (meet (regA Tryz.prog WY R0 B0 8 a0_25 (z0_25 a b op7 nm8 ks9 p10 x16 y17 b19 x26 m29 x36 m39) kont20) (regA Tryz.prog WY R0 B0 8 a0_26 (z0_26 a b op7 nm8 ks9 p10 x16 y17 b19 x26 m29 x36 m39) kont20))from by kernel_rfl).trans ?_
   first|(simp only[n0_19,n0_25,n0_26,Go.Sc.meet_self];done)|simp only[n0_19,n0_25,n0_26,Go.Sc.meet_self,t0_0,t0_1,t0_2]
theorem n0_28:regA Tryz.prog WY R0 B0 8 a0_28 (z0_28 a b op7 nm8 ks9 p10 x16 y17 b19 x26 m29 x36 m39) kont20=t0_2 a b op7 nm8 ks9 p10 x16 y17 b19 x26 m29 x36 m39 kont20:=by
   refine(show _=meet (regA Tryz.prog WY R0 B0 7 a0_20 (z0_20 a b op7 nm8 ks9 p10 x16 y17 b19 x26 m29 x36 m39) kont20) (regA Tryz.prog WY R0 B0 7 a0_24 (z0_24 a b op7 nm8 ks9 p10 x16 y17 b19 x26 m29 x36 m39) kont20)from by kernel_rfl).trans ?_
   first|(simp only[n0_20,n0_24,Go.Sc.meet_self];done)|simp only[n0_20,n0_24,Go.Sc.meet_self,t0_0,t0_1,t0_2]
theorem n0_29:regA Tryz.prog WY R0 B0 9 a0_29 (z0_29 a b op7 nm8 ks9 p10 x16 y17 b19 x26 m29 x36 m39) kont20=t0_2 a b op7 nm8 ks9 p10 x16 y17 b19 x26 m29 x36 m39 kont20:=by
   refine(show _=meet (regA Tryz.prog WY R0 B0 8 a0_21 (z0_21 a b op7 nm8 ks9 p10 x16 y17 b19 x26 m29 x36 m39) kont20)
   (meet (regA Tryz.prog WY R0 B0 8 a0_25 (z0_25 a b op7 nm8 ks9 p10 x16 y17 b19 x26 m29 x36 m39) kont20) (regA Tryz.prog WY R0 B0 8 a0_28 (z0_28 a b op7 nm8 ks9 p10 x16 y17 b19 x26 m29 x36 m39) kont20))from by kernel_rfl).trans ?_
   first|(simp only[n0_21,n0_25,n0_28,Go.Sc.meet_self];done)|simp only[n0_21,n0_25,n0_28,Go.Sc.meet_self,t0_0,t0_1,t0_2]
theorem n0_30:regA Tryz.prog WY R0 B0 9 a0_30 (z0_30 a b op7 nm8 ks9 p10 x16 y17 b19 x26 m29 x36 m39) kont20=t0_2 a b op7 nm8 ks9 p10 x16 y17 b19 x26 m29 x36 m39 kont20:=by
   refine(show _=meet (regA Tryz.prog WY R0 B0 8 a0_22 (z0_22 a b op7 nm8 ks9 p10 x16 y17 b19 x26 m29 x36 m39) kont20)
   (meet (regA Tryz.prog WY R0 B0 8 a0_26 (z0_26 a b op7 nm8 ks9 p10 x16 y17 b19 x26 m29 x36 m39) kont20) (regA Tryz.prog WY R0 B0 8 a0_28 (z0_28 a b op7 nm8 ks9 p10 x16 y17 b19 x26 m29 x36 m39) kont20))from by kernel_rfl).trans ?_
   first|(simp only[n0_22,n0_26,n0_28,Go.Sc.meet_self];done)|simp only[n0_22,n0_26,n0_28,Go.Sc.meet_self,t0_0,t0_1,t0_2]
theorem n0_31:regA Tryz.prog WY R0 B0 10 a0_31 (z0_31 a b op7 nm8 ks9 p10 x16 y17 b19 x26 m29 x36 m39) kont20=t0_2 a b op7 nm8 ks9 p10 x16 y17 b19 x26 m29 x36 m39 kont20:=by
   refine(show _=meet (regA Tryz.prog WY R0 B0 9 a0_23 (z0_23 a b op7 nm8 ks9 p10 x16 y17 b19 x26 m29 x36 m39) kont20)
   (meet (regA Tryz.prog WY R0 B0 9 a0_27 (z0_27 a b op7 nm8 ks9 p10 x16 y17 b19 x26 m29 x36 m39) kont20)
    (meet (regA Tryz.prog WY R0 B0 9 a0_29 (z0_29 a b op7 nm8 ks9 p10 x16 y17 b19 x26 m29 x36 m39) kont20)
     (regA Tryz.prog WY R0 B0 9 a0_30 (z0_30 a b op7 nm8 ks9 p10 x16 y17 b19 x26 m29 x36 m39) kont20)))from by kernel_rfl).trans ?_
   first|(simp only[n0_23,n0_27,n0_29,n0_30,Go.Sc.meet_self];done)|simp only[n0_23,n0_27,n0_29,n0_30,Go.Sc.meet_self,t0_0,t0_1,t0_2]
noncomputable def t0_3:Option β:=if 0+x16.length≤34359738368 then t0_2 a b op7 nm8 ks9 p10 x16 y17 b19 x26 m29 x36 m39 kont20 else none
theorem n0_32:regA Tryz.prog WY R0 B0 7 a0_32 (z0_32 a b op7 nm8 ks9 p10 x16 y17 b19 x26 m29 x36 m39) kont20=t0_3 a b op7 nm8 ks9 p10 x16 y17 b19 x26 m29 x36 m39 kont20:=by
   refine(show _=if 0+x16.length≤34359738368 then regA Tryz.prog WY R0 B0 6 a0_16 (z0_16 a b op7 nm8 ks9 p10 x16 y17 b19 x26 m29 x36 m39) kont20 else none from by kernel_rfl).trans ?_
   first|(simp only[n0_16];rfl)|simp only[n0_16,t0_0,t0_1,t0_2,t0_3]
theorem n0_33:regA Tryz.prog WY R0 B0 8 a0_33 (z0_33 a b op7 nm8 ks9 p10 x16 y17 b19 x26 m29 x36 m39) kont20=t0_3 a b op7 nm8 ks9 p10 x16 y17 b19 x26 m29 x36 m39 kont20:=by
   refine(show _=meet (if 0+x16.length≤34359738368 then regA Tryz.prog WY R0 B0 7 a0_17 (z0_17 a b op7 nm8 ks9 p10 x16 y17 b19 x26 m29 x36 m39) kont20 else none)
   (regA Tryz.prog WY R0 B0 7 a0_32 (z0_32 a b op7 nm8 ks9 p10 x16 y17 b19 x26 m29 x36 m39) kont20)from by kernel_rfl).trans ?_
   simp only[n0_17,n0_32,Go.Sc.meet_self,t0_0,t0_1,t0_2,t0_3]
theorem n0_34:regA Tryz.prog WY R0 B0 8 a0_34 (z0_34 a b op7 nm8 ks9 p10 x16 y17 b19 x26 m29 x36 m39) kont20=t0_3 a b op7 nm8 ks9 p10 x16 y17 b19 x26 m29 x36 m39 kont20:=by
   refine(show _=meet (if 0+x16.length≤34359738368 then regA Tryz.prog WY R0 B0 7 a0_18 (z0_18 a b op7 nm8 ks9 p10 x16 y17 b19 x26 m29 x36 m39) kont20 else none)
   (regA Tryz.prog WY R0 B0 7 a0_32 (z0_32 a b op7 nm8 ks9 p10 x16 y17 b19 x26 m29 x36 m39) kont20)from by kernel_rfl).trans ?_
   simp only[n0_18,n0_32,Go.Sc.meet_self,t0_0,t0_1,t0_2,t0_3]
theorem n0_35:regA Tryz.prog WY R0 B0 9 a0_35 (z0_35 a b op7 nm8 ks9 p10 x16 y17 b19 x26 m29 x36 m39) kont20=t0_3 a b op7 nm8 ks9 p10 x16 y17 b19 x26 m29 x36 m39 kont20:=by
   refine(show _=meet (if 0+x16.length≤34359738368 then regA Tryz.prog WY R0 B0 8 a0_19 (z0_19 a b op7 nm8 ks9 p10 x16 y17 b19 x26 m29 x36 m39) kont20 else none)
   (meet (regA Tryz.prog WY R0 B0 8 a0_33 (z0_33 a b op7 nm8 ks9 p10 x16 y17 b19 x26 m29 x36 m39) kont20) (regA Tryz.prog WY R0 B0 8 a0_34 (z0_34 a b op7 nm8 ks9 p10 x16 y17 b19 x26 m29 x36 m39) kont20))from by kernel_rfl).trans ?_
   simp only[n0_19,n0_33,n0_34,Go.Sc.meet_self,t0_0,t0_1,t0_2,t0_3]
theorem n0_36:regA Tryz.prog WY R0 B0 8 a0_36 (z0_36 a b op7 nm8 ks9 p10 x16 y17 b19 x26 m29 x36 m39) kont20=t0_3 a b op7 nm8 ks9 p10 x16 y17 b19 x26 m29 x36 m39 kont20:=by
   refine(show _=meet (if 0+x16.length≤34359738368 then regA Tryz.prog WY R0 B0 7 a0_20 (z0_20 a b op7 nm8 ks9 p10 x16 y17 b19 x26 m29 x36 m39) kont20 else none)
   (regA Tryz.prog WY R0 B0 7 a0_32 (z0_32 a b op7 nm8 ks9 p10 x16 y17 b19 x26 m29 x36 m39) kont20)from by kernel_rfl).trans ?_
   simp only[n0_20,n0_32,Go.Sc.meet_self,t0_0,t0_1,t0_2,t0_3]
theorem n0_37:regA Tryz.prog WY R0 B0 9 a0_37 (z0_37 a b op7 nm8 ks9 p10 x16 y17 b19 x26 m29 x36 m39) kont20=t0_3 a b op7 nm8 ks9 p10 x16 y17 b19 x26 m29 x36 m39 kont20:=by
   refine(show _=meet (if 0+x16.length≤34359738368 then regA Tryz.prog WY R0 B0 8 a0_21 (z0_21 a b op7 nm8 ks9 p10 x16 y17 b19 x26 m29 x36 m39) kont20 else none)
   (meet (regA Tryz.prog WY R0 B0 8 a0_33 (z0_33 a b op7 nm8 ks9 p10 x16 y17 b19 x26 m29 x36 m39) kont20) (regA Tryz.prog WY R0 B0 8 a0_36 (z0_36 a b op7 nm8 ks9 p10 x16 y17 b19 x26 m29 x36 m39) kont20))from by kernel_rfl).trans ?_
   simp only[n0_21,n0_33,n0_36,Go.Sc.meet_self,t0_0,t0_1,t0_2,t0_3]
theorem n0_38:regA Tryz.prog WY R0 B0 9 a0_38 (z0_38 a b op7 nm8 ks9 p10 x16 y17 b19 x26 m29 x36 m39) kont20=t0_3 a b op7 nm8 ks9 p10 x16 y17 b19 x26 m29 x36 m39 kont20:=by
   refine(show _=meet (if 0+x16.length≤34359738368 then regA Tryz.prog WY R0 B0 8 a0_22 (z0_22 a b op7 nm8 ks9 p10 x16 y17 b19 x26 m29 x36 m39) kont20 else none)
   (meet (regA Tryz.prog WY R0 B0 8 a0_34 (z0_34 a b op7 nm8 ks9 p10 x16 y17 b19 x26 m29 x36 m39) kont20) (regA Tryz.prog WY R0 B0 8 a0_36 (z0_36 a b op7 nm8 ks9 p10 x16 y17 b19 x26 m29 x36 m39) kont20))from by kernel_rfl).trans ?_
   simp only[n0_22,n0_34,n0_36,Go.Sc.meet_self,t0_0,t0_1,t0_2,t0_3]
theorem n0_39:regA Tryz.prog WY R0 B0 10 a0_39 (z0_39 a b op7 nm8 ks9 p10 x16 y17 b19 x26 m29 x36 m39) kont20=t0_3 a b op7 nm8 ks9 p10 x16 y17 b19 x26 m29 x36 m39 kont20:=by
   refine(show _=meet (if 0+x16.length≤34359738368 then regA Tryz.prog WY R0 B0 9 a0_23 (z0_23 a b op7 nm8 ks9 p10 x16 y17 b19 x26 m29 x36 m39) kont20 else none)
   (meet (regA Tryz.prog WY R0 B0 9 a0_35 (z0_35 a b op7 nm8 ks9 p10 x16 y17 b19 x26 m29 x36 m39) kont20)
    (meet (regA Tryz.prog WY R0 B0 9 a0_37 (z0_37 a b op7 nm8 ks9 p10 x16 y17 b19 x26 m29 x36 m39) kont20)
     (regA Tryz.prog WY R0 B0 9 a0_38 (z0_38 a b op7 nm8 ks9 p10 x16 y17 b19 x26 m29 x36 m39) kont20)))from by kernel_rfl).trans ?_
   simp only[n0_23,n0_35,n0_37,n0_38,Go.Sc.meet_self,t0_0,t0_1,t0_2,t0_3]
theorem n0_40:regA Tryz.prog WY R0 B0 8 a0_40 (z0_40 a b op7 nm8 ks9 p10 x16 y17 b19 x26 m29 x36 m39) kont20=t0_3 a b op7 nm8 ks9 p10 x16 y17 b19 x26 m29 x36 m39 kont20:=by
   refine(show _=meet (if 0+x16.length≤34359738368 then regA Tryz.prog WY R0 B0 7 a0_24 (z0_24 a b op7 nm8 ks9 p10 x16 y17 b19 x26 m29 x36 m39) kont20 else none)
   (regA Tryz.prog WY R0 B0 7 a0_32 (z0_32 a b op7 nm8 ks9 p10 x16 y17 b19 x26 m29 x36 m39) kont20)from by kernel_rfl).trans ?_
   simp only[n0_24,n0_32,Go.Sc.meet_self,t0_0,t0_1,t0_2,t0_3]
theorem n0_41:regA Tryz.prog WY R0 B0 9 a0_41 (z0_41 a b op7 nm8 ks9 p10 x16 y17 b19 x26 m29 x36 m39) kont20=t0_3 a b op7 nm8 ks9 p10 x16 y17 b19 x26 m29 x36 m39 kont20:=by
   refine(show _=meet (if 0+x16.length≤34359738368 then regA Tryz.prog WY R0 B0 8 a0_25 (z0_25 a b op7 nm8 ks9 p10 x16 y17 b19 x26 m29 x36 m39) kont20 else none)
   (meet (regA Tryz.prog WY R0 B0 8 a0_33 (z0_33 a b op7 nm8 ks9 p10 x16 y17 b19 x26 m29 x36 m39) kont20) (regA Tryz.prog WY R0 B0 8 a0_40 (z0_40 a b op7 nm8 ks9 p10 x16 y17 b19 x26 m29 x36 m39) kont20))from by kernel_rfl).trans ?_
   simp only[n0_25,n0_33,n0_40,Go.Sc.meet_self,t0_0,t0_1,t0_2,t0_3]
theorem n0_42:regA Tryz.prog WY R0 B0 9 a0_42 (z0_42 a b op7 nm8 ks9 p10 x16 y17 b19 x26 m29 x36 m39) kont20=t0_3 a b op7 nm8 ks9 p10 x16 y17 b19 x26 m29 x36 m39 kont20:=by
   refine(show _=meet (if 0+x16.length≤34359738368 then regA Tryz.prog WY R0 B0 8 a0_26 (z0_26 a b op7 nm8 ks9 p10 x16 y17 b19 x26 m29 x36 m39) kont20 else none)
   (meet (regA Tryz.prog WY R0 B0 8 a0_34 (z0_34 a b op7 nm8 ks9 p10 x16 y17 b19 x26 m29 x36 m39) kont20) (regA Tryz.prog WY R0 B0 8 a0_40 (z0_40 a b op7 nm8 ks9 p10 x16 y17 b19 x26 m29 x36 m39) kont20))from by kernel_rfl).trans ?_
   simp only[n0_26,n0_34,n0_40,Go.Sc.meet_self,t0_0,t0_1,t0_2,t0_3]
theorem n0_43:regA Tryz.prog WY R0 B0 10 a0_43 (z0_43 a b op7 nm8 ks9 p10 x16 y17 b19 x26 m29 x36 m39) kont20=t0_3 a b op7 nm8 ks9 p10 x16 y17 b19 x26 m29 x36 m39 kont20:=by
   refine(show _=meet (if 0+x16.length≤34359738368 then regA Tryz.prog WY R0 B0 9 a0_27 (z0_27 a b op7 nm8 ks9 p10 x16 y17 b19 x26 m29 x36 m39) kont20 else none)
   (meet (regA Tryz.prog WY R0 B0 9 a0_35 (z0_35 a b op7 nm8 ks9 p10 x16 y17 b19 x26 m29 x36 m39) kont20)
    (meet (regA Tryz.prog WY R0 B0 9 a0_41 (z0_41 a b op7 nm8 ks9 p10 x16 y17 b19 x26 m29 x36 m39) kont20)
     (regA Tryz.prog WY R0 B0 9 a0_42 (z0_42 a b op7 nm8 ks9 p10 x16 y17 b19 x26 m29 x36 m39) kont20)))from by kernel_rfl).trans ?_
   simp only[n0_27,n0_35,n0_41,n0_42,Go.Sc.meet_self,t0_0,t0_1,t0_2,t0_3]
theorem n0_44:regA Tryz.prog WY R0 B0 9 a0_44 (z0_44 a b op7 nm8 ks9 p10 x16 y17 b19 x26 m29 x36 m39) kont20=t0_3 a b op7 nm8 ks9 p10 x16 y17 b19 x26 m29 x36 m39 kont20:=by
   refine(show _=meet (if 0+x16.length≤34359738368 then regA Tryz.prog WY R0 B0 8 a0_28 (z0_28 a b op7 nm8 ks9 p10 x16 y17 b19 x26 m29 x36 m39) kont20 else none)
   (meet (regA Tryz.prog WY R0 B0 8 a0_36 (z0_36 a b op7 nm8 ks9 p10 x16 y17 b19 x26 m29 x36 m39) kont20) (regA Tryz.prog WY R0 B0 8 a0_40 (z0_40 a b op7 nm8 ks9 p10 x16 y17 b19 x26 m29 x36 m39) kont20))from by kernel_rfl).trans ?_
   simp only[n0_28,n0_36,n0_40,Go.Sc.meet_self,t0_0,t0_1,t0_2,t0_3]
theorem n0_45:regA Tryz.prog WY R0 B0 10 a0_45 (z0_45 a b op7 nm8 ks9 p10 x16 y17 b19 x26 m29 x36 m39) kont20=t0_3 a b op7 nm8 ks9 p10 x16 y17 b19 x26 m29 x36 m39 kont20:=by
   refine(show _=meet (if 0+x16.length≤34359738368 then regA Tryz.prog WY R0 B0 9 a0_29 (z0_29 a b op7 nm8 ks9 p10 x16 y17 b19 x26 m29 x36 m39) kont20 else none)
   (meet (regA Tryz.prog WY R0 B0 9 a0_37 (z0_37 a b op7 nm8 ks9 p10 x16 y17 b19 x26 m29 x36 m39) kont20)
    (meet (regA Tryz.prog WY R0 B0 9 a0_41 (z0_41 a b op7 nm8 ks9 p10 x16 y17 b19 x26 m29 x36 m39) kont20)
     (regA Tryz.prog WY R0 B0 9 a0_44 (z0_44 a b op7 nm8 ks9 p10 x16 y17 b19 x26 m29 x36 m39) kont20)))from by kernel_rfl).trans ?_
   simp only[n0_29,n0_37,n0_41,n0_44,Go.Sc.meet_self,t0_0,t0_1,t0_2,t0_3]
theorem n0_46:regA Tryz.prog WY R0 B0 10 a0_46 (z0_46 a b op7 nm8 ks9 p10 x16 y17 b19 x26 m29 x36 m39) kont20=t0_3 a b op7 nm8 ks9 p10 x16 y17 b19 x26 m29 x36 m39 kont20:=by
   refine(show _=meet (if 0+x16.length≤34359738368 then regA Tryz.prog WY R0 B0 9 a0_30 (z0_30 a b op7 nm8 ks9 p10 x16 y17 b19 x26 m29 x36 m39) kont20 else none)
   (meet (regA Tryz.prog WY R0 B0 9 a0_38 (z0_38 a b op7 nm8 ks9 p10 x16 y17 b19 x26 m29 x36 m39) kont20)
    (meet (regA Tryz.prog WY R0 B0 9 a0_42 (z0_42 a b op7 nm8 ks9 p10 x16 y17 b19 x26 m29 x36 m39) kont20)
     (regA Tryz.prog WY R0 B0 9 a0_44 (z0_44 a b op7 nm8 ks9 p10 x16 y17 b19 x26 m29 x36 m39) kont20)))from by kernel_rfl).trans ?_
   simp only[n0_30,n0_38,n0_42,n0_44,Go.Sc.meet_self,t0_0,t0_1,t0_2,t0_3]
theorem n0_47:regA Tryz.prog WY R0 B0 11 a0_47 (z0_47 a b op7 nm8 ks9 p10 x16 y17 b19 x26 m29 x36 m39) kont20=t0_3 a b op7 nm8 ks9 p10 x16 y17 b19 x26 m29 x36 m39 kont20:=by
   refine(show _=meet (if 0+x16.length≤34359738368 then regA Tryz.prog WY R0 B0 10 a0_31 (z0_31 a b op7 nm8 ks9 p10 x16 y17 b19 x26 m29 x36 m39) kont20 else none)
   (meet (regA Tryz.prog WY R0 B0 10 a0_39 (z0_39 a b op7 nm8 ks9 p10 x16 y17 b19 x26 m29 x36 m39) kont20)
    (meet (regA Tryz.prog WY R0 B0 10 a0_43 (z0_43 a b op7 nm8 ks9 p10 x16 y17 b19 x26 m29 x36 m39) kont20)
     (meet (regA Tryz.prog WY R0 B0 10 a0_45 (z0_45 a b op7 nm8 ks9 p10 x16 y17 b19 x26 m29 x36 m39) kont20)
      (regA Tryz.prog WY R0 B0 10 a0_46 (z0_46 a b op7 nm8 ks9 p10 x16 y17 b19 x26 m29 x36 m39) kont20))))from by kernel_rfl).trans ?_
   simp only[n0_31,n0_39,n0_43,n0_45,n0_46,Go.Sc.meet_self,t0_0,t0_1,t0_2,t0_3]
theorem n0_48:regA Tryz.prog WY R0 B0 8 a0_48 (z0_48 a b op7 nm8 ks9 p10 x16 y17 b19 x26 m29 x36 m39) kont20=t0_3 a b op7 nm8 ks9 p10 x16 y17 b19 x26 m29 x36 m39 kont20:=by
   refine(show _=regA Tryz.prog WY R0 B0 7 a0_32 (z0_32 a b op7 nm8 ks9 p10 x16 y17 b19 x26 m29 x36 m39) kont20 from by kernel_rfl).trans ?_
   simp only[n0_32,t0_0,t0_1,t0_2,t0_3]
theorem n0_49:regA Tryz.prog WY R0 B0 9 a0_49 (z0_49 a b op7 nm8 ks9 p10 x16 y17 b19 x26 m29 x36 m39) kont20=t0_3 a b op7 nm8 ks9 p10 x16 y17 b19 x26 m29 x36 m39 kont20:=by
   refine(show _=meet (regA Tryz.prog WY R0 B0 8 a0_33 (z0_33 a b op7 nm8 ks9 p10 x16 y17 b19 x26 m29 x36 m39) kont20) (regA Tryz.prog WY R0 B0 8 a0_48 (z0_48 a b op7 nm8 ks9 p10 x16 y17 b19 x26 m29 x36 m39) kont20)from by kernel_rfl).trans ?_
   first|(simp only[n0_33,n0_48,Go.Sc.meet_self];done)|simp only[n0_33,n0_48,Go.Sc.meet_self,t0_0,t0_1,t0_2,t0_3]
theorem n0_50:regA Tryz.prog WY R0 B0 9 a0_50 (z0_50 a b op7 nm8 ks9 p10 x16 y17 b19 x26 m29 x36 m39) kont20=t0_3 a b op7 nm8 ks9 p10 x16 y17 b19 x26 m29 x36 m39 kont20:=by
   refine(show _=meet (regA Tryz.prog WY R0 B0 8 a0_34 (z0_34 a b op7 nm8 ks9 p10 x16 y17 b19 x26 m29 x36 m39) kont20) (regA Tryz.prog WY R0 B0 8 a0_48 (z0_48 a b op7 nm8 ks9 p10 x16 y17 b19 x26 m29 x36 m39) kont20)from by kernel_rfl).trans ?_
   first|(simp only[n0_34,n0_48,Go.Sc.meet_self];done)|simp only[n0_34,n0_48,Go.Sc.meet_self,t0_0,t0_1,t0_2,t0_3]
theorem n0_51:regA Tryz.prog WY R0 B0 10 a0_51 (z0_51 a b op7 nm8 ks9 p10 x16 y17 b19 x26 m29 x36 m39) kont20=t0_3 a b op7 nm8 ks9 p10 x16 y17 b19 x26 m29 x36 m39 kont20:=by
   refine(show _=meet (regA Tryz.prog WY R0 B0 9 a0_35 (z0_35 a b op7 nm8 ks9 p10 x16 y17 b19 x26 m29 x36 m39) kont20)
   (meet (regA Tryz.prog WY R0 B0 9 a0_49 (z0_49 a b op7 nm8 ks9 p10 x16 y17 b19 x26 m29 x36 m39) kont20) (regA Tryz.prog WY R0 B0 9 a0_50 (z0_50 a b op7 nm8 ks9 p10 x16 y17 b19 x26 m29 x36 m39) kont20))from by kernel_rfl).trans ?_
   first|(simp only[n0_35,n0_49,n0_50,Go.Sc.meet_self];done)|simp only[n0_35,n0_49,n0_50,Go.Sc.meet_self,t0_0,t0_1,t0_2,t0_3]
theorem n0_52:regA Tryz.prog WY R0 B0 9 a0_52 (z0_52 a b op7 nm8 ks9 p10 x16 y17 b19 x26 m29 x36 m39) kont20=t0_3 a b op7 nm8 ks9 p10 x16 y17 b19 x26 m29 x36 m39 kont20:=by
   refine(show _=meet (regA Tryz.prog WY R0 B0 8 a0_36 (z0_36 a b op7 nm8 ks9 p10 x16 y17 b19 x26 m29 x36 m39) kont20) (regA Tryz.prog WY R0 B0 8 a0_48 (z0_48 a b op7 nm8 ks9 p10 x16 y17 b19 x26 m29 x36 m39) kont20)from by kernel_rfl).trans ?_
   first|(simp only[n0_36,n0_48,Go.Sc.meet_self];done)|simp only[n0_36,n0_48,Go.Sc.meet_self,t0_0,t0_1,t0_2,t0_3]
theorem n0_53:regA Tryz.prog WY R0 B0 10 a0_53 (z0_53 a b op7 nm8 ks9 p10 x16 y17 b19 x26 m29 x36 m39) kont20=t0_3 a b op7 nm8 ks9 p10 x16 y17 b19 x26 m29 x36 m39 kont20:=by
   refine(show _=meet (regA Tryz.prog WY R0 B0 9 a0_37 (z0_37 a b op7 nm8 ks9 p10 x16 y17 b19 x26 m29 x36 m39) kont20)
   (meet (regA Tryz.prog WY R0 B0 9 a0_49 (z0_49 a b op7 nm8 ks9 p10 x16 y17 b19 x26 m29 x36 m39) kont20) (regA Tryz.prog WY R0 B0 9 a0_52 (z0_52 a b op7 nm8 ks9 p10 x16 y17 b19 x26 m29 x36 m39) kont20))from by kernel_rfl).trans ?_
   first|(simp only[n0_37,n0_49,n0_52,Go.Sc.meet_self];done)|simp only[n0_37,n0_49,n0_52,Go.Sc.meet_self,t0_0,t0_1,t0_2,t0_3]
theorem n0_54:regA Tryz.prog WY R0 B0 10 a0_54 (z0_54 a b op7 nm8 ks9 p10 x16 y17 b19 x26 m29 x36 m39) kont20=t0_3 a b op7 nm8 ks9 p10 x16 y17 b19 x26 m29 x36 m39 kont20:=by
   refine(show _=meet (regA Tryz.prog WY R0 B0 9 a0_38 (z0_38 a b op7 nm8 ks9 p10 x16 y17 b19 x26 m29 x36 m39) kont20)
   (meet (regA Tryz.prog WY R0 B0 9 a0_50 (z0_50 a b op7 nm8 ks9 p10 x16 y17 b19 x26 m29 x36 m39) kont20) (regA Tryz.prog WY R0 B0 9 a0_52 (z0_52 a b op7 nm8 ks9 p10 x16 y17 b19 x26 m29 x36 m39) kont20))from by kernel_rfl).trans ?_
   first|(simp only[n0_38,n0_50,n0_52,Go.Sc.meet_self];done)|simp only[n0_38,n0_50,n0_52,Go.Sc.meet_self,t0_0,t0_1,t0_2,t0_3]
theorem n0_55:regA Tryz.prog WY R0 B0 11 a0_55 (z0_55 a b op7 nm8 ks9 p10 x16 y17 b19 x26 m29 x36 m39) kont20=t0_3 a b op7 nm8 ks9 p10 x16 y17 b19 x26 m29 x36 m39 kont20:=by
   refine(show _=meet (regA Tryz.prog WY R0 B0 10 a0_39 (z0_39 a b op7 nm8 ks9 p10 x16 y17 b19 x26 m29 x36 m39) kont20)
   (meet (regA Tryz.prog WY R0 B0 10 a0_51 (z0_51 a b op7 nm8 ks9 p10 x16 y17 b19 x26 m29 x36 m39) kont20)
    (meet (regA Tryz.prog WY R0 B0 10 a0_53 (z0_53 a b op7 nm8 ks9 p10 x16 y17 b19 x26 m29 x36 m39) kont20)
     (regA Tryz.prog WY R0 B0 10 a0_54 (z0_54 a b op7 nm8 ks9 p10 x16 y17 b19 x26 m29 x36 m39) kont20)))from by kernel_rfl).trans ?_
   first|(simp only[n0_39,n0_51,n0_53,n0_54,Go.Sc.meet_self];done)|simp only[n0_39,n0_51,n0_53,n0_54,Go.Sc.meet_self,t0_0,t0_1,t0_2,t0_3]
theorem n0_56:regA Tryz.prog WY R0 B0 9 a0_56 (z0_56 a b op7 nm8 ks9 p10 x16 y17 b19 x26 m29 x36 m39) kont20=t0_3 a b op7 nm8 ks9 p10 x16 y17 b19 x26 m29 x36 m39 kont20:=by
   refine(show _=meet (regA Tryz.prog WY R0 B0 8 a0_40 (z0_40 a b op7 nm8 ks9 p10 x16 y17 b19 x26 m29 x36 m39) kont20) (regA Tryz.prog WY R0 B0 8 a0_48 (z0_48 a b op7 nm8 ks9 p10 x16 y17 b19 x26 m29 x36 m39) kont20)from by kernel_rfl).trans ?_
   first|(simp only[n0_40,n0_48,Go.Sc.meet_self];done)|simp only[n0_40,n0_48,Go.Sc.meet_self,t0_0,t0_1,t0_2,t0_3]
theorem n0_57:regA Tryz.prog WY R0 B0 10 a0_57 (z0_57 a b op7 nm8 ks9 p10 x16 y17 b19 x26 m29 x36 m39) kont20=t0_3 a b op7 nm8 ks9 p10 x16 y17 b19 x26 m29 x36 m39 kont20:=by
   refine(show _=meet (regA Tryz.prog WY R0 B0 9 a0_41 (z0_41 a b op7 nm8 ks9 p10 x16 y17 b19 x26 m29 x36 m39) kont20)
   (meet (regA Tryz.prog WY R0 B0 9 a0_49 (z0_49 a b op7 nm8 ks9 p10 x16 y17 b19 x26 m29 x36 m39) kont20) (regA Tryz.prog WY R0 B0 9 a0_56 (z0_56 a b op7 nm8 ks9 p10 x16 y17 b19 x26 m29 x36 m39) kont20))from by kernel_rfl).trans ?_
   first|(simp only[n0_41,n0_49,n0_56,Go.Sc.meet_self];done)|simp only[n0_41,n0_49,n0_56,Go.Sc.meet_self,t0_0,t0_1,t0_2,t0_3]
theorem n0_58:regA Tryz.prog WY R0 B0 10 a0_58 (z0_58 a b op7 nm8 ks9 p10 x16 y17 b19 x26 m29 x36 m39) kont20=t0_3 a b op7 nm8 ks9 p10 x16 y17 b19 x26 m29 x36 m39 kont20:=by
   refine(show _=meet (regA Tryz.prog WY R0 B0 9 a0_42 (z0_42 a b op7 nm8 ks9 p10 x16 y17 b19 x26 m29 x36 m39) kont20)
   (meet (regA Tryz.prog WY R0 B0 9 a0_50 (z0_50 a b op7 nm8 ks9 p10 x16 y17 b19 x26 m29 x36 m39) kont20) (regA Tryz.prog WY R0 B0 9 a0_56 (z0_56 a b op7 nm8 ks9 p10 x16 y17 b19 x26 m29 x36 m39) kont20))from by kernel_rfl).trans ?_
   first|(simp only[n0_42,n0_50,n0_56,Go.Sc.meet_self];done)|simp only[n0_42,n0_50,n0_56,Go.Sc.meet_self,t0_0,t0_1,t0_2,t0_3]
theorem n0_59:regA Tryz.prog WY R0 B0 11 a0_59 (z0_59 a b op7 nm8 ks9 p10 x16 y17 b19 x26 m29 x36 m39) kont20=t0_3 a b op7 nm8 ks9 p10 x16 y17 b19 x26 m29 x36 m39 kont20:=by
   refine(show _=meet (regA Tryz.prog WY R0 B0 10 a0_43 (z0_43 a b op7 nm8 ks9 p10 x16 y17 b19 x26 m29 x36 m39) kont20)
   (meet (regA Tryz.prog WY R0 B0 10 a0_51 (z0_51 a b op7 nm8 ks9 p10 x16 y17 b19 x26 m29 x36 m39) kont20)
    (meet (regA Tryz.prog WY R0 B0 10 a0_57 (z0_57 a b op7 nm8 ks9 p10 x16 y17 b19 x26 m29 x36 m39) kont20)
     (regA Tryz.prog WY R0 B0 10 a0_58 (z0_58 a b op7 nm8 ks9 p10 x16 y17 b19 x26 m29 x36 m39) kont20)))from by kernel_rfl).trans ?_
   first|(simp only[n0_43,n0_51,n0_57,n0_58,Go.Sc.meet_self];done)|simp only[n0_43,n0_51,n0_57,n0_58,Go.Sc.meet_self,t0_0,t0_1,t0_2,t0_3]
theorem n0_60:regA Tryz.prog WY R0 B0 10 a0_60 (z0_60 a b op7 nm8 ks9 p10 x16 y17 b19 x26 m29 x36 m39) kont20=t0_3 a b op7 nm8 ks9 p10 x16 y17 b19 x26 m29 x36 m39 kont20:=by
   refine(show _=meet (regA Tryz.prog WY R0 B0 9 a0_44 (z0_44 a b op7 nm8 ks9 p10 x16 y17 b19 x26 m29 x36 m39) kont20)
   (meet (regA Tryz.prog WY R0 B0 9 a0_52 (z0_52 a b op7 nm8 ks9 p10 x16 y17 b19 x26 m29 x36 m39) kont20) (regA Tryz.prog WY R0 B0 9 a0_56 (z0_56 a b op7 nm8 ks9 p10 x16 y17 b19 x26 m29 x36 m39) kont20))from by kernel_rfl).trans ?_
   first|(simp only[n0_44,n0_52,n0_56,Go.Sc.meet_self];done)|simp only[n0_44,n0_52,n0_56,Go.Sc.meet_self,t0_0,t0_1,t0_2,t0_3]
theorem n0_61:regA Tryz.prog WY R0 B0 11 a0_61 (z0_61 a b op7 nm8 ks9 p10 x16 y17 b19 x26 m29 x36 m39) kont20=t0_3 a b op7 nm8 ks9 p10 x16 y17 b19 x26 m29 x36 m39 kont20:=by
   refine(show _=meet (regA Tryz.prog WY R0 B0 10 a0_45 (z0_45 a b op7 nm8 ks9 p10 x16 y17 b19 x26 m29 x36 m39) kont20)
   (meet (regA Tryz.prog WY R0 B0 10 a0_53 (z0_53 a b op7 nm8 ks9 p10 x16 y17 b19 x26 m29 x36 m39) kont20)
    (meet (regA Tryz.prog WY R0 B0 10 a0_57 (z0_57 a b op7 nm8 ks9 p10 x16 y17 b19 x26 m29 x36 m39) kont20)
     (regA Tryz.prog WY R0 B0 10 a0_60 (z0_60 a b op7 nm8 ks9 p10 x16 y17 b19 x26 m29 x36 m39) kont20)))from by kernel_rfl).trans ?_
   first|(simp only[n0_45,n0_53,n0_57,n0_60,Go.Sc.meet_self];done)|simp only[n0_45,n0_53,n0_57,n0_60,Go.Sc.meet_self,t0_0,t0_1,t0_2,t0_3]
theorem n0_62:regA Tryz.prog WY R0 B0 11 a0_62 (z0_62 a b op7 nm8 ks9 p10 x16 y17 b19 x26 m29 x36 m39) kont20=t0_3 a b op7 nm8 ks9 p10 x16 y17 b19 x26 m29 x36 m39 kont20:=by
   refine(show _=meet (regA Tryz.prog WY R0 B0 10 a0_46 (z0_46 a b op7 nm8 ks9 p10 x16 y17 b19 x26 m29 x36 m39) kont20)
   (meet (regA Tryz.prog WY R0 B0 10 a0_54 (z0_54 a b op7 nm8 ks9 p10 x16 y17 b19 x26 m29 x36 m39) kont20)
    (meet (regA Tryz.prog WY R0 B0 10 a0_58 (z0_58 a b op7 nm8 ks9 p10 x16 y17 b19 x26 m29 x36 m39) kont20)
     (regA Tryz.prog WY R0 B0 10 a0_60 (z0_60 a b op7 nm8 ks9 p10 x16 y17 b19 x26 m29 x36 m39) kont20)))from by kernel_rfl).trans ?_
   first|(simp only[n0_46,n0_54,n0_58,n0_60,Go.Sc.meet_self];done)|simp only[n0_46,n0_54,n0_58,n0_60,Go.Sc.meet_self,t0_0,t0_1,t0_2,t0_3]
noncomputable def t0_4:Option β:=match(loopOf y17)[0]? with
   |some x336=>match x336 with
    |D.int j413 m414=>if j413=IntKind.i64 then if(0:Int)≤(↑(List.length (loopOf y17)):Int)∧(↑(List.length (loopOf y17)):Int)≤(↑(List.length (loopOf y17)):Int)∧(0:Int)≤1∧(1:Int)≤(↑(List.length (loopOf y17)):Int)then match(loopOf y17)[0]? with
     |some x472=>match x472 with
      |D.int j481 m482=>if j481=IntKind.i64 then t0_3 a b op7 nm8 ks9 p10 x16 y17 b19 x336 m414 x472 m482 kont20 else none
      |x=>none
     |none=>none else none else none
    |x=>none
   |none=>none
theorem n0_63:regA Tryz.prog WY R0 B0 25 [] (z0_63 a b op7 nm8 ks9 p10 x16 y17 b19) kont20=t0_4 a b op7 nm8 ks9 p10 x16 y17 b19 kont20:=by
   refine(show _=match(loopOf y17)[0]? with
  |some x26=>
   match x26 with
   |D.int j28 m29=>
    if j28=IntKind.i64 then
     if(0:Int)≤(↑(List.length (loopOf y17)):Int)∧(↑(List.length (loopOf y17)):Int)≤(↑(List.length (loopOf y17)):Int)∧(0:Int)≤1∧(1:Int)≤(↑(List.length (loopOf y17)):Int)then
      match(loopOf y17)[0]? with
      |some x36=>
       match x36 with
       |D.int j38 m39=>
        if j38=IntKind.i64 then
         meet (regA Tryz.prog WY R0 B0 11 a0_47 (z0_47 a b op7 nm8 ks9 p10 x16 y17 b19 x26 m29 x36 m39) kont20)
          (meet (regA Tryz.prog WY R0 B0 11 a0_55 (z0_55 a b op7 nm8 ks9 p10 x16 y17 b19 x26 m29 x36 m39) kont20)
           (meet (regA Tryz.prog WY R0 B0 11 a0_59 (z0_59 a b op7 nm8 ks9 p10 x16 y17 b19 x26 m29 x36 m39) kont20)
            (meet (regA Tryz.prog WY R0 B0 11 a0_61 (z0_61 a b op7 nm8 ks9 p10 x16 y17 b19 x26 m29 x36 m39) kont20)
             (regA Tryz.prog WY R0 B0 11 a0_62 (z0_62 a b op7 nm8 ks9 p10 x16 y17 b19 x26 m29 x36 m39) kont20))))
        else none
       |x=>none
      |none=>none
     else none
    else none
   |x=>none
  |none=>none from by kernel_rfl).trans ?_
   first|(simp only[n0_47,n0_55,n0_59,n0_61,n0_62,Go.Sc.meet_self];rfl)|simp only[n0_47,n0_55,n0_59,n0_61,n0_62,Go.Sc.meet_self,t0_0,t0_1,t0_2,t0_3,t0_4]
end
theorem reg0 {β:Type} (a:List D) (b:List D) (op7:ByteArray) (nm8:ByteArray) (ks9:List D) (p10:Int) (x16:List D) (y17:List D) (b19:Bool) (kont20:S→Option β):regH Tryz.prog WY R0 (z0_63 a b op7 nm8 ks9 p10 x16 y17 b19) kont20=match(loopOf y17)[0]? with
   |some x336=>match x336 with
    |D.int j413 m414=>if j413=IntKind.i64 then if(0:Int)≤(↑(List.length (loopOf y17)):Int)∧(↑(List.length (loopOf y17)):Int)≤(↑(List.length (loopOf y17)):Int)∧(0:Int)≤1∧(1:Int)≤(↑(List.length (loopOf y17)):Int)then match(loopOf y17)[0]? with
     |some x472=>match x472 with
      |D.int j481 m482=>if j481=IntKind.i64 then if 0+x16.length≤34359738368 then if x16.length+1≤34359738368 then if 0+List.length (List.take (Int.toNat (↑(List.length (loopOf y17)):Int) - 1) (List.drop 1 (loopOf y17)))≤34359738368 then if List.length (List.take (Int.toNat (↑(List.length (loopOf y17)):Int) - 1) (List.drop 1 (loopOf y17)))+1≤34359738368 then kont20 (z0_0 a b op7 nm8 ks9 p10 x16 y17 b19 x336 m414 x472 m482)else none else none else none else none else none
      |x=>none
     |none=>none else none else none
    |x=>none
   |none=>none:=(show _=regA Tryz.prog WY R0 B0 25 [] (z0_63 a b op7 nm8 ks9 p10 x16 y17 b19) kont20 from by kernel_rfl).trans (n0_63 ..)
noncomputable def R1:Array Oper:=regOps (sub [1,1,1,1,1,1,1,1,1,0] (body Tryz.f4))
def B1:List Nat:=[0,0,0,4,0,0,32,114,0,256,1010,2046,4095,8191,16383,16383,32767,131071]
  section
  variable {β:Type} (a:List D) (b:List D) (op7:ByteArray) (nm8:ByteArray) (ks9:List D) (p10:Int) (x16:List D) (y17:List D) (b19:Bool) (x336488:D) (m414490:Int) (x472491:D) (m482493:Int) (b505:Bool) (b520:Bool) (kont506:S→Option β)
noncomputable def z1_0:S:=⟨Tm.mk 212 [(1,.d true 0 (D.sl 0 a)),(2,.d true 0 (D.sl 0 b)),(7,.rp 8 0),(9,.rp 10 0),(10,.d false 0 (D.bool b19)),(11,.d false 0 D.nili),(12,.rp 13 0),(13,.d false 0 (D.bool b505)),(14,.d false 0 D.nili),(45,.d true 0 (D.sl 0 a)),(46,.d true 0 (D.sl 0 b)),(47,.d false 3 (D.ag [D.sl 0 x16,D.sl 0 (loopOf y17)])),(48,.tup [.d false 0 (D.bool b19),.d false 0 D.nili]),(49,.ag [.d false 0 (D.str op7),.d false 0 (D.str nm8),.d false 0 (D.sl 5 ks9),.d false 0 (D.int .i64 p10)]),(50,.bf 1152921504606847026 0),(51,.ag [.d false 0 (D.sl 0 x16),.d false 0 (D.sl 0 (loopOf y17))]),(52,.tup [.d false 0 (D.bool b19),.d false 0 D.nili]),(53,.d false 0 (D.bool b19)),(54,.d false 0 D.nili),(55,.undef),(56,.rp 10 0),(57,.d false 0 (D.sl 0 x16)),(58,.undef),(59,.rp 10 1),(60,.d false 0 (D.sl 0 (loopOf y17))),(61,.d false 0 (D.pt 0 x336488)),(62,.d false 0 (D.int .i64 m414490)),(63,.own false 0 [D.int .i64 m414490]),(64,.undef),(65,.undef),(66,.rp 10 1),(67,.d false 0 (D.sl 0 (loopOf y17))),(68,.d false 0 (D.sl 0 (List.take (Int.toNat (↑(List.length (loopOf y17)):Int) - 1) (List.drop 1 (loopOf y17))))),(69,.undef),(70,.rp 10 1),(71,.d false 0 (D.sl 0 (loopOf y17))),(72,.d false 0 (D.pt 0 x472491)),(73,.d false 0 (D.int .i64 m482493)),(74,.own false 0 [D.int .i64 m482493]),(75,.undef),(76,.undef),(77,.tup [.d false 0 (D.bool b505),.d false 0 D.nili]),(78,.ag [.d false 0 (D.str op7),.d false 0 (D.str nm8),.d false 0 (D.sl 5 ks9),.d false 0 (D.int .i64 p10)]),(79,.bf 1152921504606847055 0),(80,.ag [.bf 13 0,.bf 13 1]),(81,.tup [.d false 0 (D.bool b505),.d false 0 D.nili]),(82,.d false 0 (D.bool b505)),(83,.d false 0 D.nili),(85,.ag [.d false 0 (D.str op7),.d false 0 (D.str nm8),.d false 0 (D.sl 5 ks9),.d false 0 (D.int .i64 p10)]),(86,.bf 1152921504606847062 0),(87,.rp 10 0),(88,.d false 0 (D.sl 0 x16)),(89,.undef),(90,.rp 10 1),(91,.d false 0 (D.sl 0 (loopOf y17))),(92,.undef),(93,.rp 10 1),(94,.d false 0 (D.sl 0 (loopOf y17))),(95,.own false 0 (loopOf y17++loopOf y17)),(96,.ag [.d false 0 (D.sl 0 x16),.bf 0 95]),(97,.tup [.d false 0 (D.bool b520),.d false 0 D.nili])],[(8,true,[.d false 0 (D.str op7),.d false 0 (D.str nm8),.d false 0 (D.sl 5 ks9),.d false 0 (D.int .i64 p10)]),(10,true,[.d false 0 (D.sl 0 x16),.d false 0 (D.sl 0 (loopOf y17))]),(13,true,[.own false 0 (x16++[D.int .i64 m414490]),.own false 0 (List.take (Int.toNat (↑(List.length (loopOf y17)):Int) - 1) (List.drop 1 (loopOf y17))++[D.int .i64 m482493])]),(1152921504606847023,true,[.d false 3 (D.ag [D.sl 0 x16,D.sl 0 (loopOf y17)])]),(1152921504606847026,true,[.own false 0 [D.str (ByteArray.mk #[97]),D.str (ByteArray.mk #[98]),D.str (ByteArray.mk #[103,111,97,108])]]),(1152921504606847028,true,[.d false 0 (D.bool b19),.d false 0 D.nili]),(1152921504606847055,true,[.own false 0 [D.str (ByteArray.mk #[97]),D.str (ByteArray.mk #[98]),D.str (ByteArray.mk #[103,111,97,108])]]),(1152921504606847057,true,[.d false 0 (D.bool b505),.d false 0 D.nili]),(1152921504606847062,true,[.own false 0 [D.str (ByteArray.mk #[97]),D.str (ByteArray.mk #[98]),D.str (ByteArray.mk #[103,111,97,108])]]),(1152921504606847073,true,[.d false 0 (D.bool b520),.d false 0 D.nili])]⟩
noncomputable def z1_6:S:=⟨Tm.mk 212 [(1,.d true 0 (D.sl 0 a)),(2,.d true 0 (D.sl 0 b)),(7,.rp 8 0),(9,.rp 10 0),(10,.d false 0 (D.bool b19)),(11,.d false 0 D.nili),(12,.rp 13 0),(13,.d false 0 (D.bool b505)),(14,.d false 0 D.nili),(45,.d true 0 (D.sl 0 a)),(46,.d true 0 (D.sl 0 b)),(47,.d false 3 (D.ag [D.sl 0 x16,D.sl 0 (loopOf y17)])),(48,.tup [.d false 0 (D.bool b19),.d false 0 D.nili]),(49,.ag [.d false 0 (D.str op7),.d false 0 (D.str nm8),.d false 0 (D.sl 5 ks9),.d false 0 (D.int .i64 p10)]),(50,.bf 1152921504606847026 0),(51,.ag [.d false 0 (D.sl 0 x16),.d false 0 (D.sl 0 (loopOf y17))]),(52,.tup [.d false 0 (D.bool b19),.d false 0 D.nili]),(53,.d false 0 (D.bool b19)),(54,.d false 0 D.nili),(55,.undef),(56,.rp 10 0),(57,.d false 0 (D.sl 0 x16)),(58,.undef),(59,.rp 10 1),(60,.d false 0 (D.sl 0 (loopOf y17))),(61,.d false 0 (D.pt 0 x336488)),(62,.d false 0 (D.int .i64 m414490)),(63,.own false 0 [D.int .i64 m414490]),(64,.undef),(65,.undef),(66,.rp 10 1),(67,.d false 0 (D.sl 0 (loopOf y17))),(68,.d false 0 (D.sl 0 (List.take (Int.toNat (↑(List.length (loopOf y17)):Int) - 1) (List.drop 1 (loopOf y17))))),(69,.undef),(70,.rp 10 1),(71,.d false 0 (D.sl 0 (loopOf y17))),(72,.d false 0 (D.pt 0 x472491)),(73,.d false 0 (D.int .i64 m482493)),(74,.own false 0 [D.int .i64 m482493]),(75,.undef),(76,.undef),(77,.tup [.d false 0 (D.bool b505),.d false 0 D.nili]),(78,.ag [.d false 0 (D.str op7),.d false 0 (D.str nm8),.d false 0 (D.sl 5 ks9),.d false 0 (D.int .i64 p10)]),(79,.bf 1152921504606847055 0),(80,.ag [.bf 13 0,.bf 13 1]),(81,.tup [.d false 0 (D.bool b505),.d false 0 D.nili]),(82,.d false 0 (D.bool b505)),(83,.d false 0 D.nili)],[(1152921504606847057,true,[.d false 0 (D.bool b505),.d false 0 D.nili]),(1152921504606847055,true,[.own false 0 [D.str (ByteArray.mk #[97]),D.str (ByteArray.mk #[98]),D.str (ByteArray.mk #[103,111,97,108])]]),(8,true,[.d false 0 (D.str op7),.d false 0 (D.str nm8),.d false 0 (D.sl 5 ks9),.d false 0 (D.int .i64 p10)]),(10,true,[.d false 0 (D.sl 0 x16),.d false 0 (D.sl 0 (loopOf y17))]),(13,true,[.own false 0 (x16++[D.int .i64 m414490]),.own false 0 (List.take (Int.toNat (↑(List.length (loopOf y17)):Int) - 1) (List.drop 1 (loopOf y17))++[D.int .i64 m482493])]),(1152921504606847023,true,[.d false 3 (D.ag [D.sl 0 x16,D.sl 0 (loopOf y17)])]),(1152921504606847026,true,[.own false 0 [D.str (ByteArray.mk #[97]),D.str (ByteArray.mk #[98]),D.str (ByteArray.mk #[103,111,97,108])]]),(1152921504606847028,true,[.d false 0 (D.bool b19),.d false 0 D.nili])]⟩
noncomputable def y1_0 (a:List D) (b:List D) (op7:ByteArray) (nm8:ByteArray) (ks9:List D) (p10:Int) (x16:List D) (y17:List D) (b19:Bool) (x336488:D) (m414490:Int) (x472491:D) (m482493:Int) (b505:Bool) (b526615:Bool):S:=⟨Tm.mk 212 [(1,.d true 0 (D.sl 0 a)),(2,.d true 0 (D.sl 0 b)),(7,.rp 8 0),(9,.rp 10 0),(10,.d false 0 (D.bool b19)),(11,.d false 0 D.nili),(12,.rp 13 0),(13,.d false 0 (D.bool b505)),(14,.d false 0 D.nili),(15,.d false 0 (D.bool b526615)),(16,.d false 0 D.nili),(45,.d true 0 (D.sl 0 a)),(46,.d true 0 (D.sl 0 b)),(47,.d false 3 (D.ag [D.sl 0 x16,D.sl 0 (loopOf y17)])),(48,.tup [.d false 0 (D.bool b19),.d false 0 D.nili]),(49,.ag [.d false 0 (D.str op7),.d false 0 (D.str nm8),.d false 0 (D.sl 5 ks9),.d false 0 (D.int .i64 p10)]),(50,.bf 1152921504606847026 0),(51,.ag [.d false 0 (D.sl 0 x16),.d false 0 (D.sl 0 (loopOf y17))]),(52,.tup [.d false 0 (D.bool b19),.d false 0 D.nili]),(53,.d false 0 (D.bool b19)),(54,.d false 0 D.nili),(55,.undef),(56,.rp 10 0),(57,.d false 0 (D.sl 0 x16)),(58,.undef),(59,.rp 10 1),(60,.d false 0 (D.sl 0 (loopOf y17))),(61,.d false 0 (D.pt 0 x336488)),(62,.d false 0 (D.int .i64 m414490)),(63,.own false 0 [D.int .i64 m414490]),(64,.undef),(65,.undef),(66,.rp 10 1),(67,.d false 0 (D.sl 0 (loopOf y17))),(68,.d false 0 (D.sl 0 (List.take (Int.toNat (↑(List.length (loopOf y17)):Int) - 1) (List.drop 1 (loopOf y17))))),(69,.undef),(70,.rp 10 1),(71,.d false 0 (D.sl 0 (loopOf y17))),(72,.d false 0 (D.pt 0 x472491)),(73,.d false 0 (D.int .i64 m482493)),(74,.own false 0 [D.int .i64 m482493]),(75,.undef),(76,.undef),(77,.tup [.d false 0 (D.bool b505),.d false 0 D.nili]),(78,.ag [.d false 0 (D.str op7),.d false 0 (D.str nm8),.d false 0 (D.sl 5 ks9),.d false 0 (D.int .i64 p10)]),(79,.bf 1152921504606847055 0),(80,.ag [.bf 13 0,.bf 13 1]),(81,.tup [.d false 0 (D.bool b505),.d false 0 D.nili]),(82,.d false 0 (D.bool b505)),(83,.d false 0 D.nili),(84,.tup [.d false 0 (D.bool b526615),.d false 0 D.nili]),(85,.ag [.d false 0 (D.str op7),.d false 0 (D.str nm8),.d false 0 (D.sl 5 ks9),.d false 0 (D.int .i64 p10)]),(86,.bf 1152921504606847062 0),(87,.rp 10 0),(88,.d false 0 (D.sl 0 x16)),(89,.undef),(90,.rp 10 1),(91,.d false 0 (D.sl 0 (loopOf y17))),(92,.undef),(93,.rp 10 1),(94,.d false 0 (D.sl 0 (loopOf y17))),(95,.own false 0 (loopOf y17++loopOf y17)),(96,.ag [.d false 0 (D.sl 0 x16),.bf 0 95]),(97,.tup [.d false 0 (D.bool b526615),.d false 0 D.nili]),(98,.d false 0 (D.bool b526615)),(99,.d false 0 D.nili)],[(8,true,[.d false 0 (D.str op7),.d false 0 (D.str nm8),.d false 0 (D.sl 5 ks9),.d false 0 (D.int .i64 p10)]),(10,true,[.d false 0 (D.sl 0 x16),.d false 0 (D.sl 0 (loopOf y17))]),(13,true,[.own false 0 (x16++[D.int .i64 m414490]),.own false 0 (List.take (Int.toNat (↑(List.length (loopOf y17)):Int) - 1) (List.drop 1 (loopOf y17))++[D.int .i64 m482493])]),(1152921504606847023,true,[.d false 3 (D.ag [D.sl 0 x16,D.sl 0 (loopOf y17)])]),(1152921504606847026,true,[.own false 0 [D.str (ByteArray.mk #[97]),D.str (ByteArray.mk #[98]),D.str (ByteArray.mk #[103,111,97,108])]]),(1152921504606847028,true,[.d false 0 (D.bool b19),.d false 0 D.nili]),(1152921504606847055,true,[.own false 0 [D.str (ByteArray.mk #[97]),D.str (ByteArray.mk #[98]),D.str (ByteArray.mk #[103,111,97,108])]]),(1152921504606847057,true,[.d false 0 (D.bool b505),.d false 0 D.nili]),(1152921504606847062,true,[.own false 0 [D.str (ByteArray.mk #[97]),D.str (ByteArray.mk #[98]),D.str (ByteArray.mk #[103,111,97,108])]]),(1152921504606847073,true,[.d false 0 (D.bool b526615),.d false 0 D.nili])]⟩
noncomputable def u1_0:List (Nat×V):=[(1,.d true 0 (D.sl 0 a)),(2,.d true 0 (D.sl 0 b)),(7,.rp 8 0),(9,.rp 10 0),(10,.d false 0 (D.bool b19)),(11,.d false 0 D.nili),(12,.rp 13 0),(13,.d false 0 (D.bool b505)),(14,.d false 0 D.nili),(45,.d true 0 (D.sl 0 a)),(46,.d true 0 (D.sl 0 b)),(47,.d false 3 (D.ag [D.sl 0 x16,D.sl 0 (loopOf y17)])),(48,.tup [.d false 0 (D.bool b19),.d false 0 D.nili]),(49,.ag [.d false 0 (D.str op7),.d false 0 (D.str nm8),.d false 0 (D.sl 5 ks9),.d false 0 (D.int .i64 p10)]),(50,.bf 1152921504606847026 0),(51,.ag [.d false 0 (D.sl 0 x16),.d false 0 (D.sl 0 (loopOf y17))]),(52,.tup [.d false 0 (D.bool b19),.d false 0 D.nili]),(53,.d false 0 (D.bool b19)),(54,.d false 0 D.nili),(55,.undef),(56,.rp 10 0),(57,.d false 0 (D.sl 0 x16)),(58,.undef),(59,.rp 10 1),(60,.d false 0 (D.sl 0 (loopOf y17))),(61,.d false 0 (D.pt 0 x336488)),(62,.d false 0 (D.int .i64 m414490)),(63,.own false 0 [D.int .i64 m414490]),(64,.undef),(65,.undef),(66,.rp 10 1),(67,.d false 0 (D.sl 0 (loopOf y17))),(68,.d false 0 (D.sl 0 (List.take (Int.toNat (↑(List.length (loopOf y17)):Int) - 1) (List.drop 1 (loopOf y17))))),(69,.undef),(70,.rp 10 1),(71,.d false 0 (D.sl 0 (loopOf y17))),(72,.d false 0 (D.pt 0 x472491)),(73,.d false 0 (D.int .i64 m482493)),(74,.own false 0 [D.int .i64 m482493]),(75,.undef),(76,.undef),(77,.tup [.d false 0 (D.bool b505),.d false 0 D.nili]),(78,.ag [.d false 0 (D.str op7),.d false 0 (D.str nm8),.d false 0 (D.sl 5 ks9),.d false 0 (D.int .i64 p10)]),(79,.bf 1152921504606847055 0),(80,.ag [.bf 13 0,.bf 13 1]),(81,.tup [.d false 0 (D.bool b505),.d false 0 D.nili]),(82,.d false 0 (D.bool b505)),(83,.d false 0 D.nili),(85,.ag [.d false 0 (D.str op7),.d false 0 (D.str nm8),.d false 0 (D.sl 5 ks9),.d false 0 (D.int .i64 p10)]),(86,.bf 1152921504606847062 0),(87,.rp 10 0),(88,.d false 0 (D.sl 0 x16)),(89,.own false 0 []),(90,.rp 10 1),(91,.d false 0 (D.sl 0 (loopOf y17))),(92,.own false 0 (loopOf y17)),(93,.rp 10 1),(94,.d false 0 (D.sl 0 (loopOf y17))),(95,.own false 0 (loopOf y17++loopOf y17))]
noncomputable def v1_0:List (Nat×Bool×List V):=[(8,true,[.d false 0 (D.str op7),.d false 0 (D.str nm8),.d false 0 (D.sl 5 ks9),.d false 0 (D.int .i64 p10)]),(10,true,[.d false 0 (D.sl 0 x16),.d false 0 (D.sl 0 (loopOf y17))]),(13,true,[.own false 0 (x16++[D.int .i64 m414490]),.own false 0 (List.take (Int.toNat (↑(List.length (loopOf y17)):Int) - 1) (List.drop 1 (loopOf y17))++[D.int .i64 m482493])]),(1152921504606847023,true,[.d false 3 (D.ag [D.sl 0 x16,D.sl 0 (loopOf y17)])]),(1152921504606847026,true,[.own false 0 [D.str (ByteArray.mk #[97]),D.str (ByteArray.mk #[98]),D.str (ByteArray.mk #[103,111,97,108])]]),(1152921504606847028,true,[.d false 0 (D.bool b19),.d false 0 D.nili]),(1152921504606847055,true,[.own false 0 [D.str (ByteArray.mk #[97]),D.str (ByteArray.mk #[98]),D.str (ByteArray.mk #[103,111,97,108])]]),(1152921504606847057,true,[.d false 0 (D.bool b505),.d false 0 D.nili]),(1152921504606847062,true,[.own false 0 [D.str (ByteArray.mk #[97]),D.str (ByteArray.mk #[98]),D.str (ByteArray.mk #[103,111,97,108])]])]
noncomputable def z1_1:S:=⟨Tm.mk 212 (selT (u1_0 a b op7 nm8 ks9 p10 x16 y17 b19 x336488 m414490 x472491 m482493 b505) 112087356272980347986207159690286421 []),selR (v1_0 op7 nm8 ks9 p10 x16 y17 b19 m414490 m482493 b505) 87381 []⟩
noncomputable def z1_2:S:=⟨Tm.mk 212 (selT (u1_0 a b op7 nm8 ks9 p10 x16 y17 b19 x336488 m414490 x472491 m482493 b505) 27712532321789399022586594340459861 []),selR (v1_0 op7 nm8 ks9 p10 x16 y17 b19 m414490 m482493 b505) 87381 []⟩
noncomputable def z1_3:S:=⟨Tm.mk 212 (selT (u1_0 a b op7 nm8 ks9 p10 x16 y17 b19 x336488 m414490 x472491 m482493 b505) 26394175697552040445030023006868821 []),selR (v1_0 op7 nm8 ks9 p10 x16 y17 b19 m414490 m482493 b505) 87381 []⟩
noncomputable def z1_4:S:=⟨Tm.mk 212 (selT (u1_0 a b op7 nm8 ks9 p10 x16 y17 b19 x336488 m414490 x472491 m482493 b505) 26373893287948388774606075755582805 []),selR (v1_0 op7 nm8 ks9 p10 x16 y17 b19 m414490 m482493 b505) 87381 []⟩
noncomputable def z1_5:S:=⟨Tm.mk 212 (selT (u1_0 a b op7 nm8 ks9 p10 x16 y17 b19 x336488 m414490 x472491 m482493 b505) 26393858784901983387679648831067477 []),selR (v1_0 op7 nm8 ks9 p10 x16 y17 b19 m414490 m482493 b505) 21845 []⟩
def a1_0:List Nat:=[0,1,2,3,4,5,6,7,8,9,10,11,12]
def a1_1:List Nat:=[0,1,2,3,4,5,6,7,8,9,10]
def a1_2:List Nat:=[0,1,2,3,4,5,6,7,8,9]
def a1_3:List Nat:=[0,1,2,3,4,5,6,8,9]
def a1_4:List Nat:=[0,1,2,3,5,6,8,9]
def a1_5:List Nat:=[0,2,3,4,5,6,8,9]
theorem n1_0:regA Tryz.prog WY R1 B1 6 a1_0 (z1_0 a b op7 nm8 ks9 p10 x16 y17 b19 x336488 m414490 x472491 m482493 b505 b520) kont506=kont506 (y1_0 a b op7 nm8 ks9 p10 x16 y17 b19 x336488 m414490 x472491 m482493 b505 b520):=by
   kernel_rfl
noncomputable def t1_0:Option β:=match holdX Tryz.prog (D.ag [D.str op7,D.str nm8,D.sl 5 ks9,D.int .i64 p10]) [D.str (ByteArray.mk #[97]),D.str (ByteArray.mk #[98]),D.str (ByteArray.mk #[103,111,97,108])] x16 (loopOf y17++loopOf y17)with
   |some b526=>kont506 (y1_0 a b op7 nm8 ks9 p10 x16 y17 b19 x336488 m414490 x472491 m482493 b505 b526)
   |none=>none
theorem n1_1:regA Tryz.prog WY R1 B1 8 a1_1 (z1_1 a b op7 nm8 ks9 p10 x16 y17 b19 x336488 m414490 x472491 m482493 b505) kont506=t1_0 a b op7 nm8 ks9 p10 x16 y17 b19 x336488 m414490 x472491 m482493 b505 kont506:=by
   refine(show _=match
   holdX Tryz.prog (D.ag [D.str op7,D.str nm8,D.sl 5 ks9,D.int .i64 p10])
    [D.str (ByteArray.mk #[97]),D.str (ByteArray.mk #[98]),D.str (ByteArray.mk #[103,111,97,108])] x16 (loopOf y17++loopOf y17)with
  |some b520=>regA Tryz.prog WY R1 B1 6 a1_0 (z1_0 a b op7 nm8 ks9 p10 x16 y17 b19 x336488 m414490 x472491 m482493 b505 b520) kont506
  |none=>none from by kernel_rfl).trans ?_
   first|(simp only[n1_0];rfl)|simp only[n1_0,t1_0]
noncomputable def t1_1:Option β:=if List.length (loopOf y17)+List.length (loopOf y17)≤34359738368 then t1_0 a b op7 nm8 ks9 p10 x16 y17 b19 x336488 m414490 x472491 m482493 b505 kont506 else none
theorem n1_2:regA Tryz.prog WY R1 B1 9 a1_2 (z1_2 a b op7 nm8 ks9 p10 x16 y17 b19 x336488 m414490 x472491 m482493 b505) kont506=t1_1 a b op7 nm8 ks9 p10 x16 y17 b19 x336488 m414490 x472491 m482493 b505 kont506:=by
   refine(show _=if List.length (loopOf y17)+List.length (loopOf y17)≤34359738368 then regA Tryz.prog WY R1 B1 8 a1_1 (z1_1 a b op7 nm8 ks9 p10 x16 y17 b19 x336488 m414490 x472491 m482493 b505) kont506 else none from by kernel_rfl).trans ?_
   first|(simp only[n1_1];rfl)|simp only[n1_1,t1_0,t1_1]
noncomputable def t1_2:Option β:=if 0+List.length (loopOf y17)≤34359738368 then t1_1 a b op7 nm8 ks9 p10 x16 y17 b19 x336488 m414490 x472491 m482493 b505 kont506 else none
theorem n1_3:regA Tryz.prog WY R1 B1 10 a1_3 (z1_3 a b op7 nm8 ks9 p10 x16 y17 b19 x336488 m414490 x472491 m482493 b505) kont506=t1_2 a b op7 nm8 ks9 p10 x16 y17 b19 x336488 m414490 x472491 m482493 b505 kont506:=by
   refine(show _=if 0+List.length (loopOf y17)≤34359738368 then regA Tryz.prog WY R1 B1 9 a1_2 (z1_2 a b op7 nm8 ks9 p10 x16 y17 b19 x336488 m414490 x472491 m482493 b505) kont506 else none from by kernel_rfl).trans ?_
   first|(simp only[n1_2];rfl)|simp only[n1_2,t1_0,t1_1,t1_2]
theorem n1_4:regA Tryz.prog WY R1 B1 11 a1_4 (z1_4 a b op7 nm8 ks9 p10 x16 y17 b19 x336488 m414490 x472491 m482493 b505) kont506=t1_2 a b op7 nm8 ks9 p10 x16 y17 b19 x336488 m414490 x472491 m482493 b505 kont506:=by
   refine(show _=regA Tryz.prog WY R1 B1 10 a1_3 (z1_3 a b op7 nm8 ks9 p10 x16 y17 b19 x336488 m414490 x472491 m482493 b505) kont506 from by kernel_rfl).trans ?_
   simp only[n1_3,t1_0,t1_1,t1_2]
theorem n1_5:regA Tryz.prog WY R1 B1 11 a1_5 (z1_5 a b op7 nm8 ks9 p10 x16 y17 b19 x336488 m414490 x472491 m482493 b505) kont506=t1_2 a b op7 nm8 ks9 p10 x16 y17 b19 x336488 m414490 x472491 m482493 b505 kont506:=by
   refine(show _=regA Tryz.prog WY R1 B1 10 a1_3 (z1_3 a b op7 nm8 ks9 p10 x16 y17 b19 x336488 m414490 x472491 m482493 b505) kont506 from by kernel_rfl).trans ?_
   simp only[n1_3,t1_0,t1_1,t1_2]
theorem n1_6:regA Tryz.prog WY R1 B1 19 [] (z1_6 a b op7 nm8 ks9 p10 x16 y17 b19 x336488 m414490 x472491 m482493 b505) kont506=t1_2 a b op7 nm8 ks9 p10 x16 y17 b19 x336488 m414490 x472491 m482493 b505 kont506:=by
   refine(show _=meet (regA Tryz.prog WY R1 B1 11 a1_4 (z1_4 a b op7 nm8 ks9 p10 x16 y17 b19 x336488 m414490 x472491 m482493 b505) kont506)
   (regA Tryz.prog WY R1 B1 11 a1_5 (z1_5 a b op7 nm8 ks9 p10 x16 y17 b19 x336488 m414490 x472491 m482493 b505) kont506)from by kernel_rfl).trans ?_
   first|(simp only[n1_4,n1_5,Go.Sc.meet_self];done)|simp only[n1_4,n1_5,Go.Sc.meet_self,t1_0,t1_1,t1_2]
end
theorem reg1 {β:Type} (a:List D) (b:List D) (op7:ByteArray) (nm8:ByteArray) (ks9:List D) (p10:Int) (x16:List D) (y17:List D) (b19:Bool) (x336488:D) (m414490:Int) (x472491:D) (m482493:Int) (b505:Bool) (kont506:S→Option β):regH Tryz.prog WY R1 (z1_6 a b op7 nm8 ks9 p10 x16 y17 b19 x336488 m414490 x472491 m482493 b505) kont506=if 0+List.length (loopOf y17)≤34359738368 then if List.length (loopOf y17)+List.length (loopOf y17)≤34359738368 then match holdX Tryz.prog (D.ag [D.str op7,D.str nm8,D.sl 5 ks9,D.int .i64 p10]) [D.str (ByteArray.mk #[97]),D.str (ByteArray.mk #[98]),D.str (ByteArray.mk #[103,111,97,108])] x16 (loopOf y17++loopOf y17)with
   |some b526=>kont506 (y1_0 a b op7 nm8 ks9 p10 x16 y17 b19 x336488 m414490 x472491 m482493 b505 b526)
   |none=>none else none else none:=(show _=regA Tryz.prog WY R1 B1 19 [] (z1_6 a b op7 nm8 ks9 p10 x16 y17 b19 x336488 m414490 x472491 m482493 b505) kont506 from by kernel_rfl).trans (n1_6 ..)
theorem start_pre {β:Type} (s:ByteArray) (a:List D) (b:List D) (kc638:Ex→S→Option β):evalK X [] (cutN 7 (body Tryz.f4)) (live 64 [] (restN 7 (body Tryz.f4)) 64) (⟨Tm.mk 212 [(0,.d true 0 (D.str s)),(1,.d true 0 (D.sl 0 a)),(2,.d true 0 (D.sl 0 b))],[]⟩) kc638=if decide ((↑(ByteArray.size s):Int)>200)=true then kc638 Ex.ret (S.mk (Tm.mk 212 [(0,.d true 0 (D.str s)),(1,.d true 0 (D.sl 0 a)),(2,.d true 0 (D.sl 0 b)),(6,.d false 0 (D.bool true)),(31,.d true 0 (D.str s)),(32,.d false 0 (D.int .i64 (↑(ByteArray.size s):Int))),(33,.d false 0 (D.bool (decide ((↑(ByteArray.size s):Int)>200))))]) [])else match parseP s (60:Int)with
   |PA.ok op646 nm647 ks648 p649=>match otherX Tryz.prog (D.ag [D.str op646,D.str nm647,D.sl 5 ks648,D.int .i64 p649])with
    |some b651=>if b651=true then kc638 Ex.ret (S.mk (Tm.mk 212 [(1,.d true 0 (D.sl 0 a)),(2,.d true 0 (D.sl 0 b)),(6,.d false 0 (D.bool true)),(7,.rp 8 0),(44,.d false 0 (D.bool b651))]) [(8,true,[.d false 0 (D.str op646),.d false 0 (D.str nm647),.d false 0 (D.sl 5 ks648),.d false 0 (D.int .i64 p649)])])else match lettS (List.take 8 a),lettS (List.take 8 b)with
     |some x655,some y656=>match holdX Tryz.prog (D.ag [D.str op646,D.str nm647,D.sl 5 ks648,D.int .i64 p649]) [D.str (ByteArray.mk #[97]),D.str (ByteArray.mk #[98]),D.str (ByteArray.mk #[103,111,97,108])] x655 (loopOf y656)with
      |some b658=>kc638 Ex.norm (z0_63 a b op646 nm647 ks648 p649 x655 y656 b658)
      |none=>none
     |x,x_1=>none
    |none=>none
   |PA.no n659=>kc638 Ex.ret (S.mk (Tm.mk 212 [(1,.d true 0 (D.sl 0 a)),(2,.d true 0 (D.sl 0 b)),(6,.d false 0 (D.bool true)),(7,.rp 8 0),(44,.d false 0 (D.bool true))]) [(8,true,[.d false 0 (D.str (ByteArray.mk #[])),.d false 0 (D.str (ByteArray.mk #[])),.d false 0 (D.sl 5 []),.d false 0 (D.int .i64 0)])])
   |PA.er p663 n664=>kc638 Ex.ret (S.mk (Tm.mk 212 [(1,.d true 0 (D.sl 0 a)),(2,.d true 0 (D.sl 0 b)),(6,.d false 0 (D.bool true)),(7,.rp 8 0),(44,.d false 0 (D.bool true))]) [(8,true,[.d false 0 (D.str (ByteArray.mk #[])),.d false 0 (D.str (ByteArray.mk #[])),.d false 0 (D.sl 5 []),.d false 0 (D.int .i64 0)])])
   |PA.bad=>none:=by kernel_rfl
theorem start {β:Type} (s:ByteArray) (a:List D) (b:List D) (k:List TV→List TV→Option β):evalF Tryz.prog WY Tryz.f4 [.d true 0 (D.str s),.d true 0 (D.sl 0 a),.d true 0 (D.sl 0 b)] k=if decide ((↑(ByteArray.size s):Int)>200)=true then k [.d false 0 (D.bool true)] []else match parseP s (60:Int)with
   |PA.ok op556 nm557 ks558 p559=>match otherX Tryz.prog (D.ag [D.str op556,D.str nm557,D.sl 5 ks558,D.int .i64 p559])with
    |some b561=>if b561=true then k [.d false 0 (D.bool true)] []else match lettS (List.take 8 a),lettS (List.take 8 b)with
     |some x565,some y566=>match holdX Tryz.prog (D.ag [D.str op556,D.str nm557,D.sl 5 ks558,D.int .i64 p559]) [D.str (ByteArray.mk #[97]),D.str (ByteArray.mk #[98]),D.str (ByteArray.mk #[103,111,97,108])] x565 (loopOf y566)with
      |some b568=>regH Tryz.prog WY R0 (z0_63 a b op556 nm557 ks558 p559 x565 y566 b568) fun s576 ↦ J0 s a b k s576
      |none=>none
     |x,x_1=>none
    |none=>none
   |PA.no n577=>k [.d false 0 (D.bool true)] []
   |PA.er p581 n582=>k [.d false 0 (D.bool true)] []
   |PA.bad=>none:=(show _=evalK X [] (body Tryz.f4) 64 (⟨Tm.mk 212 [(0,.d true 0 (D.str s)),(1,.d true 0 (D.sl 0 a)),(2,.d true 0 (D.sl 0 b))],[]⟩) (finK Tryz.prog Tryz.f4 [.d true 0 (D.str s),.d true 0 (D.sl 0 a),.d true 0 (D.sl 0 b)] k)from by kernel_rfl).trans ((evalK_cut X [] 7 _ _ _ _ (by kernel_rfl)).trans ((start_pre s a b _).trans (by kernel_rfl)))
theorem j0_pre {β:Type} (a:List D) (b:List D) (op7:ByteArray) (nm8:ByteArray) (ks9:List D) (p10:Int) (x16:List D) (y17:List D) (b19:Bool) (x336488:D) (m414490:Int) (x472491:D) (m482493:Int) (kc672:Ex→S→Option β):evalK X [] (cutN 1 (sub [1,1,1,1,1,1,1,1] (body Tryz.f4))) (live 64 [] (restN 1 (sub [1,1,1,1,1,1,1,1] (body Tryz.f4))) 64) (j0 a b op7 nm8 ks9 p10 x16 y17 b19 x336488 m414490 x472491 m482493) kc672=match holdX Tryz.prog (D.ag [D.str op7,D.str nm8,D.sl 5 ks9,D.int .i64 p10]) [D.str (ByteArray.mk #[97]),D.str (ByteArray.mk #[98]),D.str (ByteArray.mk #[103,111,97,108])] (x16++[D.int .i64 m414490]) (List.take (Int.toNat (↑(List.length (loopOf y17)):Int) - 1) (List.drop 1 (loopOf y17))++[D.int .i64 m482493])with
   |some b674=>kc672 Ex.norm (z1_6 a b op7 nm8 ks9 p10 x16 y17 b19 x336488 m414490 x472491 m482493 b674)
   |none=>none:=by kernel_rfl
theorem j0_eq {β:Type} (s:ByteArray) (a:List D) (b:List D) (op7:ByteArray) (nm8:ByteArray) (ks9:List D) (p10:Int) (x16:List D) (y17:List D) (b19:Bool) (x336488:D) (m414490:Int) (x472491:D) (m482493:Int) (k:List TV→List TV→Option β):J0 s a b k (j0 a b op7 nm8 ks9 p10 x16 y17 b19 x336488 m414490 x472491 m482493)=match holdX Tryz.prog (D.ag [D.str op7,D.str nm8,D.sl 5 ks9,D.int .i64 p10]) [D.str (ByteArray.mk #[97]),D.str (ByteArray.mk #[98]),D.str (ByteArray.mk #[103,111,97,108])] (x16++[D.int .i64 m414490]) (List.take (Int.toNat (↑(List.length (loopOf y17)):Int) - 1) (List.drop 1 (loopOf y17))++[D.int .i64 m482493])with
   |some b587=>regH Tryz.prog WY R1 (z1_6 a b op7 nm8 ks9 p10 x16 y17 b19 x336488 m414490 x472491 m482493 b587) fun s590 ↦ J1 s a b k s590
   |none=>none:=(show _=evalK X [] (sub [1,1,1,1,1,1,1,1] (body Tryz.f4)) 64 (j0 a b op7 nm8 ks9 p10 x16 y17 b19 x336488 m414490 x472491 m482493) (applyK X (finK Tryz.prog Tryz.f4 [.d true 0 (D.str s),.d true 0 (D.sl 0 a),.d true 0 (D.sl 0 b)] k) [])from by kernel_rfl).trans ((evalK_cut X [] 1 _ _ _ _ (by kernel_rfl)).trans ((j0_pre a b op7 nm8 ks9 p10 x16 y17 b19 x336488 m414490 x472491 m482493 _).trans (by kernel_rfl)))
theorem j1_eq {β:Type} (s:ByteArray) (a:List D) (b:List D) (op7:ByteArray) (nm8:ByteArray) (ks9:List D) (p10:Int) (x16:List D) (y17:List D) (b19:Bool) (x336488:D) (m414490:Int) (x472491:D) (m482493:Int) (b505:Bool) (b526529:Bool) (k:List TV→List TV→Option β):J1 s a b k (j1 a b op7 nm8 ks9 p10 x16 y17 b19 x336488 m414490 x472491 m482493 b505 b526529)=if(!b19==b505)=true then k [.d false 0 (D.bool false)] []else if(!b19==b526529)=true then k [.d false 0 (D.bool false)] []else if isFm (D.ag [D.str op7,D.str nm8,D.sl 5 ks9,D.int .i64 p10])=true then match holdX Tryz.prog (D.ag [D.str (ByteArray.mk #[70]),D.str (ByteArray.mk #[]),D.sl 5 [D.ag [D.str op7,D.str nm8,D.sl 5 ks9,D.int .i64 p10]],D.int .i64 0]) [D.str (ByteArray.mk #[97]),D.str (ByteArray.mk #[98]),D.str (ByteArray.mk #[103,111,97,108])] x16 (loopOf y17)with
   |some b597=>if isFm (D.ag [D.str op7,D.str nm8,D.sl 5 ks9,D.int .i64 p10])=true then if isFm (D.ag [D.str (ByteArray.mk #[33]),D.str (ByteArray.mk #[]),D.sl 5 [D.ag [D.str op7,D.str nm8,D.sl 5 ks9,D.int .i64 p10]],D.int .i64 0])=true then match holdX Tryz.prog (D.ag [D.str (ByteArray.mk #[71]),D.str (ByteArray.mk #[]),D.sl 5 [D.ag [D.str (ByteArray.mk #[33]),D.str (ByteArray.mk #[]),D.sl 5 [D.ag [D.str op7,D.str nm8,D.sl 5 ks9,D.int .i64 p10]],D.int .i64 0]],D.int .i64 0]) [D.str (ByteArray.mk #[97]),D.str (ByteArray.mk #[98]),D.str (ByteArray.mk #[103,111,97,108])] x16 (loopOf y17)with
    |some b599=>if isFm (D.ag [D.str op7,D.str nm8,D.sl 5 ks9,D.int .i64 p10])=true then if isFm (D.ag [D.str (ByteArray.mk #[70]),D.str (ByteArray.mk #[]),D.sl 5 [D.ag [D.str op7,D.str nm8,D.sl 5 ks9,D.int .i64 p10]],D.int .i64 0])=true then match holdX Tryz.prog (D.ag [D.str (ByteArray.mk #[70]),D.str (ByteArray.mk #[]),D.sl 5 [D.ag [D.str (ByteArray.mk #[70]),D.str (ByteArray.mk #[]),D.sl 5 [D.ag [D.str op7,D.str nm8,D.sl 5 ks9,D.int .i64 p10]],D.int .i64 0]],D.int .i64 0]) [D.str (ByteArray.mk #[97]),D.str (ByteArray.mk #[98]),D.str (ByteArray.mk #[103,111,97,108])] x16 (loopOf y17)with
     |some b601=>if isFm (D.ag [D.str op7,D.str nm8,D.sl 5 ks9,D.int .i64 p10])=true then match holdX Tryz.prog (D.ag [D.str (ByteArray.mk #[71]),D.str (ByteArray.mk #[]),D.sl 5 [D.ag [D.str op7,D.str nm8,D.sl 5 ks9,D.int .i64 p10]],D.int .i64 0]) [D.str (ByteArray.mk #[97]),D.str (ByteArray.mk #[98]),D.str (ByteArray.mk #[103,111,97,108])] x16 (loopOf y17)with
      |some b603=>if isFm (D.ag [D.str op7,D.str nm8,D.sl 5 ks9,D.int .i64 p10])=true then if isFm (D.ag [D.str (ByteArray.mk #[71]),D.str (ByteArray.mk #[]),D.sl 5 [D.ag [D.str op7,D.str nm8,D.sl 5 ks9,D.int .i64 p10]],D.int .i64 0])=true then if isFm (D.ag [D.str op7,D.str nm8,D.sl 5 ks9,D.int .i64 p10])=true then if isFm (D.ag [D.str (ByteArray.mk #[88]),D.str (ByteArray.mk #[]),D.sl 5 [D.ag [D.str (ByteArray.mk #[71]),D.str (ByteArray.mk #[]),D.sl 5 [D.ag [D.str op7,D.str nm8,D.sl 5 ks9,D.int .i64 p10]],D.int .i64 0]],D.int .i64 0])=true then match holdX Tryz.prog (D.ag [D.str (ByteArray.mk #[38]),D.str (ByteArray.mk #[]),D.sl 5 [D.ag [D.str op7,D.str nm8,D.sl 5 ks9,D.int .i64 p10],D.ag [D.str (ByteArray.mk #[88]),D.str (ByteArray.mk #[]),D.sl 5 [D.ag [D.str (ByteArray.mk #[71]),D.str (ByteArray.mk #[]),D.sl 5 [D.ag [D.str op7,D.str nm8,D.sl 5 ks9,D.int .i64 p10]],D.int .i64 0]],D.int .i64 0]],D.int .i64 0]) [D.str (ByteArray.mk #[97]),D.str (ByteArray.mk #[98]),D.str (ByteArray.mk #[103,111,97,108])] x16 (loopOf y17)with
       |some b605=>if isFm (D.ag [D.str op7,D.str nm8,D.sl 5 ks9,D.int .i64 p10])=true then if isFm (D.ag [D.str (ByteArray.mk #[70]),D.str (ByteArray.mk #[]),D.sl 5 [D.ag [D.str op7,D.str nm8,D.sl 5 ks9,D.int .i64 p10]],D.int .i64 0])=true then if isFm (D.ag [D.str op7,D.str nm8,D.sl 5 ks9,D.int .i64 p10])=true then if isFm (D.ag [D.str (ByteArray.mk #[88]),D.str (ByteArray.mk #[]),D.sl 5 [D.ag [D.str (ByteArray.mk #[70]),D.str (ByteArray.mk #[]),D.sl 5 [D.ag [D.str op7,D.str nm8,D.sl 5 ks9,D.int .i64 p10]],D.int .i64 0]],D.int .i64 0])=true then match holdX Tryz.prog (D.ag [D.str (ByteArray.mk #[124]),D.str (ByteArray.mk #[]),D.sl 5 [D.ag [D.str op7,D.str nm8,D.sl 5 ks9,D.int .i64 p10],D.ag [D.str (ByteArray.mk #[88]),D.str (ByteArray.mk #[]),D.sl 5 [D.ag [D.str (ByteArray.mk #[70]),D.str (ByteArray.mk #[]),D.sl 5 [D.ag [D.str op7,D.str nm8,D.sl 5 ks9,D.int .i64 p10]],D.int .i64 0]],D.int .i64 0]],D.int .i64 0]) [D.str (ByteArray.mk #[97]),D.str (ByteArray.mk #[98]),D.str (ByteArray.mk #[103,111,97,108])] x16 (loopOf y17)with
        |some b607=>if(!b597==b599)=true then if(b597==b601)=true then if(b603==b605)=true then if(b597==b607)=true then if(!b603)=true then if(!b19)=true then k [.d false 0 (D.bool true)] []else k [.d false 0 (D.bool b597)] []else if b19=true then if(!b19)=true then k [.d false 0 (D.bool true)] []else k [.d false 0 (D.bool b597)] []else k [.d false 0 (D.bool false)] []else k [.d false 0 (D.bool false)] []else k [.d false 0 (D.bool false)] []else k [.d false 0 (D.bool false)] []else k [.d false 0 (D.bool false)] []
        |none=>none else none else none else none else none
       |none=>none else none else none else none else none
      |none=>none else none
     |none=>none else none else none
    |none=>none else none else none
   |none=>none else none:=by kernel_rfl
end Q4T
end Go.Sd
set_option maxRecDepth 100000
namespace Go.Sd
open Go Go.Cm Go.Proofs Go.Sc
theorem ev_turns (s:ByteArray) (a b:List D) (ha:U8D a) (hb:U8D b) {γ:Type} (q:List TV→List TV→Option γ):
  evalF Tryz.prog WY Tryz.f4 [.d true 0 (.str s),.d true 0 (.sl 0 a),.d true 0 (.sl 0 b)] q=q [.d false 0 (.bool true)] []:=by
 rw[Q4T.start]
 by_cases hlen:decide ((s.size:Int)>200)=true
 ·rw[if_pos hlen]
 rw[if_neg hlen]
 have hle:s.size≤200:=by rw[decide_eq_true_eq]at hlen;omega
 cases h1:parseP s 60 with
 |bad=>exact(parse_bad s 60 h1).elim
 |no n=>rfl
 |er p n=>rfl
 |ok op nm ks p=>
  obtain⟨f,u,hf,hu,zu⟩:=parse_fm h1 hle
  obtain⟨o1,e1⟩:=otherX_of hf hu (by omega)
  simp only[e1]
  cases o1 with
  |true=>rfl
  |false=>
   have F1:Fa _ u:=⟨⟨f,hf,hu⟩,otherX_labs hf hu e1⟩
   obtain⟨x,y,ex,ey,hx,hy,hne,lx,ly⟩:=word_ok ha hb
   have W:Wo x (loopOf y):=⟨hx,hy,hne,by omega⟩
   obtain⟨v,lr,hl⟩:∃v lr,loopOf y=.int .i64 v::lr:=by
    cases h:loopOf y with
    |nil=>exact(hne h).elim
    |cons d lr=>
     obtain⟨v,rfl,_⟩:=hy d (by rw[h];exact .head _)
     exact⟨v,lr,rfl⟩
   have lr1:(loopOf y).length=lr.length+1:=by rw[hl];rfl
   have W':Wo x (.int .i64 v::lr):=hl▸W
   have a1:=F1.hold W (by omega)
   have a2:=F1.hold_draw W' (by omega) (by simp;omega)
   rw[←hl]at a2
   have a3:=F1.hold_twice W (by omega) (by omega)
   have FF:=F1.one (ob:=⟨#[70]⟩) (nm:=⟨#[]⟩) (p:=0) .F (B_lit [70])
   have FN:=F1.one (ob:=⟨#[33]⟩) (nm:=⟨#[]⟩) (p:=0) .no (B_lit [33])
   have FGN:=FN.one (ob:=⟨#[71]⟩) (nm:=⟨#[]⟩) (p:=0) .G (B_lit [71])
   have FFF:=FF.one (ob:=⟨#[70]⟩) (nm:=⟨#[]⟩) (p:=0) .F (B_lit [70])
   have FG:=F1.one (ob:=⟨#[71]⟩) (nm:=⟨#[]⟩) (p:=0) .G (B_lit [71])
   have FXG:=FG.one (ob:=⟨#[88]⟩) (nm:=⟨#[]⟩) (p:=0) .X (B_lit [88])
   have FA:=F1.two FXG (ob:=⟨#[38]⟩) (nm:=⟨#[]⟩) (p:=0) .and (B_lit [38])
   have FXF:=FF.one (ob:=⟨#[88]⟩) (nm:=⟨#[]⟩) (p:=0) .X (B_lit [88])
   have FO:=F1.two FXF (ob:=⟨#[124]⟩) (nm:=⟨#[]⟩) (p:=0) .or (B_lit [124])
   have b1:=FF.hold W (by simp only[Pr.sz];omega)
   have b2:=FGN.hold W (by simp only[Pr.sz];omega)
   have b3:=FFF.hold W (by simp only[Pr.sz];omega)
   have b4:=FG.hold W (by simp only[Pr.sz];omega)
   have b5:=FA.hold W (by simp only[Pr.sz];omega)
   have b6:=FO.hold W (by simp only[Pr.sz];omega)
   unfold namesD at a1 a2 a3 b1 b2 b3 b4 b5 b6
   simp only[ex,ey,a1,Bool.false_eq_true,if_false,if_true]
   rw[Q4T.reg0]
   have g0:(loopOf y)[0]? =some (.int .i64 v):=by rw[hl];rfl
   have ht:List.take (Int.toNat ((loopOf y).length:Int) - 1) (List.drop 1 (loopOf y))=lr:=by rw[hl];simp
   have c1:(0:Int)≤((loopOf y).length:Int)∧((loopOf y).length:Int)≤((loopOf y).length:Int)∧(0:Int)≤1∧(1:Int)≤((loopOf y).length:Int):=by omega
   have c2:0+x.length≤34359738368:=by omega
   have c3:x.length+1≤34359738368:=by omega
   have c4:0+lr.length≤34359738368:=by omega
   have c5:lr.length+1≤34359738368:=by omega
   have c6:0+(loopOf y).length≤34359738368:=by omega
   have c7:(loopOf y).length+(loopOf y).length≤34359738368:=by omega
   simp only[g0,if_true,if_pos c1,if_pos c2,if_pos c3,ht,if_pos c4,if_pos c5]
   refine(Q4T.j0_eq s a b op nm ks p x y _ _ v _ v q).trans ?_
   rw[ht,a2]
   simp only
   rw[Q4T.reg1]
   simp only[if_pos c6,if_pos c7,a3]
   refine(Q4T.j1_eq s a b op nm ks p x y _ _ v _ v _ _ q).trans ?_
   simp only[F1.is,FN.is,FF.is,FG.is,FXG.is,FXF.is,b1,b2,b3,b4,b5,b6,if_true]
   rw[HB_GN,HB_FF,HB_and,HB_or,HB_X,HB_X,HB_F u _ 0,HB_G u _ 0]
   generalize HB u (strm x (loopOf y)) 0=A
   generalize HB (.un .F u) (strm x (loopOf y)) (0+1)=B
   generalize HB (.un .G u) (strm x (loopOf y)) (0+1)=C
   cases A<;>cases B<;>cases C<;>rfl
theorem valid_turns (s:ByteArray) {a b:List D} (ha:U8D a) (hb:U8D b):Valid glS Tryz.prog 4 [.d true 0 (.str s),.d true 0 (.sl 0 a),.d true 0 (.sl 0 b)] [.d false 0 (.bool true)] []:=
 valid_of envwy mixed Tryz.func4 (by kernel_rfl) (ev_turns s a b ha hb _)
end Go.Sd

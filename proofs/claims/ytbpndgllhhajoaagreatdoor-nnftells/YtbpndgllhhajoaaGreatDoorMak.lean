/- Made by a program of the session's own (tools/gen_scan.py): what functions come to, segment by segment. -/
import Derived.Test.YtbpndgllhhajoaaGreatDoorMaj
import Derived.Test.YtbpndgllhhajoaaGreatDoorMag
set_option linter.unusedVariables false
set_option linter.unusedSimpArgs false
namespace Go.Sd
open Go Go.Cm Go.Proofs Go.Sc
set_option maxRecDepth 100000
namespace T90
noncomputable def X:Fx:=⟨Tryz.prog,R12,64,3⟩
theorem start {β:Type} (op:ByteArray) (nm:ByteArray) (ks:List D) (p:Int) (o2:ByteArray) (n2:ByteArray) (k2:List D) (p2:Int) (o3:ByteArray) (n3:ByteArray) (k3:List D) (p3:Int) (k:List TV→List TV→Option β):evalF Tryz.prog R12 Tryz.f89 [.d true 5 (.ag [D.str op,D.str nm,D.sl 5 ks,D.int .i64 p]),.d true 5 (.ag [D.str o2,D.str n2,D.sl 5 k2,D.int .i64 p2]),.d true 5 (.ag [D.str o3,D.str n3,D.sl 5 k3,D.int .i64 p3])] k=if(op.toList==[124])=true then if(o2.toList==[102,97,108,115,101])=true then k [.d true 5 (.ag [D.str o3,D.str n3,D.sl 5 k3,D.int .i64 p3])] []else if(o3.toList==[102,97,108,115,101])=true then k [.d true 5 (.ag [D.str o2,D.str n2,D.sl 5 k2,D.int .i64 p2])] []else if(o2.toList==[116,114,117,101])=true then k [.d false 5 (.ag [D.str (ByteArray.mk #[116,114,117,101]),D.str (ByteArray.mk #[]),D.sl 5 [],D.int .i64 0])] []else if(o3.toList==[116,114,117,101])=true then k [.d false 5 (.ag [D.str (ByteArray.mk #[116,114,117,101]),D.str (ByteArray.mk #[]),D.sl 5 [],D.int .i64 0])] []else match ofD (.ag [D.str o2,D.str n2,D.sl 5 k2,D.int .i64 p2])with
   |some f18=>match ofD (.ag [D.str o3,D.str n3,D.sl 5 k3,D.int .i64 p3])with
    |some g19=>if bd none f18 then if sameF f18 g19=true then k [.d true 5 (.ag [D.str o2,D.str n2,D.sl 5 k2,D.int .i64 p2])] []else k [.d true 5 (.ag [D.str op,D.str nm,D.sl 5 ks,D.int .i64 p])] []else none
    |none=>none
   |none=>none else if(op.toList==[38])=true then if(o2.toList==[116,114,117,101])=true then k [.d true 5 (.ag [D.str o3,D.str n3,D.sl 5 k3,D.int .i64 p3])] []else if(o3.toList==[116,114,117,101])=true then k [.d true 5 (.ag [D.str o2,D.str n2,D.sl 5 k2,D.int .i64 p2])] []else if(o2.toList==[102,97,108,115,101])=true then k [.d false 5 (.ag [D.str (ByteArray.mk #[102,97,108,115,101]),D.str (ByteArray.mk #[]),D.sl 5 [],D.int .i64 0])] []else if(o3.toList==[102,97,108,115,101])=true then k [.d false 5 (.ag [D.str (ByteArray.mk #[102,97,108,115,101]),D.str (ByteArray.mk #[]),D.sl 5 [],D.int .i64 0])] []else match ofD (.ag [D.str o2,D.str n2,D.sl 5 k2,D.int .i64 p2])with
    |some f37=>match ofD (.ag [D.str o3,D.str n3,D.sl 5 k3,D.int .i64 p3])with
     |some g38=>if bd none f37 then if sameF f37 g38=true then k [.d true 5 (.ag [D.str o2,D.str n2,D.sl 5 k2,D.int .i64 p2])] []else k [.d true 5 (.ag [D.str op,D.str nm,D.sl 5 ks,D.int .i64 p])] []else none
     |none=>none
    |none=>none else if(op.toList==[85])=true then if constB o3=true then k [.d true 5 (.ag [D.str o3,D.str n3,D.sl 5 k3,D.int .i64 p3])] []else if(o2.toList==[102,97,108,115,101])=true then k [.d true 5 (.ag [D.str o3,D.str n3,D.sl 5 k3,D.int .i64 p3])] []else match ofD (.ag [D.str o2,D.str n2,D.sl 5 k2,D.int .i64 p2])with
   |some f51=>match ofD (.ag [D.str o3,D.str n3,D.sl 5 k3,D.int .i64 p3])with
    |some g52=>if bd none f51 then if sameF f51 g52=true then k [.d true 5 (.ag [D.str o2,D.str n2,D.sl 5 k2,D.int .i64 p2])] []else k [.d true 5 (.ag [D.str op,D.str nm,D.sl 5 ks,D.int .i64 p])] []else none
    |none=>none
   |none=>none else if(op.toList==[82])=true then if constB o3=true then k [.d true 5 (.ag [D.str o3,D.str n3,D.sl 5 k3,D.int .i64 p3])] []else if(o2.toList==[116,114,117,101])=true then k [.d true 5 (.ag [D.str o3,D.str n3,D.sl 5 k3,D.int .i64 p3])] []else match ofD (.ag [D.str o2,D.str n2,D.sl 5 k2,D.int .i64 p2])with
    |some f64=>match ofD (.ag [D.str o3,D.str n3,D.sl 5 k3,D.int .i64 p3])with
     |some g65=>if bd none f64 then if sameF f64 g65=true then k [.d true 5 (.ag [D.str o2,D.str n2,D.sl 5 k2,D.int .i64 p2])] []else k [.d true 5 (.ag [D.str op,D.str nm,D.sl 5 ks,D.int .i64 p])] []else none
     |none=>none
    |none=>none else match ofD (.ag [D.str o2,D.str n2,D.sl 5 k2,D.int .i64 p2])with
   |some f70=>match ofD (.ag [D.str o3,D.str n3,D.sl 5 k3,D.int .i64 p3])with
    |some g71=>if bd none f70 then if sameF f70 g71=true then k [.d true 5 (.ag [D.str o2,D.str n2,D.sl 5 k2,D.int .i64 p2])] []else k [.d true 5 (.ag [D.str op,D.str nm,D.sl 5 ks,D.int .i64 p])] []else none
    |none=>none
   |none=>none:=by kernel_rfl
end T90
end Go.Sd
namespace Go.Sd
open Go Go.Cm Go.Proofs Go.Sc
set_option maxRecDepth 100000
namespace T62
  section
  variable (b:Option Nat)
noncomputable def X:Fx:=⟨Tryz.prog,R14 b,4,1⟩
def s0 (op:ByteArray) (nm:ByteArray) (ks:List D) (x67:Int) (x68:List D) (x69:Bool):S:=⟨Tm.mk 58 [(2,.rp 3 0),(3,.rp 4 0),(12,.d true 0 (.sl 5 ks)),(13,.d false 0 (.int .i64 (ks.length:Int))),(14,.d false 0 (.int .i64 x67))],[(3,true,[.d false 0 (.str (ByteArray.mk #[])),.d false 0 (.str (ByteArray.mk #[])),.own false 5 [],.d false 0 (.int .i64 0)]),(4,true,[.d true 0 (.str op),.d true 0 (.str nm),.own x69 5 x68,.d false 0 (.int .i64 0)])]⟩
def e0x0 (op:ByteArray) (nm:ByteArray) (x140:List D) (x141:Bool):S:=⟨Tm.mk 58 [(2,.rp 3 0),(3,.rp 4 0)],[(3,true,[.d false 0 (.str (ByteArray.mk #[])),.d false 0 (.str (ByteArray.mk #[])),.own false 5 [],.d false 0 (.int .i64 0)]),(4,true,[.d true 0 (.str op),.d true 0 (.str nm),.own x141 5 x140,.d false 0 (.int .i64 0)])]⟩
noncomputable abbrev L0:S→Option (S ⊕ (Ex×S)):=roundK (X b) [(0,12)] (sub [1,1,0,1,0,0] (body Tryz.f55))
theorem start {β:Type} (op:ByteArray) (nm:ByteArray) (ks:List D) (p:Int) (k:List TV→List TV→Option β):evalF Tryz.prog (R14 b) Tryz.f55 [.d true 5 (.ag [D.str op,D.str nm,D.sl 5 ks,D.int .i64 p])] k=goLp (X b) [(0,12)] (sub [1,1,0,1,0,0] (body Tryz.f55)) [Kf.block 0 12,Kf.seq [] (sub [1,1,1] (body Tryz.f55)) 4] (finK Tryz.prog Tryz.f55 [.d true 5 (.ag [D.str op,D.str nm,D.sl 5 ks,D.int .i64 p])] k) (s0 op nm ks (0:Int) [] false):=by kernel_rfl
theorem round0_0 (op:ByteArray) (nm:ByteArray) (ks:List D) (x64:Int) (x65:List D) (x66:Bool):roundK (X b) [(0,12)] (sub [1,1,0,1,0,0] (body Tryz.f55)) (s0 op nm ks x64 x65 x66)=if decide (x64<(ks.length:Int))=true then if 0≤x64 then match ks[x64.toNat]? with
   |some x236=>match x236 with
    |D.ag xs237=>match xs237 with
     |x238::r239=>match x238 with
      |D.str s240=>match r239 with
       |x241::r242=>match x241 with
        |D.str s243=>match r242 with
         |x244::r245=>match x244 with
          |D.sl sh246 xs247=>if sh246=5 then match r245 with
           |x248::r249=>match x248 with
            |D.int j250 m251=>if j250=IntKind.i64 then match r249 with
             |[]=>match ofD (.ag [D.str s240,D.str s243,D.sl 5 xs247,D.int .i64 m251])with
              |some f254=>if bd b f254 then match simpleF f254 with
               |Fm.mk o255 n256 ks257 p258=>if x65.length+1≤34359738368 then some (Sum.inl (s0 op nm ks (IntKind.wrap .i64 (x64+1)) (x65++[fmD o255 n256 (Fm.dL ks257) p258]) (x66||true)))else none else none
              |none=>none
             |x=>none else none
            |x=>none
           |[]=>none else none
          |x=>none
         |[]=>none
        |x=>none
       |[]=>none
      |x=>none
     |[]=>none
    |x=>none
   |none=>none else none else some (Sum.inr (Ex.exit 0,e0x0 op nm x65 x66)):=by kernel_rfl
theorem behind0x0 {β:Type} (ks:List D) (p:Int) (op:ByteArray) (nm:ByteArray) (x140:List D) (x141:Bool) (k:List TV→List TV→Option β):applyK (X b) (finK Tryz.prog Tryz.f55 [.d true 5 (.ag [D.str op,D.str nm,D.sl 5 ks,D.int .i64 p])] k) [Kf.block 0 12,Kf.seq [] (sub [1,1,1] (body Tryz.f55)) 4] (Ex.exit 0) (e0x0 op nm x140 x141)=if((x140.length:Int)==1)=true then if(op.toList==[88])=true then if(0:Int)≤0∧(0:Int)<(x140.length:Int)then match x140[0]? with
   |some x298=>match x298 with
    |D.ag xs299=>match xs299 with
     |x300::r301=>match x300 with
      |D.str s302=>match r301 with
       |x303::r304=>match x303 with
        |D.str s305=>match r304 with
         |x306::r307=>match x306 with
          |D.sl sh308 xs309=>if sh308=5 then match r307 with
           |x310::r311=>match x310 with
            |D.int j312 m313=>if j312=IntKind.i64 then match r311 with
             |[]=>if constB s302=true then if(0:Int)≤0∧(0:Int)<(x140.length:Int)then match x140[0]? with
              |some x317=>match x317 with
               |D.ag xs318=>match xs318 with
                |x319::r320=>match x319 with
                 |D.str s321=>match r320 with
                  |x322::r323=>match x322 with
                   |D.str s324=>match r323 with
                    |x325::r326=>match x325 with
                     |D.sl sh327 xs328=>if sh327=5 then match r326 with
                      |x329::r330=>match x329 with
                       |D.int j331 m332=>if j331=IntKind.i64 then match r330 with
                        |[]=>k [.d (x141||(x141||(x141||(x141||false)))) 5 (.ag [D.str s321,D.str s324,D.sl 5 xs328,D.int .i64 m332])] []
                        |x=>none else none
                       |x=>none
                      |[]=>none else none
                     |x=>none
                    |[]=>none
                   |x=>none
                  |[]=>none
                 |x=>none
                |[]=>none
               |x=>none
              |none=>none else none else k [.d true 5 (.ag [D.str op,D.str nm,D.sl 5 x140,D.int .i64 0])] []
             |x=>none else none
            |x=>none
           |[]=>none else none
          |x=>none
         |[]=>none
        |x=>none
       |[]=>none
      |x=>none
     |[]=>none
    |x=>none
   |none=>none else none else k [.d true 5 (.ag [D.str op,D.str nm,D.sl 5 x140,D.int .i64 0])] []else if((x140.length:Int)==2)=true then if(0:Int)≤1∧(1:Int)<(x140.length:Int)then match x140[1]? with
   |some x340=>match x340 with
    |D.ag xs341=>match xs341 with
     |x342::r343=>match x342 with
      |D.str s344=>match r343 with
       |x345::r346=>match x345 with
        |D.str s347=>match r346 with
         |x348::r349=>match x348 with
          |D.sl sh350 xs351=>if sh350=5 then match r349 with
           |x352::r353=>match x352 with
            |D.int j354 m355=>if j354=IntKind.i64 then match r353 with
             |[]=>if(0:Int)≤0∧(0:Int)<(x140.length:Int)then match x140[0]? with
              |some x357=>match x357 with
               |D.ag xs358=>match xs358 with
                |x359::r360=>match x359 with
                 |D.str s361=>match r360 with
                  |x362::r363=>match x362 with
                   |D.str s364=>match r363 with
                    |x365::r366=>match x365 with
                     |D.sl sh367 xs368=>if sh367=5 then match r366 with
                      |x369::r370=>match x369 with
                       |D.int j371 m372=>if j371=IntKind.i64 then match r370 with
                        |[]=>match ofD (.ag [D.str op,D.str nm,D.sl 5 x140,D.int .i64 0])with
                         |some f374=>match ofD (.ag [D.str s361,D.str s364,D.sl 5 xs368,D.int .i64 m372])with
                          |some a375=>match ofD (.ag [D.str s344,D.str s347,D.sl 5 xs351,D.int .i64 m355])with
                           |some b376=>if bd none a375 then match pairF f374 a375 b376 with
                            |Fm.mk o377 n378 ks379 p380=>k [.d true 5 (.ag [D.str o377,D.str n378,D.sl 5 (Fm.dL ks379),D.int .i64 p380])] []else none
                           |none=>none
                          |none=>none
                         |none=>none
                        |x=>none else none
                       |x=>none
                      |[]=>none else none
                     |x=>none
                    |[]=>none
                   |x=>none
                  |[]=>none
                 |x=>none
                |[]=>none
               |x=>none
              |none=>none else none
             |x=>none else none
            |x=>none
           |[]=>none else none
          |x=>none
         |[]=>none
        |x=>none
       |[]=>none
      |x=>none
     |[]=>none
    |x=>none
   |none=>none else none else k [.d true 5 (.ag [D.str op,D.str nm,D.sl 5 x140,D.int .i64 0])] []:=by kernel_rfl
end
end T62
end Go.Sd
namespace Go.Sd
open Go Go.Cm Go.Proofs Go.Sc
set_option maxRecDepth 100000
namespace T75
noncomputable def X:Fx:=⟨Tryz.prog,R14 none,4,1⟩
theorem start {β:Type} (op:ByteArray) (k:List TV→List TV→Option β):evalF Tryz.prog (R14 none) Tryz.f78 [.d true 0 (.str op)] k=if(op.toList==[61,62])=true then k [.d false 0 (.int .i64 1)] []else if(op.toList==[124])=true then k [.d false 0 (.int .i64 2)] []else if(op.toList==[38])=true then k [.d false 0 (.int .i64 3)] []else if(op.toList==[85])=true then if(op.toList==[85])=true then k [.d false 0 (.int .i64 4)] []else if(op.toList==[33])=true then k [.d false 0 (.int .i64 5)] []else if(op.toList==[88])=true then if(op.toList==[88])=true then k [.d false 0 (.int .i64 5)] []else k [.d false 0 (.int .i64 6)] []else if(op.toList==[70])=true then if(op.toList==[70])=true then k [.d false 0 (.int .i64 5)] []else k [.d false 0 (.int .i64 6)] []else if(op.toList==[71])=true then k [.d false 0 (.int .i64 5)] []else k [.d false 0 (.int .i64 6)] []else if(op.toList==[87])=true then if(op.toList==[87])=true then k [.d false 0 (.int .i64 4)] []else if(op.toList==[33])=true then k [.d false 0 (.int .i64 5)] []else if(op.toList==[88])=true then if(op.toList==[88])=true then k [.d false 0 (.int .i64 5)] []else k [.d false 0 (.int .i64 6)] []else if(op.toList==[70])=true then if(op.toList==[70])=true then k [.d false 0 (.int .i64 5)] []else k [.d false 0 (.int .i64 6)] []else if(op.toList==[71])=true then k [.d false 0 (.int .i64 5)] []else k [.d false 0 (.int .i64 6)] []else if(op.toList==[82])=true then k [.d false 0 (.int .i64 4)] []else if(op.toList==[33])=true then k [.d false 0 (.int .i64 5)] []else if(op.toList==[88])=true then if(op.toList==[88])=true then k [.d false 0 (.int .i64 5)] []else k [.d false 0 (.int .i64 6)] []else if(op.toList==[70])=true then if(op.toList==[70])=true then k [.d false 0 (.int .i64 5)] []else k [.d false 0 (.int .i64 6)] []else if(op.toList==[71])=true then k [.d false 0 (.int .i64 5)] []else k [.d false 0 (.int .i64 6)] []:=by kernel_rfl
end T75
end Go.Sd
namespace Go.Sd
open Go Go.Cm Go.Proofs Go.Sc
set_option maxRecDepth 100000
theorem ansF_out {β:Type} {k:List TV→List TV→Option β} {x:Fm} {r:β} (h:ansF true k x=some r):
  ∃y,k [.d true 5 y] []=some r∧∀(t:Bool) {γ:Type} (q:List TV→List TV→Option γ),ansF t q x=q [.d t 5 y] []:=by
 obtain⟨o,n,ks,p⟩:=x
 exact⟨_,h,fun t {γ} q=>rfl⟩
theorem ev_pair (f a b:Fm) (h:bd none a):∃s:Bool,∀{γ:Type} (q:List TV→List TV→Option γ),evalF Tryz.prog R12 Tryz.f89 [.d true 5 f.d,.d true 5 a.d,.d true 5 b.d] q=ansF s q (pairF f a b):=by
 cases f with
 |mk op nm ks p=>
 cases a with
 |mk o2 n2 k2 p2=>
 cases b with
 |mk o3 n3 k3 p3=>
  have h1:=ofD_d (.mk o2 n2 k2 p2)
  have h2:=ofD_d (.mk o3 n3 k3 p3)
  simp only[Fm.d]at h1 h2
  have st:∀{γ:Type} (q:List TV→List TV→Option γ),evalF Tryz.prog R12 Tryz.f89 [.d true 5 (Fm.mk op nm ks p).d,.d true 5 (Fm.mk o2 n2 k2 p2).d,.d true 5 (Fm.mk o3 n3 k3 p3).d] q=_:=
   fun q=>T90.start op nm (Fm.dL ks) p o2 n2 (Fm.dL k2) p2 o3 n3 (Fm.dL k3) p3 q
  simp only[h1,h2,if_pos h]at st
  have l1:bTrue.toList=[116,114,117,101]:=B_list _
  have l2:bFalse.toList=[102,97,108,115,101]:=B_list _
  have same:∀{γ:Type} (q:List TV→List TV→Option γ),(if sameF (.mk o2 n2 k2 p2) (.mk o3 n3 k3 p3)=true then q [.d true 5 (.ag [.str o2,.str n2,.sl 5 (Fm.dL k2),.int .i64 p2])] []else q [.d true 5 (.ag [.str op,.str nm,.sl 5 (Fm.dL ks),.int .i64 p])] [])
    =ansF true q (sameE (.mk op nm ks p) (.mk o2 n2 k2 p2) (.mk o3 n3 k3 p3)):=fun q=>by
   unfold sameE
   cases sameF (.mk o2 n2 k2 p2) (.mk o3 n3 k3 p3)<;>rfl
  unfold pairF pairAnd pairU constB
  simp only[Fm.op,l1,l2]
  cases g1:(op.toList==[124])with
  |true=>
   simp only[g1,if_true]at st ⊢
   cases g2:(o2.toList==[102,97,108,115,101])with
   |true=>exact⟨true,fun q=>by simp only[g2,if_true]at st;rw[st];rfl⟩
   |false=>
   simp only[g2,Bool.false_eq_true,if_false]at st ⊢
   cases g3:(o3.toList==[102,97,108,115,101])with
   |true=>exact⟨true,fun q=>by simp only[g3,if_true]at st;rw[st];rfl⟩
   |false=>
   simp only[g3,Bool.false_eq_true,if_false]at st ⊢
   cases g4:(o2.toList==[116,114,117,101])with
   |true=>exact⟨false,fun q=>by simp only[g4,if_true]at st;rw[st];rfl⟩
   |false=>
   simp only[g4,Bool.false_eq_true,if_false]at st ⊢
   cases g5:(o3.toList==[116,114,117,101])with
   |true=>exact⟨false,fun q=>by simp only[g5,if_true]at st;rw[st];rfl⟩
   |false=>
   simp only[g5,Bool.false_eq_true,if_false]at st ⊢
   exact⟨true,fun q=>by rw[st];exact same q⟩
  |false=>
  simp only[g1,Bool.false_eq_true,if_false]at st ⊢
  cases g0:(op.toList==[38])with
  |true=>
   simp only[g0,if_true]at st ⊢
   cases g4:(o2.toList==[116,114,117,101])with
   |true=>exact⟨true,fun q=>by simp only[g4,if_true]at st;rw[st];rfl⟩
   |false=>
   simp only[g4,Bool.false_eq_true,if_false]at st ⊢
   cases g5:(o3.toList==[116,114,117,101])with
   |true=>exact⟨true,fun q=>by simp only[g5,if_true]at st;rw[st];rfl⟩
   |false=>
   simp only[g5,Bool.false_eq_true,if_false]at st ⊢
   cases g2:(o2.toList==[102,97,108,115,101])with
   |true=>exact⟨false,fun q=>by simp only[g2,if_true]at st;rw[st];rfl⟩
   |false=>
   simp only[g2,Bool.false_eq_true,if_false]at st ⊢
   cases g3:(o3.toList==[102,97,108,115,101])with
   |true=>exact⟨false,fun q=>by simp only[g3,if_true]at st;rw[st];rfl⟩
   |false=>
   simp only[g3,Bool.false_eq_true,if_false]at st ⊢
   exact⟨true,fun q=>by rw[st];exact same q⟩
  |false=>
  simp only[g0,Bool.false_eq_true,if_false]at st ⊢
  cases g6:(op.toList==[85])with
  |true=>
   simp only[g6,if_true]at st ⊢
   cases g5:(o3.toList==[116,114,117,101])<;>cases g3:(o3.toList==[102,97,108,115,101])<;>cases g2:(o2.toList==[102,97,108,115,101])<;>
    (simp only[g5,g3,g2,constB,Bool.true_or,Bool.or_true,Bool.or_false,Bool.false_or,if_true,Bool.false_eq_true,if_false]at st ⊢;refine⟨true,fun q=>?_⟩;rw[st];first|rfl|exact same q)
  |false=>
  simp only[g6,Bool.false_eq_true,if_false]at st ⊢
  cases g7:(op.toList==[82])with
  |true=>
   simp only[g7,if_true]at st ⊢
   cases g5:(o3.toList==[116,114,117,101])<;>cases g3:(o3.toList==[102,97,108,115,101])<;>cases g4:(o2.toList==[116,114,117,101])<;>
    (simp only[g5,g3,g4,constB,Bool.true_or,Bool.or_true,Bool.or_false,Bool.false_or,if_true,Bool.false_eq_true,if_false]at st ⊢;refine⟨true,fun q=>?_⟩;rw[st];first|rfl|exact same q)
  |false=>
  simp only[g7,Bool.false_eq_true,if_false]at st ⊢
  exact⟨true,fun q=>by rw[st];exact same q⟩
theorem envr13:EnvOk glS Tryz.prog R13:=envr12.add fun β args k r hr=>by
 unfold cPair at hr
 split at hr
 ·rename_i x y z
  split at hr
  ·rename_i f hf
   split at hr
   ·rename_i a ha
    split at hr
    ·rename_i b hb
     unfold chkK at hr
     split at hr
     ·rename_i h0
      rw[d_ofD _ _ hf,d_ofD _ _ ha,d_ofD _ _ hb]
      obtain⟨y,h1,h2⟩:=ansF_out hr
      obtain⟨s,hs⟩:=ev_pair f a b h0
      exact⟨_,_,h1,valid_up (valid_of envr12 mixed Tryz.func89 (by kernel_rfl) ((hs _).trans (h2 s _)))⟩
     ·cases hr
    ·cases hr
   ·cases hr
  ·cases hr
 ·cases hr
end Go.Sd
namespace Go.Sd
open Go Go.Cm Go.Proofs Go.Sc
set_option maxRecDepth 100000
theorem simple_loop {b:Option Nat} {op nm:ByteArray} {fs:List Fm} (hl:fs.length≤4096) (hb:∀f∈fs,bd b f):∀(gs:List Fm) (i:Nat) (done:List Fm) (t:Bool),fs.drop i=gs→i≤fs.length→done.length=i→
  ∃t',Lp (T62.L0 b) (T62.s0 op nm (Fm.dL fs) i (Fm.dL done) t)=some (.exit 0,T62.e0x0 op nm (Fm.dL (done++simpleL gs)) t')
 |[],i,done,t,hi,hle,hd=>by
  have hr:=T62.round0_0 b op nm (Fm.dL fs) i (Fm.dL done) t
  have:fs.length≤i:=by have:=congrArg List.length hi;simp at this;omega
  rw[dL_len,if_neg (by simp;omega)]at hr
  refine⟨t,?_⟩
  simp only[simpleL,List.append_nil]
  exact Lp_exit hr
 |f::gs,i,done,t,hi,hle,hd=>by
  have hr:=T62.round0_0 b op nm (Fm.dL fs) i (Fm.dL done) t
  obtain⟨hlt,hf,hfs⟩:=drop_split hi
  rw[dL_len,if_pos (by simp;omega),if_pos (by omega),Int.toNat_natCast,dL_get hlt,hf]at hr
  have hm:f∈fs:=hf▸List.getElem_mem hlt
  have hbf:=hb f hm
  cases f with
  |mk o n ks p=>
   have hof:=ofD_d (.mk o n ks p)
   simp only[Fm.d]at hr hof
   simp only[hof,if_true,if_pos hbf,wi (show i≤4096 by omega),dL_len,if_pos (show done.length+1≤34359738368 by omega)]at hr
   simp only[simpleL]
   cases hs:simpleF (.mk o n ks p)with
   |mk o2 n2 k2 p2=>
    rw[hs]at hr
    obtain⟨t',h⟩:=simple_loop hl hb gs (i+1) (done++[.mk o2 n2 k2 p2]) (t||true) hfs (by omega) (by simp[hd])
    refine⟨t',?_⟩
    rw[dL_append]at h
    have e:done++Fm.mk o2 n2 k2 p2::simpleL gs=(done++[.mk o2 n2 k2 p2])++simpleL gs:=by simp
    rw[e]
    exact Lp_step hr h
theorem simple_end {b:Option Nat} {ks0:List D} {p0:Int} {op nm:ByteArray} {rs:List Fm} {t:Bool} (hl:rs.length≤4096) (hs:Fm.smL rs=true):
  ∃s:Bool,∀{γ:Type} (q:List TV→List TV→Option γ),applyK (T62.X b) (finK Tryz.prog Tryz.f55 [TV.d true (5:Nat) (D.ag [D.str op,D.str nm,D.sl (5:Nat) ks0,D.int IntKind.i64 p0])] q)
   [Kf.block (0:Nat) (12:Nat),Kf.seq [] (sub [(1:Nat),(1:Nat),(1:Nat)] (body Tryz.f55)) (4:Nat)] (Ex.exit (0:Nat)) (T62.e0x0 op nm (Fm.dL rs) t)=ansF s q (endS op nm rs):=by
 cases rs with
 |nil=>
  refine⟨true,fun q=>(T62.behind0x0 b ks0 p0 op nm _ t q).trans ?_⟩
  simp only[dL_len,List.length_nil,show(((0:Nat):Int)==1)=false from rfl,show(((0:Nat):Int)==2)=false from rfl,Bool.false_eq_true,if_false]
  rfl
 |cons f1 r1=>
 cases r1 with
 |nil=>
  cases f1 with
  |mk o n ks p=>
   unfold endS
   simp only
   cases h:(op.toList==[88])with
   |false=>
    refine⟨true,fun q=>(T62.behind0x0 b ks0 p0 op nm _ t q).trans ?_⟩
    simp only[dL_len,List.length_cons,List.length_nil,show(((0+1:Nat):Int)==1)=true from rfl,if_true,h,Bool.false_eq_true,if_false]
    rfl
   |true=>
    rw[if_pos rfl]
    rcases Bool.eq_false_or_eq_true (constB (Fm.mk o n ks p).op)with hc|hc
    ·rw[if_pos hc]
     replace hc:constB o=true:=hc
     refine⟨t||(t||(t||(t||false))),fun q=>(T62.behind0x0 b ks0 p0 op nm _ t q).trans ?_⟩
     simp only[dL_len,List.length_cons,List.length_nil,show(((0+1:Nat):Int)==1)=true from rfl,if_true,h,if_pos (show(0:Int)≤0∧(0:Int)<((0+1:Nat):Int)by omega),Fm.dL,Fm.d,List.getElem?_cons_zero,hc]
     rfl
    ·rw[if_neg (by rw[hc];decide)]
     replace hc:constB o=false:=hc
     refine⟨true,fun q=>(T62.behind0x0 b ks0 p0 op nm _ t q).trans ?_⟩
     simp only[dL_len,List.length_cons,List.length_nil,show(((0+1:Nat):Int)==1)=true from rfl,if_true,h,if_pos (show(0:Int)≤0∧(0:Int)<((0+1:Nat):Int)by omega),Fm.dL,Fm.d,List.getElem?_cons_zero,hc,Bool.false_eq_true,if_false]
     rfl
 |cons f2 r2=>
 cases r2 with
 |nil=>
  cases f1 with
  |mk o n ks p=>
  cases f2 with
  |mk o2 n2 ks2 p2=>
   have h1:=ofD_d (.mk o n ks p)
   have h2:=ofD_d (.mk o2 n2 ks2 p2)
   have h3:=ofD_d (.mk op nm [.mk o n ks p,.mk o2 n2 ks2 p2] 0)
   simp only[Fm.d,Fm.dL]at h1 h2 h3
   have hb:bd none (.mk o n ks p):=⟨sm_mem hs (.head _),trivial⟩
   refine⟨true,fun q=>(T62.behind0x0 b ks0 p0 op nm _ t q).trans ?_⟩
   simp only[dL_len,List.length_cons,List.length_nil,show(((0+1+1:Nat):Int)==1)=false from rfl,show(((0+1+1:Nat):Int)==2)=true from rfl,Bool.false_eq_true,if_false,if_true,
    if_pos (show(0:Int)≤1∧(1:Int)<((0+1+1:Nat):Int)by omega),if_pos (show(0:Int)≤0∧(0:Int)<((0+1+1:Nat):Int)by omega),Fm.dL,Fm.d,List.getElem?_cons_zero,List.getElem?_cons_succ,h1,h2,h3,if_pos hb]
   unfold endS
   simp only
   cases pairF (.mk op nm [.mk o n ks p,.mk o2 n2 ks2 p2] 0) (.mk o n ks p) (.mk o2 n2 ks2 p2)with
   |mk a b c d=>rfl
 |cons f3 r=>
  have e1:((((f1::f2::f3::r).length:Nat):Int)==1)=false:=by simp;omega
  have e2:((((f1::f2::f3::r).length:Nat):Int)==2)=false:=by simp;omega
  refine⟨true,fun q=>(T62.behind0x0 b ks0 p0 op nm _ t q).trans ?_⟩
  simp only[dL_len,e1,e2,Bool.false_eq_true,if_false]
  rfl
theorem ev_simple {b:Option Nat} {f:Fm} (hs:f.sm=true) (hb:∀n,b=some n→f.dep≤n):
  ∃s:Bool,∀{γ:Type} (q:List TV→List TV→Option γ),evalF Tryz.prog (R14 b) Tryz.f55 [.d true 5 f.d] q=ansF s q (simpleF f):=by
 cases f with
 |mk op nm ks p=>
  obtain⟨h1,h2⟩:=bd_kids hs hb
  obtain⟨t,h⟩:=simple_loop (b:=b) (op:=op) (nm:=nm) h1 h2 ks 0 [] false rfl (by omega) rfl
  rw[List.nil_append]at h
  simp only[Fm.sm,Bool.and_eq_true]at hs
  obtain⟨s,hs2⟩:=simple_end (b:=b) (ks0:=Fm.dL ks) (p0:=p) (op:=op) (nm:=nm) (rs:=simpleL ks) (t:=t) (by rw[simpleL_len];exact h1) (sm_simpleL ks hs.2)
  refine⟨s,fun q=>?_⟩
  refine(T62.start b op nm (Fm.dL ks) p q).trans ?_
  refine(goLp_of h).trans ?_
  rw[simpleF]
  exact hs2 q
theorem envr14:EnvOk glS Tryz.prog (R14 none):=by
 have key:∀n,EnvOk glS Tryz.prog (R14 (some n)):=by
  intro n
  induction n with
  |zero=>
   refine envr13.add fun β args k r hr=>?_
   unfold cSimp at hr
   split at hr
   ·split at hr
    ·unfold chkK at hr
     split at hr
     ·rename_i h;have:=h.2;simp only at this;omega
     ·cases hr
    ·cases hr
   ·cases hr
  |succ n ih=>
   refine envr13.add fun β args k r hr=>?_
   unfold cSimp at hr
   split at hr
   ·rename_i x
    split at hr
    ·rename_i f hf
     unfold chkK at hr
     split at hr
     ·rename_i h
      rw[d_ofD _ _ hf]
      obtain⟨y,h1,h2⟩:=ansF_out hr
      obtain⟨s,h3⟩:=ev_simple (b:=some n) h.1 (fun m hm=>by cases hm;have:=h.2;simp only at this;omega)
      exact⟨_,_,h1,valid_up (valid_of ih mixed Tryz.func55 (by kernel_rfl) ((h3 _).trans (h2 s _)))⟩
     ·cases hr
    ·cases hr
   ·cases hr
 refine EnvOk.lim key fun β g args k r hr=>?_
 simp only[R14,Env.add]at hr ⊢
 cases hg:Nat.beq g 55 with
 |false=>simp only[hg]at hr ⊢;exact⟨0,hr⟩
 |true=>
  simp only[hg]at hr ⊢
  unfold cSimp at hr ⊢
  split at hr
  ·split at hr
   ·rename_i f hf
    unfold chkK at hr
    split at hr
    ·rename_i h
     exact⟨f.dep+1,by simp only[hf,chkK];rw[if_pos (bd_at h)];exact hr⟩
    ·cases hr
   ·cases hr
  ·cases hr
end Go.Sd
namespace Go.Sc
open Go Go.Cm
def dEl:Option Fm→Int→ByteArray
 |some g,t=>parB (bindsN g.op) t (printF g)
 |none,_=>⟨#[]⟩
theorem kidP_eq (op nm:ByteArray) (ks:List Fm) (p i t:Int):kidP (.mk op nm ks p) i t=dEl ks[i.toNat]? t:=by
 unfold kidP dEl
 simp only
 split<;>rename_i h<;>simp only[h]
theorem print_eq (op nm:ByteArray) (ks:List Fm) (p:Int):printF (.mk op nm ks p)=prB op nm (kidP (.mk op nm ks p) 0) (kidP (.mk op nm ks p) 1):=by
 have h:kidP (.mk op nm ks p)=fun i t=>dEl ks[i.toNat]? t:=by funext i t;exact kidP_eq ..
 rw[h]
 match ks with
 |[]=>rfl
 |[a]=>unfold printF;rfl
 |a::b::r=>unfold printF;rfl
theorem binds_le (op:ByteArray):1≤bindsN op∧bindsN op≤6:=by
 unfold bindsN
 have i:∀(c:Prop) [Decidable c] (a b:Int),(1≤a∧a≤6)→(1≤b∧b≤6)→1≤(if c then a else b)∧(if c then a else b)≤6:=fun c _ a b h k=>by split<;>assumption
 repeat' apply i
 all_goals omega
end Go.Sc
namespace Go.Sd
open Go Go.Cm Go.Proofs Go.Sc
set_option maxRecDepth 100000
theorem envr15:EnvOk glS Tryz.prog R15:=envr14.fn mixed Tryz.func78 (by kernel_rfl) fun β args k r hr=>by
 unfold cBinds at hr
 split at hr
 ·rename_i op
  refine⟨_,_,hr,fun q=>(T75.start op q).trans ?_⟩
  unfold bindsN
  by_cases h0:op.toList=[61,62]
  ·simp only[h0];rfl
  have g0:(op.toList==[61,62])=false:=beq_false_of_ne h0
  by_cases h1:op.toList=[124]
  ·simp only[h1];rfl
  have g1:(op.toList==[124])=false:=beq_false_of_ne h1
  by_cases h2:op.toList=[38]
  ·simp only[h2];rfl
  have g2:(op.toList==[38])=false:=beq_false_of_ne h2
  by_cases h3:op.toList=[85]
  ·simp only[h3];rfl
  have g3:(op.toList==[85])=false:=beq_false_of_ne h3
  by_cases h4:op.toList=[87]
  ·simp only[h4];rfl
  have g4:(op.toList==[87])=false:=beq_false_of_ne h4
  by_cases h5:op.toList=[82]
  ·simp only[h5];rfl
  have g5:(op.toList==[82])=false:=beq_false_of_ne h5
  by_cases h6:op.toList=[33]
  ·simp only[h6];rfl
  have g6:(op.toList==[33])=false:=beq_false_of_ne h6
  by_cases h7:op.toList=[88]
  ·simp only[h7];rfl
  have g7:(op.toList==[88])=false:=beq_false_of_ne h7
  by_cases h8:op.toList=[70]
  ·simp only[h8];rfl
  have g8:(op.toList==[70])=false:=beq_false_of_ne h8
  by_cases h9:op.toList=[71]
  ·simp only[h9];rfl
  have g9:(op.toList==[71])=false:=beq_false_of_ne h9
  simp only[g0,g1,g2,g3,g4,g5,g6,g7,g8,g9,Bool.false_eq_true,if_false]
 ·cases hr
theorem ev_print {b:Option Nat} (f:Fm) (hb:ltB b (2*f.dep)) (hz:(printF f).size≤9223372036854775807) {γ:Type} (q:List TV→List TV→Option γ):
  evalF Tryz.prog (R16 b) Tryz.f50 [.d true 5 f.d] q=q [.d false 0 (.str (printF f))] []:=by
 cases f with
 |mk op nm ks p=>
  refine(T53.start b op nm (Fm.dL ks) p q).trans ?_
  have hof:=ofD_d (.mk op nm ks p)
  simp only[Fm.d]at hof
  obtain⟨hl1,hl2⟩:=binds_le op
  have hw:IntKind.wrap .i64 (bindsN op+1)=bindsN op+1:=wrap_id (by omega) (by omega)
  rw[print_eq]at hz ⊢
  simp only[hof,hw]
  generalize kidP (.mk op nm ks p)=K at hz ⊢
  have z0:(⟨#[34]⟩:ByteArray).size=1:=rfl
  have z1:(⟨#[33]⟩:ByteArray).size=1:=rfl
  have z2:(⟨#[32]⟩:ByteArray).size=1:=rfl
  unfold prB at hz ⊢
  by_cases h6:bindsN op=6
  ·rw[if_pos h6]at hz ⊢
   rw[if_pos (by simpa using h6)]
   split
   ·rename_i h
    rw[if_pos h]at hz
    rw[ByteArray.size_append,ByteArray.size_append,z0]at hz
    rw[if_pos (by omega),if_pos (by rw[ByteArray.size_append,z0];omega)]
   ·rfl
  rw[if_neg h6]at hz ⊢
  rw[if_neg (by simpa using h6)]
  by_cases h5:bindsN op=5
  ·rw[if_pos h5]at hz ⊢
   rw[if_pos (by simpa using h5)]
   split
   ·rename_i h
    rw[if_pos h]at hz
    rw[ByteArray.size_append,z1]at hz
    rw[if_pos ⟨by omega,hb,by omega⟩,if_pos (by omega)]
   ·rename_i h
    rw[if_neg h]at hz
    rw[ByteArray.size_append,ByteArray.size_append,z2]at hz
    rw[if_pos (by omega),if_pos ⟨by omega,hb,by omega⟩,if_pos (by rw[ByteArray.size_append,z2];omega)]
  rw[if_neg h5]at hz ⊢
  rw[if_neg (by simpa using h5)]
  by_cases h1:bindsN op=1
  ·rw[if_pos (show bindsN op=1∨bindsN op=4 from .inl h1)]at hz ⊢
   rw[if_pos (by simpa using h1),if_pos (by simpa using h1)]
   rw[ByteArray.size_append,ByteArray.size_append,ByteArray.size_append,ByteArray.size_append,z2]at hz
   rw[if_pos ⟨by omega,hb,by omega⟩,if_pos (by omega),if_pos (by rw[ByteArray.size_append,z2];omega),if_pos (by rw[ByteArray.size_append,ByteArray.size_append,z2];omega),if_pos ⟨by omega,hb,by omega⟩,
    if_pos (by rw[ByteArray.size_append,ByteArray.size_append,ByteArray.size_append,z2];omega)]
  rw[if_neg (by simpa using h1)]
  by_cases h4:bindsN op=4
  ·rw[if_pos (show bindsN op=1∨bindsN op=4 from .inr h4)]at hz ⊢
   rw[if_pos (by simpa using h4)]
   rw[ByteArray.size_append,ByteArray.size_append,ByteArray.size_append,ByteArray.size_append,z2]at hz
   rw[if_pos ⟨by omega,hb,by omega⟩,if_pos (by omega),if_pos (by rw[ByteArray.size_append,z2];omega),if_pos (by rw[ByteArray.size_append,ByteArray.size_append,z2];omega),if_pos ⟨by omega,hb,by omega⟩,
    if_pos (by rw[ByteArray.size_append,ByteArray.size_append,ByteArray.size_append,z2];omega)]
  rw[if_neg (by simpa using h4)]
  rw[if_neg (show ¬(bindsN op=1∨bindsN op=4)by rintro(h|h);exact h1 h;exact h4 h)]at hz ⊢
  rw[ByteArray.size_append,ByteArray.size_append,ByteArray.size_append,ByteArray.size_append,z2]at hz
  rw[if_pos ⟨by omega,hb,by omega⟩,if_pos (by omega),if_pos (by rw[ByteArray.size_append,z2];omega),if_pos (by rw[ByteArray.size_append,ByteArray.size_append,z2];omega),if_pos ⟨by omega,hb,by omega⟩,
   if_pos (by rw[ByteArray.size_append,ByteArray.size_append,ByteArray.size_append,z2];omega)]
theorem ev_kid {b:Option Nat} (f:Fm) (i t:Int) (hi:0≤i) (hb:∀n,b=some n→2*f.dep≤n) (hz:(kidP f i t).size≤9223372036854775807) {γ:Type} (q:List TV→List TV→Option γ):
  evalF Tryz.prog (R16 b) Tryz.f79 [.d true 5 f.d,.d true 0 (.int .i64 i),.d true 0 (.int .i64 t)] q=q [.d false 0 (.str (kidP f i t))] []:=by
 cases f with
 |mk op nm ks p=>
  refine(T76.start b op nm (Fm.dL ks) p i t q).trans ?_
  rw[kidP_eq]at hz ⊢
  rw[dL_len]
  by_cases hlt:i<ks.length
  ·rw[if_neg (by simpa using hlt),if_pos hi]
   have hln:i.toNat<ks.length:=by omega
   rw[dL_get hln]
   rw[List.getElem?_eq_getElem hln]at hz ⊢
   have hm:ks[i.toNat]∈ks:=List.getElem_mem hln
   have hd:=dep_mem hm
   cases hg:ks[i.toNat]with
   |mk o2 n2 k2 p2=>
    have hof:=ofD_d (.mk o2 n2 k2 p2)
    rw[hg]at hz hd
    simp only[Fm.dep]at hd
    simp only[Fm.d]at hof ⊢
    simp only[hof,if_true]
    have hb2:ltB b (2*(Fm.mk o2 n2 k2 p2).dep+1):=by
     cases b with
     |none=>trivial
     |some n=>have:=hb n rfl;simp only[Fm.dep]at this ⊢;show _<n;omega
    simp only[dEl,Fm.op]at hz ⊢
    by_cases ht:bindsN o2<t
    ·have e:∀s,parB (bindsN o2) t s=(⟨#[40]⟩:ByteArray)++s++⟨#[41]⟩:=fun s=>by unfold parB;split;rfl;contradiction
     simp only[e]at hz ⊢
     have z0:(⟨#[40]⟩:ByteArray).size=1:=rfl
     have z1:(⟨#[41]⟩:ByteArray).size=1:=rfl
     rw[ByteArray.size_append,ByteArray.size_append,z0,z1]at hz
     rw[if_pos ⟨hb2,by omega⟩,if_pos hi]
     simp only[List.getElem?_cons_zero]
     rw[if_pos (by simpa using ht),if_pos (by omega),if_pos (by rw[ByteArray.size_append,z0];omega)]
    ·have e:∀s,parB (bindsN o2) t s=s:=fun s=>by unfold parB;split;contradiction;rfl
     simp only[e]at hz ⊢
     rw[if_pos ⟨hb2,hz⟩,if_pos hi]
     simp only[List.getElem?_cons_zero]
     rw[if_neg (by simpa using ht)]
  ·rw[if_pos (by simpa using hlt),List.getElem?_eq_none (by omega)]
   rfl
theorem envr16:EnvOk glS Tryz.prog (R16 none):=by
 refine EnvOk.rec2 (fun b {β} args k=>cPrint b args k) (fun b {β} args k=>cKid b args k) envr15 ?_ ?_ ?_ ?_ ?_ ?_
 ·intro β args k r h
  unfold cPrint at h
  split at h
  ·split at h
   ·unfold chkK at h;split at h
    ·rename_i h0;exact not_ltB_zero h0.1
    ·cases h
   ·cases h
  ·cases h
 ·intro β args k r h
  unfold cKid at h
  split at h
  ·split at h
   ·unfold chkK at h;split at h
    ·rename_i h0;exact not_ltB_zero h0.2.1
    ·cases h
   ·cases h
  ·cases h
 ·intro n ih β args k r h
  unfold cPrint at h
  split at h
  ·split at h
   ·rename_i f hf
    unfold chkK at h;split at h
    ·rename_i h0
     rw[d_ofD _ _ hf]
     exact⟨_,_,h,valid_of ih mixed Tryz.func50 (by kernel_rfl) (ev_print f (by have:_<n+1:=h0.1;show _<n;omega) h0.2 _)⟩
    ·cases h
   ·cases h
  ·cases h
 ·intro n ih β args k r h
  unfold cKid at h
  split at h
  ·split at h
   ·rename_i f hf
    unfold chkK at h;split at h
    ·rename_i h0
     rw[d_ofD _ _ hf]
     exact⟨_,_,h,valid_of ih mixed Tryz.func79 (by kernel_rfl) (ev_kid f _ _ h0.1 (fun m hm=>by cases hm;have:_<n+1:=h0.2.1;omega) h0.2.2 _)⟩
    ·cases h
   ·cases h
  ·cases h
 ·intro β args k r h
  unfold cPrint at h ⊢
  split at h
  ·split at h
   ·rename_i f hf
    unfold chkK at h;split at h
    ·rename_i h0
     exact⟨_,by simp only[hf,chkK];rw[if_pos ⟨Nat.lt_succ_self _,h0.2⟩];exact h⟩
    ·cases h
   ·cases h
  ·cases h
 ·intro β args k r h
  unfold cKid at h ⊢
  split at h
  ·split at h
   ·rename_i f hf
    unfold chkK at h;split at h
    ·rename_i h0
     exact⟨_,by simp only[hf,chkK];rw[if_pos ⟨h0.1,Nat.lt_succ_self _,h0.2.2⟩];exact h⟩
    ·cases h
   ·cases h
  ·cases h
end Go.Sd
namespace Go.Sc
open Go Go.Cm
theorem isF_abs:∀(t:Pr) (f:Fm),f.abs=some t→isF f=t.ok
 |t,f,h=>by
  rcases abs_inv h with⟨op,nm,p,rfl,h1⟩|⟨op,nm,a,p,o,x,rfl,h1,h2,rfl⟩|⟨op,nm,a,b,p,o,x,y,rfl,h1,h2,h3,rfl⟩
  ·rcases h1 with⟨h1,rfl⟩|⟨h1,rfl⟩|⟨h1,rfl⟩
   all_goals
    unfold isF kidsN
    rw[h1]
    rfl
  ·have ih:=isF_abs x a h2
   have hk:=kidsN_u op o h1
   unfold isF
   rw[h1,hk]
   cases o
   ·rw[if_neg (by decide),if_neg (by decide),if_neg (by decide),if_neg (by decide),if_pos (by decide)]
    rcases abs_inv h2 with⟨op,nm,p,rfl,h1⟩|⟨op,nm,a,p,o,x,rfl,h1,h2,rfl⟩|⟨op,nm,a,b,p,o,x,y,rfl,h1,h2,h3,rfl⟩
    ·rcases h1 with⟨h1,rfl⟩|⟨h1,rfl⟩|⟨h1,rfl⟩<;>simp only[h1]<;>rfl
    ·simp only[List.isEmpty_cons,Bool.and_false];rfl
    ·simp only[List.isEmpty_cons,Bool.and_false];rfl
   ·rw[if_neg (by decide),if_neg (by decide),if_neg (by decide),if_neg (by decide),if_neg (by decide)]
    simp only[isL,ih,Bool.and_true,Pr.ok]
    rfl
   ·rw[if_pos (by decide)];rfl
   ·rw[if_neg (by decide),if_pos (by decide)];rfl
  ·have iha:=isF_abs x a h2
   have ihb:=isF_abs y b h3
   have hk:=kidsN_b op o h1
   unfold isF
   rw[h1,hk]
   cases o
   case imp=>rw[if_neg (by decide),if_neg (by decide),if_neg (by decide),if_pos (by decide)];rfl
   case W=>rw[if_neg (by decide),if_neg (by decide),if_pos (by decide)];rfl
   all_goals
    rw[if_neg (by decide),if_neg (by decide),if_neg (by decide),if_neg (by decide),if_neg (by decide)]
    simp only[isL,iha,ihb,Bool.and_true,Pr.ok]
    exact Bool.true_and _
  termination_by t=>SizeOf.sizeOf t
theorem size_abs:∀(t:Pr) (f:Fm),f.abs=some t→sizeF f=min (t.sz:Int) 4097
 |t,f,h=>by
  rcases abs_inv h with⟨op,nm,p,rfl,h1⟩|⟨op,nm,a,p,o,x,rfl,h1,h2,rfl⟩|⟨op,nm,a,b,p,o,x,y,rfl,h1,h2,h3,rfl⟩
  ·rcases h1 with⟨h1,rfl⟩|⟨h1,rfl⟩|⟨h1,rfl⟩<;>rfl
  ·have ih:=size_abs x a h2
   simp only[sizeF,sizeL,ih,Pr.sz]
   rw[if_pos (by omega)]
   omega
  ·have iha:=size_abs x a h2
   have ihb:=size_abs y b h3
   simp only[sizeF,sizeL,iha,ihb,Pr.sz]
   rw[if_pos (show(1:Int)≤4096 by omega)]
   split<;>omega
  termination_by t=>SizeOf.sizeOf t
mutual
theorem same_refl:∀f:Fm,sameF f f=true
 |.mk op nm ks p=>by simp only[sameF,beq_self_eq_true,same_reflL ks,Bool.and_true]
theorem same_reflL:∀fs:List Fm,sameL fs fs=true
 |[]=>rfl
 |f::fs=>by simp only[sameL,same_refl f,same_reflL fs,Bool.and_true]
end
theorem toList_inj {a b:ByteArray} (h:a.toList=b.toList):a=b:=by
 rw[←B_toList a, ←B_toList b,h]
theorem same_abs:∀(f g:Fm),sameF f g=true→f.abs=g.abs
 |.mk o1 n1 k1 p1,.mk o2 n2 k2 p2,h=>by
  simp only[sameF,Bool.and_eq_true,beq_iff_eq]at h
  obtain⟨⟨h1,h2⟩,h3⟩:=h
  have h2':=toList_inj h2
  match k1,k2,h3 with
  |[],[],h3=>simp only[Fm.abs,h1,h2']
  |[a],[b],h3=>
   simp only[sameL,Bool.and_true]at h3
   simp only[Fm.abs,h1,same_abs a b h3]
  |[a,c],[b,d],h3=>
   simp only[sameL,Bool.and_true,Bool.and_eq_true]at h3
   simp only[Fm.abs,h1,same_abs a b h3.1,same_abs c d h3.2]
  |a::b::c::r,d::e::f::s,h3=>simp only[Fm.abs]
  |[],_::_,h3=>simp[sameL]at h3
  |_::_,[],h3=>simp[sameL]at h3
  |[_],_::_::_,h3=>simp[sameL]at h3
  |_::_::_,[_],h3=>simp[sameL]at h3
  |[_,_],_::_::_::_,h3=>simp[sameL]at h3
  |_::_::_::_,[_,_],h3=>simp[sameL]at h3
theorem same_fm (a b:Pr):sameF a.fm b.fm=decide (a=b):=by
 by_cases h:a=b
 ·subst h;simp[same_refl]
 ·cases e:sameF a.fm b.fm with
  |false=>simp[h]
  |true=>
   have:=same_abs _ _ e
   rw[abs_fm,abs_fm]at this
   exact(h (Option.some.inj this)).elim
def prPair (o:B2) (a b:Pr):Pr:=
 let e:=if a=b then a else .bi o a b
 match o with
 |.and=>if a=.tt then b else if b=.tt then a else if a=.ff then .ff else if b=.ff then .ff else e
 |.or=>if a=.ff then b else if b=.ff then a else if a=.tt then .tt else if b=.tt then .tt else e
 |.U=>if b=.tt∨b=.ff then b else if a=.ff then b else e
 |.R=>if b=.tt∨b=.ff then b else if a=.tt then b else e
 |_=>e
def prX (o:U1) (a:Pr):Pr:=if o=.X∧(a=.tt∨a=.ff)then a else .un o a
def Pr.simp:Pr→Pr
 |.un o a=>prX o a.simp
 |.bi o a b=>prPair o a.simp b.simp
 |t=>t
theorem op_T (a:Pr):(a.fm.op.toList==oTrue)=decide (a=.tt):=by
 cases a with
 |tt=>simp[Pr.fm,nd,Fm.op,bTrue,oTrue,B_lit]
 |ff=>simp[Pr.fm,nd,Fm.op,bFalse,oTrue,B_lit]
 |lab s=>simp[Pr.fm,labF,Fm.op,oTrue,B_lit]
 |un o a=>cases o<;>simp[Pr.fm,nd,Fm.op,oTrue,U1.b_s,U1.s]
 |bi o a b=>cases o<;>simp[Pr.fm,nd,Fm.op,oTrue,B2.b_s,B2.s]
theorem op_F (a:Pr):(a.fm.op.toList==oFalse)=decide (a=.ff):=by
 cases a with
 |tt=>simp[Pr.fm,nd,Fm.op,bTrue,oFalse,B_lit]
 |ff=>simp[Pr.fm,nd,Fm.op,bFalse,oFalse,B_lit]
 |lab s=>simp[Pr.fm,labF,Fm.op,oFalse,B_lit]
 |un o a=>cases o<;>simp[Pr.fm,nd,Fm.op,oFalse,U1.b_s,U1.s]
 |bi o a b=>cases o<;>simp[Pr.fm,nd,Fm.op,oFalse,B2.b_s,B2.s]
theorem constB_fm (a:Pr):constB a.fm.op=decide (a=.tt∨a=.ff):=by
 have h1:=op_T a
 have h2:=op_F a
 unfold oTrue at h1
 unfold oFalse at h2
 unfold constB
 rw[h1,h2]
 by_cases ha:a=.tt<;>by_cases hb:a=.ff<;>simp[ha,hb]
theorem sameE_fm (o:B2) (a b:Pr):sameE (Pr.bi o a b).fm a.fm b.fm=(if a=b then a else .bi o a b:Pr).fm:=by
 unfold sameE
 rw[same_fm]
 by_cases h:a=b<;>simp[h]
theorem pair_fm (o:B2) (a b:Pr):pairF (Pr.bi o a b).fm a.fm b.fm=(prPair o a b).fm:=by
 have e:=sameE_fm o a b
 have bt:bTrue.toList=oTrue:=B_lit _
 have bf:bFalse.toList=oFalse:=B_lit _
 unfold pairF pairAnd pairU
 rw[bt,bf,op_T,op_T,op_F,op_F,constB_fm,show(Pr.bi o a b).fm.op.toList=o.s from B2.b_s o,e]
 cases o
 case and=>
  rw[if_neg (show ¬(B2.and.s==[124])=true by decide),if_pos (show(B2.and.s==[38])=true by decide)]
  unfold prPair
  simp only[decide_eq_true_eq]
  repeat' split
  all_goals first|rfl|exact e
 case or=>
  rw[if_pos (show(B2.or.s==[124])=true by decide)]
  unfold prPair
  simp only[decide_eq_true_eq]
  repeat' split
  all_goals first|rfl|exact e
 case U=>
  rw[if_neg (show ¬(B2.U.s==[124])=true by decide),if_neg (show ¬(B2.U.s==[38])=true by decide),if_pos (show(B2.U.s==[85])=true by decide)]
  unfold prPair
  simp only[decide_eq_true_eq]
  repeat' split
  all_goals first|rfl|exact e
 case R=>
  rw[if_neg (show ¬(B2.R.s==[124])=true by decide),if_neg (show ¬(B2.R.s==[38])=true by decide),if_neg (show ¬(B2.R.s==[85])=true by decide),if_pos (show(B2.R.s==[82])=true by decide)]
  unfold prPair
  simp only[decide_eq_true_eq]
  repeat' split
  all_goals first|rfl|exact e
 case imp=>rfl
 case W=>rfl
theorem simple_fm:∀t:Pr,simpleF t.fm=t.simp.fm
 |.tt=>rfl
 |.ff=>rfl
 |.lab s=>rfl
 |.un o a=>by
  simp only[Pr.fm,nd,simpleF,simpleL,simple_fm a,Pr.simp,endS,prX,U1.b_s,constB_fm,decide_eq_true_eq]
  cases o
  case X=>
   rw[if_pos (show(U1.X.s==[88])=true by decide)]
   by_cases h:a.simp=.tt∨a.simp=.ff
   ·rw[if_pos h,if_pos ⟨rfl,h⟩]
   ·rw[if_neg h,if_neg (fun k=>h k.2)];rfl
  all_goals
   rw[if_neg (by decide),if_neg (by simp)];rfl
 |.bi o a b=>by
  simp only[Pr.fm,nd,simpleF,simpleL,simple_fm a,simple_fm b,Pr.simp,endS]
  exact pair_fm o a.simp b.simp
theorem prPair_cases (o:B2) (a b:Pr):prPair o a b=a∨prPair o a b=b∨prPair o a b=.tt∨prPair o a b=.ff∨prPair o a b=.bi o a b:=by
 unfold prPair
 cases o<;>simp only<;>repeat' split
 all_goals simp
theorem simp_sz:∀t:Pr,t.simp.sz≤t.sz
 |.tt=>Nat.le_refl _
 |.ff=>Nat.le_refl _
 |.lab s=>Nat.le_refl _
 |.un o a=>by
  have:=simp_sz a
  simp only[Pr.simp,Pr.sz]
  unfold prX
  split<;>(try simp only[Pr.sz])<;>omega
 |.bi o a b=>by
  have:=simp_sz a
  have:=simp_sz b
  simp only[Pr.simp,Pr.sz]
  rcases prPair_cases o a.simp b.simp with h|h|h|h|h<;>rw[h]<;>(try simp only[Pr.sz])<;>omega
theorem ok_bi {o:B2} {a b:Pr} (h:(Pr.bi o a b).ok=true):a.ok=true∧b.ok=true∧∀c d:Pr,c.ok=true→d.ok=true→(Pr.bi o c d).ok=true:=by
 cases o<;>simp only[Pr.ok,Bool.and_eq_true,Bool.false_eq_true]at h
 all_goals exact⟨h.1,h.2,fun c d hc hd=>by simp only[Pr.ok,hc,hd,Bool.and_true]⟩
theorem simp_ok:∀t:Pr,t.ok=true→t.simp.ok=true
 |.tt,_=>rfl
 |.ff,_=>rfl
 |.lab s,_=>rfl
 |.un .X a,h=>by
  have:=simp_ok a h
  simp only[Pr.simp]
  unfold prX
  split<;>simpa only[Pr.ok]using this
 |.un .no (.lab s),_=>rfl
 |.un .no (.un _ _),h=>by simp[Pr.ok]at h
 |.un .no (.bi _ _ _),h=>by simp[Pr.ok]at h
 |.un .no .tt,h=>by simp[Pr.ok]at h
 |.un .no .ff,h=>by simp[Pr.ok]at h
 |.un .F a,h=>by simp[Pr.ok]at h
 |.un .G a,h=>by simp[Pr.ok]at h
 |.bi o a b,h=>by
  obtain⟨h1,h2,h3⟩:=ok_bi h
  simp only[Pr.simp]
  rcases prPair_cases o a.simp b.simp with e|e|e|e|e<;>rw[e]
  ·exact simp_ok a h1
  ·exact simp_ok b h2
  ·rfl
  ·rfl
  ·exact h3 _ _ (simp_ok a h1) (simp_ok b h2)
end Go.Sc
namespace Go.Sc
open Go Go.Cm
def Rd (a b:Int) (op nm:ByteArray) (ks:List D) (p:Int):Prop:=
 ∃f t,ofD (fmD op nm ks p)=some f∧Fm.abs f=some t∧sameF f t.fm=true∧(t.sz:Int)≤b - a
def Good (a:Int):PR→Prop
 |.ok op nm ks p b=>Rd a b op nm ks p
 |_=>True
theorem good_deep (xs:List D) (a c:Int):Good c (deepP xs a):=by unfold deepP;split<;>trivial
theorem ofD_mk {op nm:ByteArray} {ks:List D} {p:Int} {f:Fm} (h:ofD (fmD op nm ks p)=some f):∃fs,ofDL ks=some fs∧f=.mk op nm fs p:=by
 simp only[fmD,ofD]at h
 split at h
 ·rename_i fs e;cases h;exact⟨fs,e,rfl⟩
 ·cases h
theorem rd_pos {a b:Int} {op nm:ByteArray} {ks:List D} {p:Int} (q:Int) (h:Rd a b op nm ks p):Rd a b op nm ks q:=by
 obtain⟨f,t,h1,h2,h3,h4⟩:=h
 obtain⟨fs,e,rfl⟩:=ofD_mk h1
 refine⟨.mk op nm fs q,t,by simp only[fmD,ofD,e],?_,?_,h4⟩
 ·rw[←h2];unfold Fm.abs;rfl
 ·cases ht:t.fm with
  |mk o n k r=>rw[ht]at h3;simpa only[sameF]using h3
theorem rd_two {a b c:Int} {op o1 n1 o2 n2:ByteArray} {k1 k2:List D} {p1 p2:Int} {o:B2} (ho:op.toList=o.s) (h:Rd a b o1 n1 k1 p1) (k:Rd (b+1) c o2 n2 k2 p2) (p:Int):
  Rd a c op ⟨#[]⟩ [fmD o1 n1 k1 p1,fmD o2 n2 k2 p2] p:=by
 obtain⟨f,t,h1,h2,h3,h4⟩:=h
 obtain⟨g,u,k1,k2,k3,k4⟩:=k
 refine⟨.mk op ⟨#[]⟩ [f,g] p,.bi o t u,?_,?_,?_,?_⟩
 ·simp only[fmD]at h1 k1 ⊢
  simp only[ofD,ofDL]at h1 k1 ⊢
  simp only[h1,k1]
 ·simp only[Fm.abs,b2A,ho,b2_of,h2,k2]
 ·simp only[Pr.fm,nd,sameF,sameL,h3,k3,ho,B2.b_s,beq_self_eq_true,Bool.and_true]
 ·simp only[Pr.sz];omega
theorem rd_one {a c:Int} {op o2 n2:ByteArray} {k2:List D} {p2:Int} {o:U1} (ho:op.toList=o.s) (k:Rd (a+1) c o2 n2 k2 p2) (p:Int):Rd a c op ⟨#[]⟩ [fmD o2 n2 k2 p2] p:=by
 obtain⟨g,u,k1,k2,k3,k4⟩:=k
 refine⟨.mk op ⟨#[]⟩ [g] p,.un o u,?_,?_,?_,?_⟩
 ·simp only[fmD]at k1 ⊢
  simp only[ofD,ofDL]at k1 ⊢
  simp only[k1]
 ·simp only[Fm.abs,u1A,ho,u1_of,k2]
 ·simp only[Pr.fm,nd,sameF,sameL,k3,ho,U1.b_s,beq_self_eq_true,Bool.and_true]
 ·simp only[Pr.sz];omega
theorem isT_s {c:Int} {t s:ByteArray} (h:isT c t s=true):t.toList=s.toList:=by
 unfold isT at h
 simp only[Bool.and_eq_true,beq_iff_eq]at h
 exact h.2
theorem good_chainL (xs:List D) (op:ByteArray) (o:B2) (ho:op.toList=o.s) (one:Int→PR) (h1:∀a,Good a (one a)):∀(n:Nat) (q nm:ByteArray) (ks:List D) (p a b:Int),Rd b a q nm ks p→Good b (chainL xs op one n q nm ks p a)
 |0,_,_,_,_,_,_,_=>trivial
 |n+1,q,nm,ks,p,a,b,hb=>by
  unfold chainL
  split
  ·trivial
  ·split
   ·have:=h1 (a+1)
    split
    ·rename_i e;rw[e]at this
     exact good_chainL xs op o ho one h1 n _ _ _ _ _ _ (rd_two ho hb this _)
    all_goals trivial
   ·exact hb
theorem good_chainP (xs:List D) (op:ByteArray) (o:B2) (ho:op.toList=o.s) (one:Int→PR) (h1:∀a,Good a (one a)) (a:Int):Good a (chainP xs op one a):=by
 have:=h1 a
 unfold chainP
 split
 ·rename_i e;rw[e]at this
  exact good_chainL xs op o ho one h1 _ _ _ _ _ _ _ this
 all_goals trivial
theorem good_rightP (xs:List D) (one:Int→PR) (h1:∀a,Good a (one a)) (o nm:ByteArray) (ks:List D) (p:Int):∀(ops:List ByteArray) (a b:Int),(∀op∈ops,∃o:B2,op.toList=o.s)→Rd b a o nm ks p→Good b (rightP xs one o nm ks p ops a)
 |[],a,b,_,h=>h
 |op::ops,a,b,ho,h=>by
  unfold rightP
  split
  ·trivial
  ·split
   ·have:=h1 (a+1)
    obtain⟨q,hq⟩:=ho op (.head _)
    split
    ·rename_i e;rw[e]at this
     exact rd_two hq h this _
    all_goals trivial
   ·exact good_rightP xs one h1 o nm ks p ops a b (fun x hx=>ho x (.tail _ hx)) h
theorem good_singleP (xs:List D) (P:PF) (h1:∀a,Good a (P.single a)) (h2:∀a,Good a (P.imply a)) (a:Int):Good a (singleP xs P a):=by
 have l0:(⟨#[108,97,98,101,108]⟩:ByteArray).toList=oLabel:=B_lit oLabel
 unfold singleP
 split
 ·trivial
 ·rename_i c t p hk
  split
  ·refine⟨.mk ⟨#[108,97,98,101,108]⟩ t [] p,.lab t,rfl,?_,?_,by simp only[Pr.sz];omega⟩
   ·simp only[Fm.abs,l0];rfl
   ·simp only[Pr.fm,labF,sameF,sameL,beq_self_eq_true,Bool.and_true]
  ·split
   ·rename_i h
    rcases h with h|h
    ·have e:=isT_s h
     rw[B_lit [116,114,117,101]]at e
     refine⟨.mk t ⟨#[]⟩ [] p,.tt,rfl,?_,?_,by simp only[Pr.sz];omega⟩
     ·simp only[Fm.abs,e];rfl
     ·simp only[Pr.fm,nd,bTrue,sameF,sameL,e,B_lit [116,114,117,101],beq_self_eq_true,Bool.and_true]
    ·have e:=isT_s h
     rw[B_lit [102,97,108,115,101]]at e
     refine⟨.mk t ⟨#[]⟩ [] p,.ff,rfl,?_,?_,by simp only[Pr.sz];omega⟩
     ·simp only[Fm.abs,e];rfl
     ·simp only[Pr.fm,nd,bFalse,sameF,sameL,e,B_lit [102,97,108,115,101],beq_self_eq_true,Bool.and_true]
   ·split
    ·rename_i h
     have ho:∃o:U1,t.toList=o.s:=by
      rcases h with h|h|h|h
      ·exact⟨.no,(isT_s h).trans (B_lit _)⟩
      ·exact⟨.X,(isT_s h).trans (B_lit _)⟩
      ·exact⟨.F,(isT_s h).trans (B_lit _)⟩
      ·exact⟨.G,(isT_s h).trans (B_lit _)⟩
     obtain⟨o,ho⟩:=ho
     have:=h1 (a+1)
     split
     ·rename_i e;rw[e]at this
      exact rd_one ho this _
     all_goals trivial
    ·split
     ·have:=h2 (a+1)
      split
      ·rename_i e;rw[e]at this
       split
       ·trivial
       ·split
        ·obtain⟨f,t,r1,r2,r3,r4⟩:=rd_pos p this
         exact⟨f,t,r1,r2,r3,by omega⟩
        ·trivial
      all_goals trivial
     ·trivial
theorem good_untlP (xs:List D) (s u:Int→PR) (h1:∀a,Good a (s a)) (h2:∀a,Good a (u a)) (a:Int):Good a (untlP xs s u a):=by
 have:=h1 a
 unfold untlP
 split
 ·rename_i e;rw[e]at this
  refine good_rightP xs u h2 _ _ _ _ _ _ _ (fun op ho=>?_) this
  simp only[List.mem_cons,List.not_mem_nil,or_false]at ho
  rcases ho with rfl|rfl|rfl
  ·exact⟨.U,B_lit _⟩
  ·exact⟨.W,B_lit _⟩
  ·exact⟨.R,B_lit _⟩
 all_goals trivial
theorem good_implyP (xs:List D) (u i:Int→PR) (h1:∀a,Good a (u a)) (h2:∀a,Good a (i a)) (a:Int):Good a (implyP xs u i a):=by
 have:=good_chainP xs ⟨#[124]⟩ .or (B_lit _) (kP xs u) (fun a=>good_chainP xs ⟨#[38]⟩ .and (B_lit _) u h1 a) a
 unfold implyP
 split
 ·rename_i e;rw[e]at this
  refine good_rightP xs i h2 _ _ _ _ _ _ _ (fun op ho=>?_) this
  simp only[List.mem_cons,List.not_mem_nil,or_false]at ho
  subst ho
  exact⟨.imp,B_lit _⟩
 all_goals trivial
theorem good_pf (xs:List D):∀n:Nat,(∀a,Good a ((pf xs n).single a))∧(∀a,Good a ((pf xs n).untl a))∧∀a,Good a ((pf xs n).imply a)
 |0=>⟨fun a=>good_deep xs a a,fun a=>good_deep xs a a,fun a=>good_deep xs a a⟩
 |n+1=>by
  obtain⟨h1,h2,h3⟩:=good_pf xs n
  have s:=good_singleP xs (pf xs n) h1 h3
  have u:=good_untlP xs _ _ s h2
  exact⟨s,u,good_implyP xs _ _ u h3⟩
theorem good_imply (xs:List D) (n:Nat) (a:Int):Good a (pImply xs n a):=(good_pf xs n).2.2 a
theorem toksL_len:∀(n:Nat) (l:T8) (p:Nat) (r:List Tok),toksL n l p=.inr r→r.length≤n
 |0,l,p,r,h=>by simp[toksL]at h
 |n+1,l,p,r,h=>by
  unfold toksL at h
  simp only at h
  split at h
  ·cases h;simp
  ·split at h
   ·cases h
   ·split at h
    ·cases h
    ·rename_i r' e
     cases h
     have:=toksL_len n _ _ _ e
     simp only[List.length_cons];omega
theorem parse_ok {s:ByteArray} {d:Int} {op nm:ByteArray} {ks:List D} {p:Int} (h:parseP s d=.ok op nm ks p):
  ∃f t,ofD (fmD op nm ks p)=some f∧Fm.abs f=some t∧sameF f t.fm=true∧t.sz≤s.size+1:=by
 unfold parseP at h
 split at h
 ·cases h
 ·split at h
  ·cases h
  ·rename_i hb
   split at h
   ·cases h
   ·rename_i l hl
    have hg:=good_imply (l.map tokT) d.toNat 0
    have ha:=adv_imply (l.map tokT) d.toNat 0
    unfold endP at h
    cases hp:pImply (l.map tokT) d.toNat 0 with
    |ok o n k q a=>
     rw[hp]at h hg ha
     simp only[Adv]at ha
     simp only at h
     split at h
     ·rename_i c t q2 hk
      split at h
      ·cases h
       obtain⟨f,t,r1,r2,r3,r4⟩:=hg
       have:=tk_lt hk (by omega)
       have hn:l.length≤s.size+1:=by
        rw[Nat.ble_eq]at hb
        have e:s.toList.length=s.size:=by rw[ByteArray.toList_eq];exact Array.length_toList
        have:=toksL_len _ _ _ _ hl
        omega
       rw[List.length_map]at this
       exact⟨f,t,r1,r2,r3,by omega⟩
      ·cases h
     ·cases h
    |syn=>rw[hp]at h;cases h
    |deep=>rw[hp]at h;cases h
    |no=>rw[hp]at h;cases h
mutual
theorem sm_abs:∀(f:Fm) (t:Pr),f.abs=some t→f.sm=true
 |.mk op nm ks p,t,h=>by
  match ks,h with
  |[],h=>rfl
  |[a],h=>
   simp only[Fm.abs]at h
   obtain⟨_,x,_,h2,_⟩:=u1A_some h
   simp only[Fm.sm,Fm.smL,sm_abs a x h2];rfl
  |[a,b],h=>
   simp only[Fm.abs]at h
   obtain⟨_,x,y,_,h2,h3,_⟩:=b2A_some h
   simp only[Fm.sm,Fm.smL,sm_abs a x h2,sm_abs b y h3];rfl
  |_::_::_::_,h=>simp[Fm.abs]at h
end
theorem dep_sz:∀(f:Fm) (t:Pr),f.abs=some t→f.dep≤t.sz
 |.mk op nm ks p,t,h=>by
  match ks,h with
  |[],h=>have:=t.sz_pos;simp only[Fm.dep,Fm.depL];omega
  |[a],h=>
   simp only[Fm.abs]at h
   obtain⟨_,x,_,h2,rfl⟩:=u1A_some h
   have:=dep_sz a x h2
   simp only[Fm.dep,Fm.depL,Pr.sz];omega
  |[a,b],h=>
   simp only[Fm.abs]at h
   obtain⟨_,x,y,_,h2,h3,rfl⟩:=b2A_some h
   have:=dep_sz a x h2
   have:=dep_sz b y h3
   simp only[Fm.dep,Fm.depL,Pr.sz];omega
  |_::_::_::_,h=>simp[Fm.abs]at h
end Go.Sc
namespace Go.Sd
open Go Go.Cm Go.Proofs Go.Sc
set_option maxRecDepth 100000
def ansN {β:Type} (k:List TV→List TV→Option β):Option (Fm×Int)→Option β
 |some (.mk o n ks p,l)=>if l<0 then k [.d false 5 zF,.d false 0 (noD 2)] []else k [.d true 5 (fmD o n (Fm.dL ks) p),.d false 0 .nili] []
 |none=>none
def cNormal {β:Type} (args:List TV) (k:List TV→List TV→Option β):Option β:=
 match args with
 |[.d true 5 x,.d true 0 (.bool not)]=>match ofD x with
  |some f=>chkK (f.sm=true∧f.dep≤1073741824) (match formF f with
   |false=>k [.d false 5 zF,.d false 0 (noD 1)] []
   |true=>if sizeF f>4096 then k [.d false 5 zF,.d false 0 (noD 2)] []else ansN k (makeF f not 4096))
  |none=>none
 |_=>none
def ansE {β:Type} (k:List TV→List TV→Option β):Fm→Option β
 |.mk o n ks p=>k [.d true 5 (fmD o n (Fm.dL ks) p),.d false 0 .nili] []
def cSimple {β:Type} (args:List TV) (k:List TV→List TV→Option β):Option β:=
 match args with
 |[.d true 5 x]=>match ofD x with
  |some f=>chkK (f.sm=true) (match isF f with
   |false=>k [.d false 5 zF,.d false 0 (noD 1)] []
   |true=>if sizeF f>4096 then k [.d false 5 zF,.d false 0 (noD 2)] []else ansE k (simpleF f))
  |none=>none
 |_=>none
def R17:Env:=(R16 none).add 30 io0 cNormal
def R18:Env:=R17.add 35 io0 cSimple
def cAlive15 {β:Type} (args:List TV) (k:List TV→List TV→Option β):Option β:=
 match args with
 |[]=>k [.d false 0 (.bool true)] []
 |_=>none
end Go.Sd
namespace Go.Sd
open Go Go.Cm Go.Proofs Go.Sc
set_option maxRecDepth 100000
namespace T27
noncomputable def X:Fx:=⟨Tryz.prog,R16 none,48,2⟩
theorem start {β:Type} (op:ByteArray) (nm:ByteArray) (ks:List D) (p:Int) (t:Bool) (k:List TV→List TV→Option β):evalF Tryz.prog (R16 none) Tryz.f30 [.d true 5 (.ag [D.str op,D.str nm,D.sl 5 ks,D.int .i64 p]),.d true 0 (.bool t)] k=match ofD (.ag [D.str op,D.str nm,D.sl 5 ks,D.int .i64 p])with
   |some f2=>if bd none f2 then if(!formF f2)=true then k [.d false 5 (.ag [D.str (ByteArray.mk #[]),D.str (ByteArray.mk #[]),D.sl 5 [],D.int .i64 0]),.d false 0 (.ifc 84 (.int .i64 1))] []else match ofD (.ag [D.str op,D.str nm,D.sl 5 ks,D.int .i64 p])with
    |some f6=>if bd none f6 then if decide (sizeF f6>4096)=true then k [.d false 5 (.ag [D.str (ByteArray.mk #[]),D.str (ByteArray.mk #[]),D.sl 5 [],D.int .i64 0]),.d false 0 (.ifc 84 (.int .i64 2))] []else match ofD (.ag [D.str op,D.str nm,D.sl 5 ks,D.int .i64 p])with
     |some f11=>if mok (-17179869184:Int) none f11 (4096:Int)then match makeF f11 t (4096:Int)with
      |some (Fm.mk o12 n13 ks14 p15,l16)=>if decide (l16<0)=true then k [.d false 5 (.ag [D.str (ByteArray.mk #[]),D.str (ByteArray.mk #[]),D.sl 5 [],D.int .i64 0]),.d false 0 (.ifc 84 (.int .i64 2))] []else k [.d true 5 (.ag [D.str o12,D.str n13,D.sl 5 (Fm.dL ks14),D.int .i64 p15]),.d false 0 D.nili] []
      |none=>none else none
     |none=>none else none
    |none=>none else none
   |none=>none:=by kernel_rfl
end T27
namespace T28
noncomputable def X:Fx:=⟨Tryz.prog,R17,12,1⟩
theorem start {β:Type} (op:ByteArray) (nm:ByteArray) (ks:List D) (p:Int) (k:List TV→List TV→Option β):evalF Tryz.prog R17 Tryz.f35 [.d true 5 (.ag [D.str op,D.str nm,D.sl 5 ks,D.int .i64 p])] k=match ofD (.ag [D.str op,D.str nm,D.sl 5 ks,D.int .i64 p])with
   |some f2=>if bd none f2 then if(!isF f2)=true then k [.d false 5 (.ag [D.str (ByteArray.mk #[]),D.str (ByteArray.mk #[]),D.sl 5 [],D.int .i64 0]),.d false 0 (.ifc 84 (.int .i64 1))] []else match ofD (.ag [D.str op,D.str nm,D.sl 5 ks,D.int .i64 p])with
    |some f6=>if bd none f6 then if decide (sizeF f6>4096)=true then k [.d false 5 (.ag [D.str (ByteArray.mk #[]),D.str (ByteArray.mk #[]),D.sl 5 [],D.int .i64 0]),.d false 0 (.ifc 84 (.int .i64 2))] []else match ofD (.ag [D.str op,D.str nm,D.sl 5 ks,D.int .i64 p])with
     |some f10=>if bd none f10 then match simpleF f10 with
      |Fm.mk o11 n12 ks13 p14=>k [.d true 5 (.ag [D.str o11,D.str n12,D.sl 5 (Fm.dL ks13),D.int .i64 p14]),.d false 0 D.nili] []else none
     |none=>none else none
    |none=>none else none
   |none=>none:=by kernel_rfl
end T28
end Go.Sd
namespace Go.Sd
open Go Go.Cm Go.Proofs Go.Sc
set_option maxRecDepth 100000
theorem envr17:EnvOk glS Tryz.prog R17:=envr16.fn mixed Tryz.func30 (by kernel_rfl) fun β args k r hr=>by
 unfold cNormal at hr
 split at hr
 ·rename_i x not
  split at hr
  ·rename_i f hf
   unfold chkK at hr
   split at hr
   ·rename_i h0
    rw[d_ofD _ _ hf]
    cases f with
    |mk op nm ks p=>
     have hof:=ofD_d (.mk op nm ks p)
     simp only[Fm.d]at hof
     have st:∀{γ:Type} (q:List TV→List TV→Option γ),evalF Tryz.prog (R16 none) Tryz.f30 [.d true 5 (Fm.mk op nm ks p).d,.d true 0 (.bool not)] q=_:=fun q=>T27.start op nm (Fm.dL ks) p not q
     have hb:bd none (.mk op nm ks p):=⟨h0.1,trivial⟩
     have hm:mok (-17179869184) none (.mk op nm ks p) 4096:=⟨hb,h0.2,by omega,by omega⟩
     simp only[hof,if_pos hb,if_pos hm]at st
     cases hF:formF (.mk op nm ks p)with
     |false=>
      simp only[hF]at st hr
      exact⟨_,_,hr,fun q=>by rw[st];rfl⟩
     |true=>
      simp only[hF]at st hr
      by_cases hs:sizeF (.mk op nm ks p)>4096
      ·rw[if_pos hs]at hr
       simp only[decide_eq_true hs]at st
       exact⟨_,_,hr,fun q=>by rw[st];rfl⟩
      ·rw[if_neg hs]at hr
       simp only[decide_eq_false hs]at st
       cases hk:makeF (.mk op nm ks p) not 4096 with
       |none=>rw[hk]at hr;cases hr
       |some v=>
        obtain⟨⟨o,n,k2,p2⟩,l⟩:=v
        rw[hk]at hr
        simp only[hk]at st
        simp only[ansN]at hr
        by_cases hl:l<0
        ·rw[if_pos hl]at hr
         simp only[decide_eq_true hl]at st
         exact⟨_,_,hr,fun q=>by rw[st];rfl⟩
        ·rw[if_neg hl]at hr
         simp only[decide_eq_false hl]at st
         exact⟨_,_,hr,fun q=>by rw[st];rfl⟩
   ·cases hr
  ·cases hr
 ·cases hr
theorem envr18:EnvOk glS Tryz.prog R18:=envr17.fn mixed Tryz.func35 (by kernel_rfl) fun β args k r hr=>by
 unfold cSimple at hr
 split at hr
 ·rename_i x
  split at hr
  ·rename_i f hf
   unfold chkK at hr
   split at hr
   ·rename_i h0
    rw[d_ofD _ _ hf]
    cases f with
    |mk op nm ks p=>
     have hof:=ofD_d (.mk op nm ks p)
     simp only[Fm.d]at hof
     have st:∀{γ:Type} (q:List TV→List TV→Option γ),evalF Tryz.prog R17 Tryz.f35 [.d true 5 (Fm.mk op nm ks p).d] q=_:=fun q=>T28.start op nm (Fm.dL ks) p q
     have hb:bd none (.mk op nm ks p):=⟨h0,trivial⟩
     simp only[hof,if_pos hb]at st
     cases hF:isF (.mk op nm ks p)with
     |false=>
      simp only[hF]at st hr
      exact⟨_,_,hr,fun q=>by rw[st];rfl⟩
     |true=>
      simp only[hF]at st hr
      by_cases hs:sizeF (.mk op nm ks p)>4096
      ·rw[if_pos hs]at hr
       simp only[decide_eq_true hs]at st
       exact⟨_,_,hr,fun q=>by rw[st];rfl⟩
      ·rw[if_neg hs]at hr
       simp only[decide_eq_false hs]at st
       cases hk:simpleF (.mk op nm ks p)with
       |mk o n k2 p2=>
        rw[hk]at hr
        simp only[hk]at st
        simp only[ansE]at hr
        exact⟨_,_,hr,fun q=>by rw[st];rfl⟩
   ·cases hr
  ·cases hr
 ·cases hr
end Go.Sd
namespace Go.Sc
open Go Go.Cm
def absD (x:D):Option Pr:=match ofD x with|some f=>f.abs|none=>none
def Pr.opb:Pr→ByteArray
 |.tt=>bTrue|.ff=>bFalse|.lab _=>⟨#[108,97,98,101,108]⟩|.un o _=>o.b|.bi o _ _=>o.b
def Pr.nmb:Pr→ByteArray
 |.lab s=>s|_=>⟨#[]⟩
def Pr.ksd:Pr→List D
 |.un _ a=>[a.fm.d]|.bi _ a b=>[a.fm.d,b.fm.d]|_=>[]
theorem pr_d (t:Pr):D.ag [.str t.opb,.str t.nmb,.sl 5 t.ksd,.int .i64 0]=t.fm.d:=by cases t<;>rfl
theorem ofD_pr (t:Pr):ofD (.ag [.str t.opb,.str t.nmb,.sl 5 t.ksd,.int .i64 0])=some t.fm:=by rw[pr_d,ofD_d]
theorem absD_pr (t:Pr):absD (.ag [.str t.opb,.str t.nmb,.sl 5 t.ksd,.int .i64 0])=some t:=by unfold absD;rw[ofD_pr];exact abs_fm t
theorem absD_of {x:D} {f:Fm} {t:Pr} (h:ofD x=some f) (k:f.abs=some t):absD x=some t:=by unfold absD;rw[h];exact k
theorem absD_out {x:D} {t:Pr} (h:absD x=some t):∃f,ofD x=some f∧f.abs=some t:=by
 unfold absD at h
 split at h
 ·rename_i f hf;exact⟨f,hf,h⟩
 ·cases h
theorem fm_sm (t:Pr):t.fm.sm=true:=sm_abs _ t (abs_fm t)
mutual
theorem simple_same:∀f g:Fm,sameF f g=true→simpleF f=simpleF g
 |.mk o1 n1 k1 p1,.mk o2 n2 k2 p2,h=>by
  simp only[sameF,Bool.and_eq_true,beq_iff_eq]at h
  obtain⟨⟨h1,h2⟩,h3⟩:=h
  simp only[simpleF,toList_inj h1,toList_inj h2,simple_sameL k1 k2 h3]
theorem simple_sameL:∀fs gs:List Fm,sameL fs gs=true→simpleL fs=simpleL gs
 |[],[],_=>rfl
 |f::fs,g::gs,h=>by
  simp only[sameL,Bool.and_eq_true]at h
  simp only[simpleL,simple_same f g h.1,simple_sameL fs gs h.2]
 |[],_::_,h=>by simp[sameL]at h
 |_::_,[],h=>by simp[sameL]at h
end
end Go.Sc
namespace Go.Sd
open Go Go.Cm Go.Proofs Go.Sc
set_option maxRecDepth 100000
def prD (t:Pr):D:=.ag [.str t.opb,.str t.nmb,.sl 5 t.ksd,.int .i64 0]
def exL:T8:=[71,32,40,34,97,34,32,61,62,32,70,32,34,98,34,41]
def exP:T8:=[102,97,108,115,101,32,82,32,40,33,34,97,34,32,124,32,116,114,117,101,32,85,32,34,98,34,41]
def exF:D:=.ag [.str ⟨#[71]⟩,.str ⟨#[]⟩,.sl 5 [.ag [.str ⟨#[61,62]⟩,.str ⟨#[]⟩,.sl 5 [.ag [.str ⟨#[108,97,98,101,108]⟩,.str ⟨#[97]⟩,.sl 5 [],.int .i64 3],
 .ag [.str ⟨#[70]⟩,.str ⟨#[]⟩,.sl 5 [.ag [.str ⟨#[108,97,98,101,108]⟩,.str ⟨#[98]⟩,.sl 5 [],.int .i64 12]],.int .i64 10]],.int .i64 2]],.int .i64 0]
def cParseA {β:Type} (args:List TV) (k:List TV→List TV→Option β):Option β:=
 match args with
 |[.d true 0 (.str s),.d true 0 (.int .i64 d)]=>if(s.toList==exL)=true then(if d=9 then k [.d false 5 exF,.d false 0 .nili] []else none)else none
 |_=>none
def normT (t:Pr) (n:Bool):Prop:=t.sz≤4096∧(t.nf n).sz≤4096
instance (t:Pr) (n:Bool):Decidable (normT t n):=by unfold normT;infer_instance
def cNormA {β:Type} (args:List TV) (k:List TV→List TV→Option β):Option β:=
 match args with
 |[.d true 5 x,.d true 0 (.bool n)]=>match x with
  |.ag (.str o::_)=>if(o.toList==[])=true then(match ofD x with
    |some f=>chkK (f.sm=true∧f.dep≤1073741824∧formF f=false) (k [.d false 5 zF,.d false 0 (noD 1)] [])
    |none=>none)
   else(match absD x with|some t=>chkK (normT t n) (k [.d true 5 (prD (t.nf n)),.d false 0 .nili] [])|none=>none)
  |_=>none
 |_=>none
def cPrintA {β:Type} (args:List TV) (k:List TV→List TV→Option β):Option β:=
 match args with
 |[.d true 5 x]=>match ofD x with
  |some f=>chkK ((printF f).toList=exP) (k [.d false 0 (.str ⟨exP.toArray⟩)] [])
  |none=>none
 |_=>none
def RAl:Env:=((R18.add 10 io0 cParseA).add 30 io0 cNormA).add 50 io0 cPrintA
def cNormT {β:Type} (args:List TV) (k:List TV→List TV→Option β):Option β:=
 match args with
 |[.d true 5 x,.d true 0 (.bool n)]=>match absD x with
  |some t=>chkK (t.sz≤5000) (if normT t n then k [.d true 5 (prD (t.nf n)),.d false 0 .nili] []else k [.d false 5 zF,.d false 0 (noD 2)] [])
  |none=>none
 |_=>none
def okT (t:Pr):Prop:=t.ok=true∧t.sz≤4096
instance (t:Pr):Decidable (okT t):=by unfold okT;infer_instance
def cSimpT {β:Type} (args:List TV) (k:List TV→List TV→Option β):Option β:=
 match args with
 |[.d true 5 x]=>match ofD x with
  |some f=>match absD x with
   |some t=>chkK (okT t∧sameF f t.fm=true) (k [.d true 5 (prD t.simp),.d false 0 .nili] [])
   |none=>none
  |none=>none
 |_=>none
def RT':Env:=(((R18.add 29 io0 cAlive15).add 30 io0 cNormT).add 35 io0 cSimpT)
end Go.Sd
namespace Go.Sd
open Go Go.Cm Go.Proofs Go.Sc
set_option maxRecDepth 100000
namespace T24
noncomputable def X:Fx:=⟨Tryz.prog,RAl,1,0⟩
theorem start {β:Type} (k:List TV→List TV→Option β):evalF Tryz.prog RAl Tryz.f29 [] k=match absD (.ag [D.str (ByteArray.mk #[71]),D.str (ByteArray.mk #[]),D.sl 5 [D.ag [D.str (ByteArray.mk #[61,62]),D.str (ByteArray.mk #[]),D.sl 5 [D.ag [D.str (ByteArray.mk #[108,97,98,101,108]),D.str (ByteArray.mk #[97]),D.sl 5 [],D.int .i64 3],D.ag [D.str (ByteArray.mk #[70]),D.str (ByteArray.mk #[]),D.sl 5 [D.ag [D.str (ByteArray.mk #[108,97,98,101,108]),D.str (ByteArray.mk #[98]),D.sl 5 [],D.int .i64 12]],D.int .i64 10]],D.int .i64 2]],D.int .i64 0])with
   |some t3=>if Pr.sz t3≤4096∧Pr.sz (Pr.nf t3 false)≤4096 then match ofD (.ag [D.str (ByteArray.mk #[]),D.str (ByteArray.mk #[]),D.sl 5 [],D.int .i64 0])with
    |some f5=>if Fm.sm f5=true∧Fm.dep f5≤1073741824∧formF f5=false then match ofD (.ag [D.str (Pr.opb (Pr.nf t3 false)),D.str (Pr.nmb (Pr.nf t3 false)),D.sl 5 (Pr.ksd (Pr.nf t3 false)),D.int .i64 0])with
     |some f7=>if ByteArray.toList (printF f7)=[102,97,108,115,101,32,82,32,40,33,34,97,34,32,124,32,116,114,117,101,32,85,32,34,98,34,41]then match ofD (.ag [D.str (Pr.opb (Pr.nf t3 false)),D.str (Pr.nmb (Pr.nf t3 false)),D.sl 5 (Pr.ksd (Pr.nf t3 false)),D.int .i64 0])with
      |some f8=>if bd none f8 then if isF f8=true then match ofD (.ag [D.str (ByteArray.mk #[71]),D.str (ByteArray.mk #[]),D.sl 5 [D.ag [D.str (ByteArray.mk #[61,62]),D.str (ByteArray.mk #[]),D.sl 5 [D.ag [D.str (ByteArray.mk #[108,97,98,101,108]),D.str (ByteArray.mk #[97]),D.sl 5 [],D.int .i64 3],D.ag [D.str (ByteArray.mk #[70]),D.str (ByteArray.mk #[]),D.sl 5 [D.ag [D.str (ByteArray.mk #[108,97,98,101,108]),D.str (ByteArray.mk #[98]),D.sl 5 [],D.int .i64 12]],D.int .i64 10]],D.int .i64 2]],D.int .i64 0])with
       |some f9=>if bd none f9 then if(!isF f9)=true then k [.d false 0 (.bool true)] []else k [.d false 0 (.bool false)] []else none
       |none=>none else k [.d false 0 (.bool false)] []else none
      |none=>none else none
     |none=>none else none
    |none=>none else none
   |none=>none:=by kernel_rfl
end T24
end Go.Sd
namespace Go.Sc
open Go Go.Cm
theorem toksL_last:∀(n:Nat) (l:T8) (p:Nat) (r:List Tok),toksL n l p=.inr r→∃us q,r=us++[(0,[],q)]
 |0,l,p,r,h=>by simp[toksL]at h
 |n+1,l,p,r,h=>by
  unfold toksL at h
  simp only at h
  split at h
  ·cases h;exact⟨[],p,rfl⟩
  ·split at h
   ·cases h
   ·split at h
    ·cases h
    ·rename_i r' e
     cases h
     obtain⟨us,q,rfl⟩:=toksL_last n _ _ _ e
     exact⟨_::us,q,rfl⟩
structure Ends (xs:List D):Prop where
 tk:∀a:Int,0≤a→a<xs.length→∃c t p,Go.Sc.tk xs a=some (c,t,p)
 last:∀(a c:Int) (t:ByteArray) (p:Int),0≤a→Go.Sc.tk xs a=some (c,t,p)→c≠0→a+1<xs.length
theorem ends_tok {l:T8} {ts:List Tok} (h:tokS l=.inr ts):Ends (ts.map tokT)∧0<ts.length:=by
 obtain⟨us,q,rfl⟩:=toksL_last _ _ _ _ h
 have hg:∀a:Int,0≤a→a<((us++[((0:Int),([]:T8),q)]).map tokT).length→∃h:a.toNat<(us++[((0:Int),([]:T8),q)]).length,
   tk ((us++[((0:Int),([]:T8),q)]).map tokT) a=some (((us++[((0:Int),([]:T8),q)])[a.toNat]).1,B ((us++[((0:Int),([]:T8),q)])[a.toNat]).2.1,(((us++[((0:Int),([]:T8),q)])[a.toNat]).2.2:Int)):=fun a h0 h1=>by
  rw[List.length_map]at h1
  have hlt:a.toNat<(us++[((0:Int),([]:T8),q)]).length:=by omega
  refine⟨hlt,?_⟩
  unfold tk
  rw[List.getElem?_map,List.getElem?_eq_getElem hlt]
  rfl
 refine⟨⟨fun a h0 h1=>?_,fun a c t p h0 hk hc=>?_⟩,by simp⟩
 ·obtain⟨_,e⟩:=hg a h0 h1
  exact⟨_,_,_,e⟩
 ·have h1:=tk_lt hk h0
  obtain⟨hlt,e⟩:=hg a h0 h1
  rw[hk]at e
  simp only[Option.some.injEq,Prod.mk.injEq]at e
  rw[List.length_map]at h1 ⊢
  rcases Int.lt_or_le (a+1) ((us++[((0:Int),([]:T8),q)]).length:Nat)with h|h
  ·exact h
  ·exfalso
   apply hc
   rw[e.1,List.getElem_append_right (by simp at h ⊢;omega)]
   simp
def In (xs:List D) (a:Int):Prop:=0≤a∧a<xs.length
def NB (xs:List D):PR→Prop
 |.ok _ _ _ _ b=>In xs b
 |.no=>False
 |_=>True
theorem isT_nz {c:Int} {t s:ByteArray} (h:isT c t s=true):c≠0:=by
 unfold isT at h
 simp only[Bool.and_eq_true,Bool.or_eq_true,beq_iff_eq]at h
 omega
variable {xs:List D}
theorem nb_deep (hx:Ends xs) {a:Int} (ha:In xs a):NB xs (deepP xs a):=by
 obtain⟨c,t,p,e⟩:=hx.tk a ha.1 ha.2
 simp only[deepP,e,NB]
theorem nb_chainL (hx:Ends xs) (op:ByteArray) (one:Int→PR) (h1:∀a,In xs a→NB xs (one a)) (h2:∀a,Adv a (one a)):∀(n:Nat) (q nm:ByteArray) (ks:List D) (p a:Int),In xs a→(xs.length:Int) - a<n→NB xs (chainL xs op one n q nm ks p a)
 |0,_,_,_,_,a,ha,hn=>by have:=ha.2;omega
 |n+1,q,nm,ks,p,a,ha,hn=>by
  obtain⟨c,t,p2,e⟩:=hx.tk a ha.1 ha.2
  unfold chainL
  simp only[e]
  split
  ·rename_i ht
   have hin:In xs (a+1):=⟨by have:=ha.1;omega,hx.last a c t p2 ha.1 e (isT_nz ht)⟩
   have g1:=h1 (a+1) hin
   have g2:=h2 (a+1)
   split
   ·rename_i e;rw[e]at g1 g2
    simp only[Adv]at g2
    exact nb_chainL hx op one h1 h2 n _ _ _ _ _ g1 (by omega)
   ·trivial
   ·trivial
   ·rename_i e;rw[e]at g1;exact g1.elim
  ·exact ha
theorem nb_chainP (hx:Ends xs) (op:ByteArray) (one:Int→PR) (h1:∀a,In xs a→NB xs (one a)) (h2:∀a,Adv a (one a)) (a:Int) (ha:In xs a):NB xs (chainP xs op one a):=by
 have g1:=h1 a ha
 unfold chainP
 split
 ·rename_i e;rw[e]at g1
  exact nb_chainL hx op one h1 h2 _ _ _ _ _ _ g1 (by have:=g1.1;omega)
 ·trivial
 ·trivial
 ·rename_i e;rw[e]at g1;exact g1.elim
theorem nb_rightP (hx:Ends xs) (one:Int→PR) (h1:∀a,In xs a→NB xs (one a)) (o nm:ByteArray) (ks:List D) (p:Int):∀(ops:List ByteArray) (a:Int),In xs a→NB xs (rightP xs one o nm ks p ops a)
 |[],a,h=>h
 |op::ops,a,ha=>by
  obtain⟨c,t,p2,e⟩:=hx.tk a ha.1 ha.2
  unfold rightP
  simp only[e]
  split
  ·rename_i ht
   have hin:In xs (a+1):=⟨by have:=ha.1;omega,hx.last a c t p2 ha.1 e (isT_nz ht)⟩
   have g1:=h1 (a+1) hin
   split
   ·rename_i e;rw[e]at g1;exact g1
   ·trivial
   ·trivial
   ·rename_i e;rw[e]at g1;exact g1.elim
  ·exact nb_rightP hx one h1 o nm ks p ops a ha
theorem nb_singleP (hx:Ends xs) (P:PF) (h1:∀a,In xs a→NB xs (P.single a)) (h2:∀a,In xs a→NB xs (P.imply a)) (a:Int) (ha:In xs a):NB xs (singleP xs P a):=by
 obtain⟨c,t,p,e⟩:=hx.tk a ha.1 ha.2
 have nx:c≠0→In xs (a+1):=fun h=>⟨by have:=ha.1;omega,hx.last a c t p ha.1 e h⟩
 unfold singleP
 simp only[e]
 split
 ·rename_i h;exact nx (by omega)
 ·split
  ·rename_i h
   exact nx (by rcases h with h|h<;>exact isT_nz h)
  ·split
   ·rename_i h
    have g:=h1 (a+1) (nx (by rcases h with h|h|h|h<;>exact isT_nz h))
    split
    ·rename_i e;rw[e]at g;exact g
    ·trivial
    ·trivial
    ·rename_i e;rw[e]at g;exact g.elim
   ·split
    ·rename_i h
     have g:=h2 (a+1) (nx (isT_nz h))
     split
     ·rename_i b e2;rw[e2]at g
      obtain⟨c2,t2,q2,e3⟩:=hx.tk _ g.1 g.2
      simp only[e3]
      split
      ·rename_i h3
       exact⟨by have:=g.1;omega,hx.last _ _ _ _ g.1 e3 (isT_nz h3)⟩
      ·trivial
     ·trivial
     ·trivial
     ·rename_i e;rw[e]at g;exact g.elim
    ·trivial
theorem nb_untlP (hx:Ends xs) (s u:Int→PR) (h1:∀a,In xs a→NB xs (s a)) (h2:∀a,In xs a→NB xs (u a)) (a:Int) (ha:In xs a):NB xs (untlP xs s u a):=by
 have g:=h1 a ha
 unfold untlP
 split
 ·rename_i e;rw[e]at g;exact nb_rightP hx u h2 _ _ _ _ _ _ g
 ·trivial
 ·trivial
 ·rename_i e;rw[e]at g;exact g.elim
theorem nb_implyP (hx:Ends xs) (u i:Int→PR) (h1:∀a,In xs a→NB xs (u a)) (h1':∀a,Adv a (u a)) (h2:∀a,In xs a→NB xs (i a)) (a:Int) (ha:In xs a):NB xs (implyP xs u i a):=by
 have g:=nb_chainP hx ⟨#[124]⟩ (kP xs u) (fun a ha=>nb_chainP hx ⟨#[38]⟩ u h1 h1' a ha) (fun a=>adv_chainP xs ⟨#[38]⟩ u h1' a) a ha
 unfold implyP
 split
 ·rename_i e;rw[e]at g;exact nb_rightP hx i h2 _ _ _ _ _ _ g
 ·trivial
 ·trivial
 ·rename_i e;rw[e]at g;exact g.elim
theorem nb_pf (hx:Ends xs):∀n:Nat,(∀a,In xs a→NB xs ((pf xs n).single a))∧(∀a,In xs a→NB xs ((pf xs n).untl a))∧∀a,In xs a→NB xs ((pf xs n).imply a)
 |0=>⟨fun a=>nb_deep hx,fun a=>nb_deep hx,fun a=>nb_deep hx⟩
 |n+1=>by
  obtain⟨h1,h2,h3⟩:=nb_pf hx n
  obtain⟨a1,a2,a3⟩:=adv_pf xs (n+1)
  have s:=nb_singleP hx (pf xs n) h1 h3
  have u:=nb_untlP hx _ _ s h2
  exact⟨s,u,nb_implyP hx _ _ u a2 h3⟩
theorem parse_bad (s:ByteArray) (d:Int):parseP s d≠.bad:=by
 unfold parseP
 split
 ·exact fun h=>by cases h
 ·split
  ·exact fun h=>by cases h
  ·split
   ·exact fun h=>by cases h
   ·rename_i l hl
    obtain⟨hx,h0⟩:=ends_tok hl
    have g:=(nb_pf hx d.toNat).2.2 0 ⟨by omega,by rw[List.length_map];omega⟩
    change NB _ (pImply (l.map tokT) d.toNat 0)at g
    unfold endP
    split
    ·rename_i e;rw[e]at g
     obtain⟨c,t,q,e2⟩:=hx.tk _ g.1 g.2
     rw[e2]
     simp only
     split<;>exact fun h=>by cases h
    ·exact fun h=>by cases h
    ·exact fun h=>by cases h
    ·rename_i e;rw[e]at g;exact g.elim
end Go.Sc
namespace Go.Sd
open Go Go.Cm Go.Proofs Go.Sc
set_option maxRecDepth 100000
theorem ansN_pr {β:Type} (k:List TV→List TV→Option β) (t:Pr) {l:Int} (hl:¬l<0):ansN k (some (t.fm,l))=k [.d true 5 (prD t),.d false 0 .nili] []:=by
 have e:=pr_d t
 cases hf:t.fm with
 |mk o n ks p=>
  rw[hf]at e
  simp only[ansN,if_neg hl]
  rw[show fmD o n (Fm.dL ks) p=(Fm.mk o n ks p).d from rfl, ←e]
  rfl
theorem ansE_pr {β:Type} (k:List TV→List TV→Option β) (t:Pr):ansE k t.fm=k [.d true 5 (prD t),.d false 0 .nili] []:=by
 have e:=pr_d t
 cases hf:t.fm with
 |mk o n ks p=>
  rw[hf]at e
  simp only[ansE]
  rw[show fmD o n (Fm.dL ks) p=(Fm.mk o n ks p).d from rfl, ←e]
  rfl
theorem norm_ok {β:Type} {x:D} {t:Pr} {n:Bool} (hx:absD x=some t) (h:normT t n) (k:List TV→List TV→Option β):
  cNormal [.d true 5 x,.d true 0 (.bool n)] k=k [.d true 5 (prD (t.nf n)),.d false 0 .nili] []:=by
 obtain⟨f,hf,ha⟩:=absD_out hx
 have hs:=size_abs t f ha
 have hd:=dep_sz f t ha
 simp only[cNormal,hf,chkK]
 rw[if_pos ⟨sm_abs f t ha,by have:=h.1;omega⟩,formF_abs t f ha]
 simp only
 rw[if_neg (by rw[hs];have:=h.1;omega),(makeF_nf t f ha n 4096).1 (by have:=h.2;omega)]
 exact ansN_pr k _ (by have:=h.2;omega)
theorem norm_long {β:Type} {x:D} {t:Pr} {n:Bool} (hx:absD x=some t) (hz:t.sz≤5000) (h:¬normT t n) (k:List TV→List TV→Option β):
  cNormal [.d true 5 x,.d true 0 (.bool n)] k=k [.d false 5 zF,.d false 0 (noD 2)] []:=by
 obtain⟨f,hf,ha⟩:=absD_out hx
 have hs:=size_abs t f ha
 have hd:=dep_sz f t ha
 simp only[cNormal,hf,chkK]
 rw[if_pos ⟨sm_abs f t ha,by omega⟩,formF_abs t f ha]
 simp only
 by_cases h1:t.sz≤4096
 ·rw[if_neg (by rw[hs];omega)]
  have h2:¬(t.nf n).sz≤4096:=fun h2=>h ⟨h1,h2⟩
  obtain⟨x,l',e,hl⟩:=(makeF_nf t f ha n 4096).2 (by omega)
  rw[e]
  obtain⟨o,n2,ks,p⟩:=x
  simp only[ansN,if_pos hl]
 ·rw[if_pos (by rw[hs];omega)]
theorem norm_no {β:Type} {x:D} {f:Fm} {n:Bool} (hf:ofD x=some f) (h1:f.sm=true) (h2:f.dep≤1073741824) (h3:formF f=false) (k:List TV→List TV→Option β):
  cNormal [.d true 5 x,.d true 0 (.bool n)] k=k [.d false 5 zF,.d false 0 (noD 1)] []:=by
 simp only[cNormal,hf,chkK,h3]
 rw[if_pos ⟨h1,h2⟩]
theorem simp_okT {β:Type} {x:D} {f:Fm} {t:Pr} (hf:ofD x=some f) (hx:absD x=some t) (h:okT t) (hs:sameF f t.fm=true) (k:List TV→List TV→Option β):
  cSimple [.d true 5 x] k=k [.d true 5 (prD t.simp),.d false 0 .nili] []:=by
 obtain⟨f',hf',ha⟩:=absD_out hx
 rw[hf]at hf';cases hf'
 simp only[cSimple,hf,chkK]
 rw[if_pos (sm_abs f t ha),isF_abs t f ha,h.1]
 simp only
 rw[if_neg (by rw[size_abs t f ha];have:=h.2;omega),simple_same f t.fm hs,simple_fm]
 exact ansE_pr k _
theorem env_al:EnvOk glS Tryz.prog RAl:=by
 refine EnvOk.add (EnvOk.add (EnvOk.add envr18 fun β args k r hr=>?_) fun β args k r hr=>?_) fun β args k r hr=>?_
 ·unfold cParseA at hr
  split at hr
  ·rename_i s d
   split at hr
   ·rename_i h
    split at hr
    ·rename_i hd
     subst hd
     refine envr18 β 10 _ k r ?_
     show cParse [.d true 0 (.str s),.d true 0 (.int .i64 9)] k=some r
     have es:s=⟨exL.toArray⟩:=toList_inj ((eq_of_beq h).trans (B_lit _).symm)
     rw[es]
     have e:parseP ⟨exL.toArray⟩ 9=.ok ⟨#[71]⟩ ⟨#[]⟩ [.ag [.str ⟨#[61,62]⟩,.str ⟨#[]⟩,.sl 5 [.ag [.str ⟨#[108,97,98,101,108]⟩,.str ⟨#[97]⟩,.sl 5 [],.int .i64 3],
      .ag [.str ⟨#[70]⟩,.str ⟨#[]⟩,.sl 5 [.ag [.str ⟨#[108,97,98,101,108]⟩,.str ⟨#[98]⟩,.sl 5 [],.int .i64 12]],.int .i64 10]],.int .i64 2]] 0:=by kernel_rfl
     simp only[cParse,e]
     exact hr
    ·cases hr
   ·cases hr
  ·cases hr
 ·refine envr18 β 30 _ k r ?_
  show cNormal args k=some r
  unfold cNormA at hr
  split at hr
  ·split at hr
   ·rename_i n o xs
    split at hr
    ·split at hr
     ·rename_i f hf
      unfold chkK at hr
      split at hr
      ·rename_i h0
       rw[norm_no hf h0.1 h0.2.1 h0.2.2];exact hr
      ·cases hr
     ·cases hr
    ·split at hr
     ·rename_i t ht
      unfold chkK at hr
      split at hr
      ·rename_i h0
       rw[norm_ok ht h0];exact hr
      ·cases hr
     ·cases hr
   ·cases hr
  ·cases hr
 ·refine envr18 β 50 _ k r ?_
  show cPrint none args k=some r
  unfold cPrintA at hr
  split at hr
  ·split at hr
   ·rename_i f hf
    unfold chkK at hr
    split at hr
    ·rename_i h0
     have e:printF f=⟨exP.toArray⟩:=toList_inj (h0.trans (B_lit _).symm)
     simp only[cPrint,hf,chkK]
     rw[if_pos ⟨trivial,by rw[e];decide⟩,e]
     exact hr
    ·cases hr
   ·cases hr
  ·cases hr
def exT:Pr:=.un .G (.bi .imp (.lab ⟨#[97]⟩) (.un .F (.lab ⟨#[98]⟩)))
theorem envr19:EnvOk glS Tryz.prog (R18.add 29 io0 cAlive15):=by
 refine envr18.add fun β args k r hr=>?_
 unfold cAlive15 at hr
 split at hr
 ·refine⟨_,_,hr,valid_of env_al mixed Tryz.func29 (by kernel_rfl) ?_⟩
  rw[T24.start]
  have e1:absD exF=some exT:=by kernel_rfl
  have e2:(∃f,ofD exF=some f∧bd none f∧isF f=false):=by
   obtain⟨f,hf,ha⟩:=absD_out e1
   exact⟨f,hf,⟨sm_abs _ _ ha,trivial⟩,(isF_abs _ _ ha).trans rfl⟩
  obtain⟨f,hf,hb,hi⟩:=e2
  unfold exF at e1 hf
  have ez:ofD (D.ag [D.str ⟨#[]⟩,D.str ⟨#[]⟩,D.sl 5 [],D.int .i64 0])=some zeroF:=rfl
  have e3:formF zeroF=false:=by kernel_rfl
  have e4:(printF (exT.nf false).fm).toList=exP:=by kernel_rfl
  have e5:isF (exT.nf false).fm=true:=(isF_abs _ _ (abs_fm _)).trans rfl
  unfold exP at e4
  have e6:exT.sz≤4096∧(exT.nf false).sz≤4096:=by decide
  have e7:Fm.sm zeroF=true∧Fm.dep zeroF≤1073741824∧formF zeroF=false:=⟨rfl,by decide,e3⟩
  have e8:bd none (exT.nf false).fm:=⟨fm_sm _,trivial⟩
  simp only[e1,hf,ez,if_pos e6,if_pos e7,ofD_pr,e4,if_pos e8,e5,if_pos hb,hi,if_true,Bool.not_false]
 ·cases hr
theorem env_rt:EnvOk glS Tryz.prog RT':=by
 refine EnvOk.add (EnvOk.add envr19 fun β args k r hr=>?_) fun β args k r hr=>?_
 ·refine envr18 β 30 _ k r ?_
  show cNormal args k=some r
  unfold cNormT at hr
  split at hr
  ·split at hr
   ·rename_i t ht
    unfold chkK at hr
    split at hr
    ·rename_i hz
     split at hr
     ·rename_i h0
      rw[norm_ok ht h0];exact hr
     ·rename_i h0
      rw[norm_long ht hz h0];exact hr
    ·cases hr
   ·cases hr
  ·cases hr
 ·refine envr18 β 35 _ k r ?_
  show cSimple args k=some r
  unfold cSimpT at hr
  split at hr
  ·split at hr
   ·rename_i f hf
    split at hr
    ·rename_i t ht
     unfold chkK at hr
     split at hr
     ·rename_i h0
      rw[simp_okT hf ht h0.1 h0.2];exact hr
     ·cases hr
    ·cases hr
   ·cases hr
  ·cases hr
end Go.Sd
namespace Go.Cm
theorem regA_quiet {β:Type} {P:Program} {E:Env} {ops:Array Oper} {ms acc acc':List Nat} {n j:Nat} {s z z':S} {k:S→Option β} (h1:nextQ ops acc=some j) (h2:∀K:S→Option β,opsG P E ops ms acc [j] s K=K z')
  (h3:z'.srt=z) (h4:insN j acc=acc'):regA P E ops ms (n+1) acc s k=regA P E ops ms n acc' z k:=by
 rw[regA,h1]
 simp only
 rw[h2,h3,h4]
end Go.Cm
namespace Go.Cm
open Go
def regOps (c:Code):Array Oper:=match c with|.region _ ops _=>ops|_=> #[]
def selT:List (Nat×V)→Nat→List (Nat×V)→List (Nat×V)
 |[],_,_=>[]
 |e::r,n,xs=>match n % 4 with
  |0=>selT r (n / 4) xs
  |1=>e::selT r (n / 4) xs
  |2=>(e.1,.undef)::selT r (n / 4) xs
  |_=>match xs with
   |[]=>[]
   |x::xs=>x::selT r (n / 4) xs
def selR:List (Nat×Bool×List V)→Nat→List (Nat×Bool×List V)→List (Nat×Bool×List V)
 |[],_,_=>[]
 |e::r,n,xs=>match n % 4 with
  |0=>selR r (n / 4) xs
  |1=>e::selR r (n / 4) xs
  |_=>match xs with
   |[]=>[]
   |x::xs=>x::selR r (n / 4) xs
end Go.Cm
namespace Go.Sc
open Go Go.Cm
abbrev Tk:=Int×T8
def Pr.rank:Pr→Nat
 |.bi .imp _ _=>0
 |.bi .or _ _=>1
 |.bi .and _ _=>2
 |.bi _ _ _=>3
 |.un _ _=>4
 |_=>5
def U1.tk:U1→Tk
 |.no=>(4,[33])|.X=>(1,[88])|.F=>(1,[70])|.G=>(1,[71])
def B2.tk:B2→Tk
 |.and=>(4,[38])|.or=>(4,[124])|.imp=>(4,[61,62])|.U=>(1,[85])|.W=>(1,[87])|.R=>(1,[82])
def B2.lt:B2→Nat
 |.imp=>1|.or=>1|.and=>2|_=>4
def B2.rt:B2→Nat
 |.imp=>0|.or=>2|.and=>3|_=>3
def parT (r k:Nat) (l:List Tk):List Tk:=if k<r then(4,[40])::(l++[(4,[41])])else l
def Pr.tok:Pr→List Tk
 |.tt=>[(1,oTrue)]
 |.ff=>[(1,oFalse)]
 |.lab s=>[(3,s.toList)]
 |.un o a=>o.tk::parT 4 a.rank a.tok
 |.bi o a b=>parT o.lt a.rank a.tok++o.tk::parT o.rt b.rank b.tok
def Pr.tokR (r:Nat) (t:Pr):List Tk:=parT r t.rank t.tok
def Pr.nd:Pr→Nat
 |.tt=>1
 |.ff=>1
 |.lab _=>1
 |.un _ a=>1+(if a.rank<4 then 1+a.nd else a.nd)
 |.bi o a b=>max (if a.rank<o.lt then 1+a.nd else a.nd) ((match o with|.and=>0|.or=>0|_=>1)+(if b.rank<o.rt then 1+b.nd else b.nd))
def Pr.ndR (r:Nat) (t:Pr):Nat:=if t.rank<r then 1+t.nd else t.nd
def At (xs:List D) (a:Int):List Tk→Prop
 |[]=>True
 |(c,l)::r=>(∃p,tk xs a=some (c,B l,p))∧At xs (a+1) r
theorem At.app {xs:List D}:∀{u v:List Tk} {a:Int},At xs a (u++v)→At xs a u∧At xs (a+u.length) v
 |[],v,a,h=>⟨trivial,by simpa using h⟩
 |(c,l)::u,v,a,h=>by
  obtain⟨h1,h2⟩:=h
  obtain⟨h3,h4⟩:=At.app h2
  refine⟨⟨h1,h3⟩,?_⟩
  rw[show a+(((c,l)::u).length:Nat)=a+1+(u.length:Nat)by simp only[List.length_cons];omega]
  exact h4
def Stop (xs:List D) (r:Nat) (b:Int):Prop:=∃c t p,tk xs b=some (c,t,p)∧∀o:B2,r≤(match o with|.imp=>0|.or=>1|.and=>2|_=>3)→isT c t o.b=false
theorem Stop.mono {xs:List D} {r r':Nat} {b:Int} (h:Stop xs r b) (hr:r≤r'):Stop xs r' b:=by
 obtain⟨c,t,p,h1,h2⟩:=h
 exact⟨c,t,p,h1,fun o ho=>h2 o (Nat.le_trans hr ho)⟩
theorem isT_B (c:Int) (l:T8) (s:ByteArray):isT c (B l) s=((c==1||c==4)&&l==s.toList):=by unfold isT;rw[B_list]
theorem stop_at {xs:List D} {r:Nat} {b:Int} {c:Int} {l:T8} {p:Int} (h:tk xs b=some (c,B l,p)) (ho:∀o:B2,r≤(match o with|.imp=>0|.or=>1|.and=>2|_=>3)→¬(l=o.s)):Stop xs r b:=by
 refine⟨c,B l,p,h,fun o hr=>?_⟩
 rw[isT_B,B2.b_s]
 have:=ho o hr
 simp[this]
def Got (t:Pr) (b:Int) (r:PR):Prop:=∃op nm ks p f,r=.ok op nm ks p b∧ofD (fmD op nm ks p)=some f∧f.abs=some t∧sameF f t.fm=true
def pR (xs:List D) (n r:Nat) (a:Int):PR:=
 match r with
 |0=>pImply xs n a
 |1=>chainP xs ⟨#[124]⟩ (pK xs n) a
 |2=>pK xs n a
 |3=>pUntl xs n a
 |_=>pSingle xs n a
theorem got_two {t u:Pr} {o:B2} {op o1 n1 o2 n2:ByteArray} {k1 k2:List D} {p1 p2 p a b c:Int} {f g:Fm} (ho:op.toList=o.s) (h1:ofD (fmD o1 n1 k1 p1)=some f) (h2:f.abs=some t) (h3:sameF f t.fm=true)
  (h4:ofD (fmD o2 n2 k2 p2)=some g) (h5:g.abs=some u) (h6:sameF g u.fm=true):∃h,ofD (fmD op ⟨#[]⟩ [fmD o1 n1 k1 p1,fmD o2 n2 k2 p2] p)=some h∧h.abs=some (.bi o t u)∧sameF h (Pr.fm (.bi o t u))=true:=by
 refine⟨.mk op ⟨#[]⟩ [f,g] p,?_,?_,?_⟩
 ·simp only[fmD]at h1 h4 ⊢
  simp only[ofD,ofDL]at h1 h4 ⊢
  simp only[h1,h4]
 ·simp only[Fm.abs,b2A,ho,b2_of,h2,h5]
 ·simp only[Pr.fm,nd,sameF,sameL,h3,h6,ho,B2.b_s,beq_self_eq_true,Bool.and_true]
end Go.Sc
namespace Go.Sc
open Go Go.Cm
theorem Pr.nd_pos (t:Pr):1≤t.nd:=by
 cases t with
 |bi o a b=>simp only[Pr.nd];have:=Pr.nd_pos a;split<;>omega
 |un o a=>simp only[Pr.nd];omega
 |_=>simp only[Pr.nd];omega
theorem Pr.ndR_pos (r:Nat) (t:Pr):1≤t.ndR r:=by unfold Pr.ndR;have:=t.nd_pos;split<;>omega
theorem tokR_of {t:Pr} {r:Nat} (h:¬t.rank<r):t.tokR r=t.tok∧t.ndR r=t.nd:=by unfold Pr.tokR parT Pr.ndR;rw[if_neg h,if_neg h];exact⟨rfl,rfl⟩
theorem tokR_lt {t:Pr} {r:Nat} (h:t.rank<r):t.tokR r=(4,[40])::(t.tok++[(4,[41])])∧t.ndR r=1+t.nd:=by unfold Pr.tokR parT Pr.ndR;rw[if_pos h,if_pos h];exact⟨rfl,rfl⟩
theorem tokR_succ {t:Pr} {r:Nat} (h:t.rank≠r):t.tokR r=t.tokR (r+1)∧t.ndR r=t.ndR (r+1):=by
 by_cases c:t.rank<r
 ·obtain⟨a,b⟩:=tokR_lt c;obtain⟨d,e⟩:=tokR_lt (t:=t) (r:=r+1) (by omega);exact⟨a.trans d.symm,b.trans e.symm⟩
 ·obtain⟨a,b⟩:=tokR_of c;obtain⟨d,e⟩:=tokR_of (t:=t) (r:=r+1) (by omega);exact⟨a.trans d.symm,b.trans e.symm⟩
section
variable {xs:List D}
def M (xs:List D) (t:Pr) (r:Nat):Prop:=∀(n:Nat) (a:Int),0≤a→t.ndR r≤n→At xs a (t.tokR r)→Stop xs r (a+((t.tokR r).length:Nat))→Got t (a+((t.tokR r).length:Nat)) (pR xs n r a)
def oneC (xs:List D) (n rk:Nat):Int→PR:=match rk with|2=>pUntl xs n|_=>pK xs n
def opC (rk:Nat):ByteArray:=match rk with|2=>⟨#[38]⟩|_=>⟨#[124]⟩
def C (xs:List D) (t:Pr) (rk:Nat):Prop:=∀(n:Nat) (a:Int),0≤a→t.ndR rk≤n→At xs a (t.tokR rk)→Stop xs (rk+1) (a+((t.tokR rk).length:Nat))→
 ∃c op nm ks p f,chainP xs (opC rk) (oneC xs n rk) a=chainL xs (opC rk) (oneC xs n rk) (xs.length+1 - c) op nm ks p (a+((t.tokR rk).length:Nat))∧c≤(t.tokR rk).length∧ofD (fmD op nm ks p)=some f∧f.abs=some t∧sameF f t.fm=true
theorem lift3 {t:Pr} (h:M xs t 4) (hr:t.rank≠3):M xs t 3:=by
 intro n a h0 hn hA hS
 obtain⟨e1,e2⟩:=tokR_succ hr
 rw[e1]at hA hS ⊢
 rw[e2]at hn
 obtain⟨op,nm,ks,p,f,g1,g2,g3,g4⟩:=h n a h0 hn hA (hS.mono (by omega))
 obtain⟨m,rfl⟩:∃m,n=m+1:=⟨n - 1,by have:=t.ndR_pos (3+1);omega⟩
 obtain⟨c,tt,q,k1,k2⟩:=hS
 refine⟨op,nm,ks,p,f,?_,g2,g3,g4⟩
 show pUntl xs (m+1) a=_
 have g1':pSingle xs (m+1) a=_:=g1
 rw[pUntl_s]
 unfold untlP
 rw[g1']
 simp only[rightP,k1]
 rw[if_neg (by rw[show isT c tt ⟨#[85]⟩=false from k2 .U (Nat.le_refl _)];decide),if_neg (by rw[show isT c tt ⟨#[87]⟩=false from k2 .W (Nat.le_refl _)];decide),if_neg (by rw[show isT c tt ⟨#[82]⟩=false from k2 .R (Nat.le_refl _)];decide)]
theorem chain_of {t:Pr} {rk:Nat} (hk:rk=1∨rk=2) (h:M xs t (rk+1)) (hr:t.rank≠rk):C xs t rk:=by
 intro n a h0 hn hA hS
 obtain⟨e1,e2⟩:=tokR_succ hr
 rw[e1]at hA hS ⊢
 rw[e2]at hn
 obtain⟨op,nm,ks,p,f,g1,g2,g3,g4⟩:=h n a h0 hn hA hS
 refine⟨0,op,nm,ks,p,f,?_,by omega,g2,g3,g4⟩
 rcases hk with rfl|rfl
 ·have g1':pK xs n a=_:=g1
  unfold chainP oneC
  simp only
  rw[g1']
  rfl
 ·have g1':pUntl xs n a=_:=g1
  unfold chainP oneC
  simp only
  rw[g1']
  rfl
theorem at_len:∀{l:List Tk} {a:Int},0≤a→At xs a l→l≠[]→a+(l.length:Nat)≤xs.length
 |[],_,_,_,h=>(h rfl).elim
 |[(c,t)],a,h0,h,_=>by
  obtain⟨⟨p,h1⟩,_⟩:=h
  have:=tk_lt h1 h0
  simp only[List.length_singleton];omega
 |(c,t)::x::r,a,h0,h,_=>by
  have:=at_len (l:=x::r) (a:=a+1) (by omega) h.2 (by simp)
  simp only[List.length_cons]at this ⊢;omega
theorem tok_ne (t:Pr) (r:Nat):t.tokR r≠[]:=by
 unfold Pr.tokR parT
 split
 ·simp
 ·cases t<;>simp[Pr.tok]
theorem fin_chain {t:Pr} {rk:Nat} (hk:rk=1∨rk=2) (h:C xs t rk):M xs t rk:=by
 intro n a h0 hn hA hS
 obtain⟨c,op,nm,ks,p,f,g1,g2,g3,g4,g5⟩:=h n a h0 hn hA (hS.mono (by omega))
 have hl:=at_len h0 hA (tok_ne t rk)
 obtain⟨m,hm⟩:∃m,xs.length+1 - c=m+1:=⟨xs.length - c,by omega⟩
 obtain⟨c2,tt,q,k1,k2⟩:=hS
 refine⟨op,nm,ks,p,f,?_,g3,g4,g5⟩
 rcases hk with rfl|rfl
 ·show chainP xs ⟨#[124]⟩ (pK xs n) a=_
  refine Eq.trans g1 ?_
  rw[hm]
  unfold chainL
  simp only[k1]
  rw[if_neg (by rw[show isT c2 tt (opC 1)=false from k2 .or (Nat.le_refl _)];decide)]
 ·show pK xs n a=_
  refine Eq.trans g1 ?_
  rw[hm]
  unfold chainL
  simp only[k1]
  rw[if_neg (by rw[show isT c2 tt (opC 2)=false from k2 .and (Nat.le_refl _)];decide)]
theorem lift0 {t:Pr} (h:M xs t 1) (hr:t.rank≠0):M xs t 0:=by
 intro n a h0 hn hA hS
 obtain⟨e1,e2⟩:=tokR_succ hr
 rw[e1]at hA hS ⊢
 rw[e2]at hn
 obtain⟨op,nm,ks,p,f,g1,g2,g3,g4⟩:=h n a h0 hn hA (hS.mono (by omega))
 obtain⟨m,rfl⟩:∃m,n=m+1:=⟨n - 1,by have:=t.ndR_pos (0+1);omega⟩
 obtain⟨c,tt,q,k1,k2⟩:=hS
 refine⟨op,nm,ks,p,f,?_,g2,g3,g4⟩
 show pImply xs (m+1) a=_
 have g1':chainP xs ⟨#[124]⟩ (kP xs (pUntl xs (m+1))) a=_:=g1
 rw[pImply_s]
 unfold implyP
 rw[g1']
 simp only[rightP,k1]
 rw[if_neg (by rw[show isT c tt ⟨#[61,62]⟩=false from k2 .imp (Nat.le_refl _)];decide)]
theorem tok_last {l:List Tk} {x:Tk} {a:Int} (h:At xs a (l++[x])):∃p,tk xs (a+(l.length:Nat))=some (x.1,B x.2,p):=(At.app h).2.1
theorem isT_lit (c:Int) (l m:T8):isT c (B l) ⟨m.toArray⟩=((c==1||c==4)&&l==m):=by rw[isT_B,B_lit]
theorem paren {t:Pr} (h:M xs t 0) (hr:t.rank<4):M xs t 4:=by
 intro n a h0 hn hA hS
 obtain⟨e1,e2⟩:=tokR_lt hr
 obtain⟨z1,z2⟩:=tokR_of (t:=t) (r:=0) (by omega)
 rw[e1]at hA hS ⊢
 rw[e2]at hn
 obtain⟨m,rfl⟩:∃m,n=m+1:=⟨n - 1,by omega⟩
 obtain⟨⟨q,hq⟩,hA⟩:=hA
 obtain⟨q2,hq2⟩:=tok_last hA
 have hA1:=(At.app hA).1
 have g:=h m (a+1) (by omega) (by rw[z2];omega) (by rw[z1];exact hA1) (by
  rw[z1]
  exact stop_at hq2 (fun o _=>by cases o<;>decide))
 rw[z1]at g
 obtain⟨op,nm,ks,p,f,g1,g2,g3,g4⟩:=g
 have g1':(pf xs m).imply (a+1)=_:=g1
 have hlen:a+(((4,[40])::(t.tok++[(4,[41])]):List Tk).length:Nat)=a+1+(t.tok.length:Nat)+1:=by simp only[List.length_cons,List.length_append,List.length_nil];omega
 rw[hlen]
 refine⟨op,nm,ks,q,?_⟩
 obtain⟨fs,e,rfl⟩:=ofD_mk g2
 refine⟨.mk op nm fs q,?_,by simp only[fmD,ofD,e],by rw[←g3];unfold Fm.abs;rfl,by cases ht:t.fm with|mk o n k r=>rw[ht]at g4;simpa only[sameF]using g4⟩
 show pSingle xs (m+1) a=_
 rw[pSingle_s]
 unfold singleP
 simp only[hq]
 rw[if_neg (by decide),if_neg (by rw[isT_lit 4 [40] [116,114,117,101],isT_lit 4 [40] [102,97,108,115,101]];decide),
  if_neg (by rw[isT_lit 4 [40] [33],isT_lit 4 [40] [88],isT_lit 4 [40] [70],isT_lit 4 [40] [71]];decide),if_pos (by rw[isT_lit 4 [40] [40]];decide),g1']
 simp only[hq2]
 rw[if_pos (by rw[isT_lit 4 [41] [41]];decide)]
theorem m_two {x y:Pr} {o:B2} (ho:o=.U∨o=.W∨o=.R) (hx:M xs x 4) (hy:M xs y 3):M xs (.bi o x y) 3:=by
 have hrk:(Pr.bi o x y).rank=3:=by rcases ho with rfl|rfl|rfl<;>rfl
 have hlt:o.lt=4:=by rcases ho with rfl|rfl|rfl<;>rfl
 have hrt:o.rt=3:=by rcases ho with rfl|rfl|rfl<;>rfl
 have hnd:(Pr.bi o x y).nd=max (x.ndR 4) (1+y.ndR 3):=by rcases ho with rfl|rfl|rfl<;>rfl
 have htk:(Pr.bi o x y).tok=x.tokR 4++o.tk::y.tokR 3:=by rcases ho with rfl|rfl|rfl<;>rfl
 have hos:o.tk=(1,o.s):=by rcases ho with rfl|rfl|rfl<;>rfl
 intro n a h0 hn hA hS
 obtain⟨e1,e2⟩:=tokR_of (t:=.bi o x y) (r:=3) (by omega)
 rw[e1,htk]at hA hS ⊢
 rw[e2,hnd]at hn
 obtain⟨m,rfl⟩:∃m,n=m+1:=⟨n - 1,by omega⟩
 obtain⟨hA1,hA2⟩:=At.app hA
 rw[hos]at hA2
 obtain⟨⟨q,hq⟩,hA3⟩:=hA2
 obtain⟨op,nm,ks,p,f,g1,g2,g3,g4⟩:=hx (m+1) a h0 (by omega) hA1 (stop_at hq (fun o' h=>absurd h (by cases o'<;>decide)))
 have hlen:a+((x.tokR 4++o.tk::y.tokR 3).length:Nat)=a+((x.tokR 4).length:Nat)+1+((y.tokR 3).length:Nat):=by simp only[List.length_append,List.length_cons];omega
 rw[hlen]at hS ⊢
 obtain⟨op2,nm2,ks2,p2,f2,k1,k2,k3,k4⟩:=hy m (a+((x.tokR 4).length:Nat)+1) (by omega) (by omega) hA3 hS
 have g1':pSingle xs (m+1) a=_:=g1
 have k1':(pf xs m).untl (a+((x.tokR 4).length:Nat)+1)=_:=k1
 have hT:∀l:T8,isT 1 (B o.s) ⟨l.toArray⟩=(o.s==l):=fun l=>by rw[isT_lit];rfl
 have k1'':pUntl xs m (a+((x.tokR 4).length:Nat)+1)=_:=k1
 show Got (.bi o x y) _ (pUntl xs (m+1) a)
 rw[pUntl_s]
 unfold untlP
 rw[g1']
 simp only[rightP,hq]
 rcases ho with rfl|rfl|rfl
 ·rw[if_pos (by rw[hT [85]];decide)]
  rw[k1'']
  obtain⟨h,j1,j2,j3⟩:=got_two (o:=.U) (op:=⟨#[85]⟩) (p:=p) (a:=0) (b:=0) (c:=0) (B_lit _) g2 g3 g4 k2 k3 k4
  exact⟨_,_,_,_,h,rfl,j1,j2,j3⟩
 ·rw[if_neg (by rw[hT [85]];decide),if_pos (by rw[hT [87]];decide)]
  rw[k1'']
  obtain⟨h,j1,j2,j3⟩:=got_two (o:=.W) (op:=⟨#[87]⟩) (p:=p) (a:=0) (b:=0) (c:=0) (B_lit _) g2 g3 g4 k2 k3 k4
  exact⟨_,_,_,_,h,rfl,j1,j2,j3⟩
 ·rw[if_neg (by rw[hT [85]];decide),if_neg (by rw[hT [87]];decide),if_pos (by rw[hT [82]];decide)]
  rw[k1'']
  obtain⟨h,j1,j2,j3⟩:=got_two (o:=.R) (op:=⟨#[82]⟩) (p:=p) (a:=0) (b:=0) (c:=0) (B_lit _) g2 g3 g4 k2 k3 k4
  exact⟨_,_,_,_,h,rfl,j1,j2,j3⟩
theorem m_imp {x y:Pr} (hx:M xs x 1) (hy:M xs y 0):M xs (.bi .imp x y) 0:=by
 intro n a h0 hn hA hS
 obtain⟨e1,e2⟩:=tokR_of (t:=.bi .imp x y) (r:=0) (by omega)
 have htk:(Pr.bi .imp x y).tok=x.tokR 1++(4,[61,62])::y.tokR 0:=rfl
 have hnd:(Pr.bi .imp x y).nd=max (x.ndR 1) (1+y.ndR 0):=rfl
 rw[e1,htk]at hA hS ⊢
 rw[e2,hnd]at hn
 obtain⟨m,rfl⟩:∃m,n=m+1:=⟨n - 1,by omega⟩
 obtain⟨hA1,⟨q,hq⟩,hA3⟩:=At.app hA
 obtain⟨op,nm,ks,p,f,g1,g2,g3,g4⟩:=hx (m+1) a h0 (by omega) hA1 (stop_at hq (fun o' h=>by cases o'<;>first|decide|exact absurd h (by decide)))
 have hlen:a+((x.tokR 1++(4,[61,62])::y.tokR 0).length:Nat)=a+((x.tokR 1).length:Nat)+1+((y.tokR 0).length:Nat):=by simp only[List.length_append,List.length_cons];omega
 rw[hlen]at hS ⊢
 obtain⟨op2,nm2,ks2,p2,f2,k1,k2,k3,k4⟩:=hy m (a+((x.tokR 1).length:Nat)+1) (by omega) (by omega) hA3 hS
 have g1':chainP xs ⟨#[124]⟩ (kP xs (pUntl xs (m+1))) a=_:=g1
 have k1':pImply xs m (a+((x.tokR 1).length:Nat)+1)=_:=k1
 obtain⟨h,j1,j2,j3⟩:=got_two (o:=.imp) (op:=⟨#[61,62]⟩) (p:=p) (a:=0) (b:=0) (c:=0) (B_lit _) g2 g3 g4 k2 k3 k4
 refine⟨_,_,_,_,h,?_,j1,j2,j3⟩
 show pImply xs (m+1) a=_
 rw[pImply_s]
 unfold implyP
 rw[g1']
 simp only[rightP,hq]
 rw[if_pos (by rw[isT_lit 4 [61,62] [61,62]];decide),k1']
theorem chain_two {x y:Pr} {rk:Nat} {o:B2} (hk:rk=1∧o=.or∨rk=2∧o=.and) (hx:C xs x rk) (hy:M xs y (rk+1)):C xs (.bi o x y) rk:=by
 have hrk:(Pr.bi o x y).rank=rk:=by rcases hk with⟨rfl,rfl⟩|⟨rfl,rfl⟩<;>rfl
 have hnd:(Pr.bi o x y).nd=max (x.ndR rk) (y.ndR (rk+1)):=by rcases hk with⟨rfl,rfl⟩|⟨rfl,rfl⟩<;>(simp only[Pr.nd,Pr.ndR,B2.lt,B2.rt,Nat.zero_add];rfl)
 have htk:(Pr.bi o x y).tok=x.tokR rk++o.tk::y.tokR (rk+1):=by rcases hk with⟨rfl,rfl⟩|⟨rfl,rfl⟩<;>rfl
 have hos:o.tk=(4,o.s):=by rcases hk with⟨rfl,rfl⟩|⟨rfl,rfl⟩<;>rfl
 have hop:opC rk=⟨o.s.toArray⟩:=by rcases hk with⟨rfl,rfl⟩|⟨rfl,rfl⟩<;>rfl
 have hone:oneC xs=fun n rk=>oneC xs n rk:=rfl
 intro n a h0 hn hA hS
 obtain⟨e1,e2⟩:=tokR_of (t:=.bi o x y) (r:=rk) (by omega)
 rw[e1,htk]at hA hS ⊢
 rw[e2,hnd]at hn
 obtain⟨hA1,hA2⟩:=At.app hA
 rw[hos]at hA2
 obtain⟨⟨q,hq⟩,hA3⟩:=hA2
 obtain⟨c,op,nm,ks,p,f,g1,g2,g3,g4,g5⟩:=hx n a h0 (by omega) hA1 (stop_at hq (fun o' h=>by
  rcases hk with⟨rfl,rfl⟩|⟨rfl,rfl⟩<;>cases o'<;>first|decide|exact absurd h (by decide)))
 have hlen:a+((x.tokR rk++o.tk::y.tokR (rk+1)).length:Nat)=a+((x.tokR rk).length:Nat)+1+((y.tokR (rk+1)).length:Nat):=by simp only[List.length_append,List.length_cons];omega
 rw[hlen]at hS ⊢
 obtain⟨op2,nm2,ks2,p2,f2,k1,k2,k3,k4⟩:=hy n (a+((x.tokR rk).length:Nat)+1) (by omega) (by omega) hA3 hS
 have k1':oneC xs n rk (a+((x.tokR rk).length:Nat)+1)=.ok op2 nm2 ks2 p2 (a+((x.tokR rk).length:Nat)+1+((y.tokR (rk+1)).length:Nat)):=by
  rcases hk with⟨rfl,rfl⟩|⟨rfl,rfl⟩<;>exact k1
 have hl:=at_len h0 hA1 (tok_ne x rk)
 obtain⟨m,hm⟩:∃m,xs.length+1 - c=m+1:=⟨xs.length - c,by omega⟩
 obtain⟨h,j1,j2,j3⟩:=got_two (o:=o) (op:=opC rk) (p:=p) (a:=0) (b:=0) (c:=0) (by rw[hop];exact B_lit _) g3 g4 g5 k2 k3 k4
 refine⟨c+1,opC rk,⟨#[]⟩,_,p,h,?_,by simp only[List.length_append,List.length_cons];omega,j1,j2,j3⟩
 rw[g1,hm]
 conv=>lhs;unfold chainL
 simp only[hq]
 rw[if_pos (by rw[hop,isT_lit];simp),k1',show xs.length+1 - (c+1)=m by omega]
theorem m_un {x:Pr} (o:U1) (hx:M xs x 4):M xs (.un o x) 4:=by
 intro n a h0 hn hA hS
 obtain⟨e1,e2⟩:=tokR_of (t:=.un o x) (r:=4) (by simp[Pr.rank])
 have htk:(Pr.un o x).tok=o.tk::x.tokR 4:=rfl
 have hnd:(Pr.un o x).nd=1+x.ndR 4:=rfl
 rw[e1,htk]at hA hS ⊢
 rw[e2,hnd]at hn
 obtain⟨m,rfl⟩:∃m,n=m+1:=⟨n - 1,by omega⟩
 have hlen:a+((o.tk::x.tokR 4).length:Nat)=a+1+((x.tokR 4).length:Nat):=by simp only[List.length_cons];omega
 rw[hlen]at hS ⊢
 have hc:∃c,o.tk=(c,o.s)∧(c=1∨c=4):=by cases o<;>exact⟨_,rfl,by first|exact .inl rfl|exact .inr rfl⟩
 obtain⟨c,hc,hc2⟩:=hc
 rw[hc]at hA
 obtain⟨⟨q,hq⟩,hA⟩:=hA
 obtain⟨op,nm,ks,p,f,g1,g2,g3,g4⟩:=hx m (a+1) (by omega) (by omega) hA hS
 have g1':(pf xs m).single (a+1)=_:=g1
 have hT:∀l:T8,isT c (B o.s) ⟨l.toArray⟩=(o.s==l):=fun l=>by rw[isT_lit];rcases hc2 with rfl|rfl<;>rfl
 refine⟨B o.s,⟨#[]⟩,[fmD op nm ks p],q,.mk (B o.s) ⟨#[]⟩ [f] q,?_,?_,?_,?_⟩
 ·show pSingle xs (m+1) a=_
  rw[pSingle_s]
  unfold singleP
  simp only[hq]
  rw[if_neg (by rcases hc2 with rfl|rfl<;>decide),if_neg (by rw[hT [116,114,117,101],hT [102,97,108,115,101]];cases o<;>decide),if_pos (by rw[hT [33],hT [88],hT [70],hT [71]];cases o<;>decide),g1']
 ·simp only[fmD]at g2 ⊢
  simp only[ofD,ofDL]at g2 ⊢
  simp only[g2]
 ·simp only[Fm.abs,u1A,B_list,u1_of,g3]
 ·simp only[Pr.fm,nd,sameF,sameL,g4,B_list,U1.b_s,beq_self_eq_true,Bool.and_true]
theorem m_leaf {t:Pr} (ht:t=.tt∨t=.ff∨∃s,t=.lab s):M xs t 4:=by
 have hr:¬t.rank<4:=by rcases ht with rfl|rfl|⟨s,rfl⟩<;>simp[Pr.rank]
 intro n a h0 hn hA hS
 obtain⟨e1,e2⟩:=tokR_of hr
 rw[e1]at hA hS ⊢
 obtain⟨m,rfl⟩:∃m,n=m+1:=⟨n - 1,by have:=t.ndR_pos 4;omega⟩
 show Got t _ (pSingle xs (m+1) a)
 rw[pSingle_s]
 unfold singleP
 rcases ht with rfl|rfl|⟨s,rfl⟩
 ·obtain⟨⟨q,hq⟩,_⟩:=hA
  simp only[hq]
  rw[if_neg (by decide),if_pos (.inl (by rw[isT_lit 1 oTrue [116,114,117,101]];decide))]
  exact⟨_,_,_,_,.mk (B oTrue) ⟨#[]⟩ [] q,rfl,rfl,by simp only[Fm.abs,B_list];rfl,by simp[Pr.fm,nd,bTrue,sameF,sameL,B_list,B_lit [116,114,117,101],oTrue]⟩
 ·obtain⟨⟨q,hq⟩,_⟩:=hA
  simp only[hq]
  rw[if_neg (by decide),if_pos (.inr (by rw[isT_lit 1 oFalse [102,97,108,115,101]];decide))]
  exact⟨_,_,_,_,.mk (B oFalse) ⟨#[]⟩ [] q,rfl,rfl,by simp only[Fm.abs,B_list];rfl,by simp[Pr.fm,nd,bFalse,sameF,sameL,B_list,B_lit [102,97,108,115,101],oFalse]⟩
 ·obtain⟨⟨q,hq⟩,_⟩:=hA
  have hB:B s.toList=s:=toList_inj (by rw[B_list])
  rw[hB]at hq
  simp only[hq]
  rw[if_pos (by decide)]
  exact⟨_,_,_,_,.mk ⟨#[108,97,98,101,108]⟩ s [] q,rfl,rfl,by simp only[Fm.abs,B_lit [108,97,98,101,108]];rfl,by simp only[Pr.fm,labF,sameF,sameL,beq_self_eq_true,Bool.and_true]⟩
theorem m_all:∀(t:Pr),M xs t 0∧M xs t 1∧M xs t 2∧M xs t 3∧M xs t 4∧C xs t 1∧C xs t 2:=by
 have hi:∀t:Pr,4≤t.rank→M xs t 4→M xs t 0∧M xs t 1∧M xs t 2∧M xs t 3∧M xs t 4∧C xs t 1∧C xs t 2:=fun t hr h4=>by
  have h3:=lift3 h4 (by omega)
  have c2:=chain_of (.inr rfl) h3 (by omega)
  have h2:=fin_chain (.inr rfl) c2
  have c1:=chain_of (.inl rfl) h2 (by omega)
  have h1:=fin_chain (.inl rfl) c1
  exact⟨lift0 h1 (by omega),h1,h2,h3,h4,c1,c2⟩
 intro t
 induction t with
 |tt=>exact hi _ (by decide) (m_leaf (.inl rfl))
 |ff=>exact hi _ (by decide) (m_leaf (.inr (.inl rfl)))
 |lab s=>exact hi _ (by simp[Pr.rank]) (m_leaf (.inr (.inr ⟨s,rfl⟩)))
 |un o x ih=>exact hi _ (by simp[Pr.rank]) (m_un o ih.2.2.2.2.1)
 |bi o x y ihx ihy=>
  obtain⟨x0,x1,x2,x3,x4,xc1,xc2⟩:=ihx
  obtain⟨y0,y1,y2,y3,y4,yc1,yc2⟩:=ihy
  have u3:∀o:B2,(o=.U∨o=.W∨o=.R)→M xs (.bi o x y) 0∧M xs (.bi o x y) 1∧M xs (.bi o x y) 2∧M xs (.bi o x y) 3∧M xs (.bi o x y) 4∧C xs (.bi o x y) 1∧C xs (.bi o x y) 2:=fun o ho=>by
   have hr:(Pr.bi o x y).rank=3:=by rcases ho with rfl|rfl|rfl<;>rfl
   have h3:=m_two ho x4 y3
   have c2:=chain_of (.inr rfl) h3 (by omega)
   have h2:=fin_chain (.inr rfl) c2
   have c1:=chain_of (.inl rfl) h2 (by omega)
   have h1:=fin_chain (.inl rfl) c1
   have h0:=lift0 h1 (by omega)
   exact⟨h0,h1,h2,h3,paren h0 (by omega),c1,c2⟩
  cases o with
  |U=>exact u3 .U (.inl rfl)
  |W=>exact u3 .W (.inr (.inl rfl))
  |R=>exact u3 .R (.inr (.inr rfl))
  |and=>
   have hr:(Pr.bi .and x y).rank=2:=rfl
   have c2:=chain_two (.inr ⟨rfl,rfl⟩) xc2 y3
   have h2:=fin_chain (.inr rfl) c2
   have c1:=chain_of (.inl rfl) h2 (by omega)
   have h1:=fin_chain (.inl rfl) c1
   have h0:=lift0 h1 (by omega)
   have h4:=paren h0 (by omega)
   exact⟨h0,h1,h2,lift3 h4 (by omega),h4,c1,c2⟩
  |or=>
   have hr:(Pr.bi .or x y).rank=1:=rfl
   have c1:=chain_two (.inl ⟨rfl,rfl⟩) xc1 y2
   have h1:=fin_chain (.inl rfl) c1
   have h0:=lift0 h1 (by omega)
   have h4:=paren h0 (by omega)
   have h3:=lift3 h4 (by omega)
   have c2:=chain_of (.inr rfl) h3 (by omega)
   exact⟨h0,h1,fin_chain (.inr rfl) c2,h3,h4,c1,c2⟩
  |imp=>
   have hr:(Pr.bi .imp x y).rank=0:=rfl
   have h0:=m_imp x1 y0
   have h4:=paren h0 (by omega)
   have h3:=lift3 h4 (by omega)
   have c2:=chain_of (.inr rfl) h3 (by omega)
   have h2:=fin_chain (.inr rfl) c2
   have c1:=chain_of (.inl rfl) h2 (by omega)
   exact⟨h0,fin_chain (.inl rfl) c1,h2,h3,h4,c1,c2⟩
end
end Go.Sc
namespace Go.Sc
open Go Go.Cm
inductive LX:T8→List Tk→Prop where
 |nil:LX [] []
 |cons {l:T8} {c:Int} {t:T8} {m:Nat} {r:List Tk}:l≠[]→oneL l=.inr (c,t,m)→0<m→m≤l.length→LX ((l.drop m).drop (blankL (l.drop m))) r→LX l ((c,t)::r)
def Toks (ts:List Tok) (us:List Tk):Prop:=ts.map (fun t=>(t.1,t.2.1))=us++[(0,[])]
theorem toks_of {l:T8} {us:List Tk} (h:LX l us):∀(n p:Nat),l.length<n→∃ts,toksL n l p=.inr ts∧Toks ts us:=by
 induction h with
 |nil=>
  intro n p hn
  obtain⟨m,rfl⟩:∃m,n=m+1:=⟨n - 1,by omega⟩
  exact⟨[(0,[],p)],rfl,rfl⟩
 |@cons l c t m r h1 h2 h3 h4 _ ih=>
  intro n p hn
  obtain⟨k,rfl⟩:∃k,n=k+1:=⟨n - 1,by omega⟩
  obtain⟨ts,e1,e2⟩:=ih k (p+m+blankL (l.drop m)) (by simp only[List.length_drop];omega)
  refine⟨(c,t,p)::ts,?_,by unfold Toks at e2 ⊢;simp only[List.map_cons,e2,List.cons_append]⟩
  unfold toksL
  cases l with
  |nil=>exact(h1 rfl).elim
  |cons x l=>
   simp only
   rw[h2]
   simp only
   rw[e1]
theorem tokS_of {l:T8} {us:List Tk} (h:LX (l.drop (blankL l)) us):∃ts,tokS l=.inr ts∧Toks ts us:=by
 unfold tokS
 exact toks_of h _ _ (by simp only[List.length_drop];omega)
theorem at_toks:∀{us:List Tk} {ts:List Tok} {pre:List Tok},ts.map (fun t=>(t.1,t.2.1))=us++[(0,[])]→At ((pre++ts).map tokT) (pre.length:Nat) (us++[(0,[])])
 |[],ts,pre,h=>by
  obtain⟨t,rfl⟩:∃t,ts=[t]:=List.length_eq_one_iff.1 (by have:=congrArg List.length h;simpa using this)
  obtain⟨c,l,q⟩:=t
  simp at h
  obtain⟨rfl,rfl⟩:=h
  refine⟨⟨q,?_⟩,trivial⟩
  unfold tk
  simp[tokT,tkD]
 |(c,l)::us,ts,pre,h=>by
  cases ts with
  |nil=>simp at h
  |cons t ts=>
   obtain⟨c',l',q⟩:=t
   simp only[List.map_cons,List.cons_append,List.cons.injEq,Prod.mk.injEq]at h
   obtain⟨⟨rfl,rfl⟩,h⟩:=h
   refine⟨⟨q,?_⟩,?_⟩
   ·unfold tk
    simp[tokT,tkD]
   ·have:=at_toks (pre:=pre++[(c',l',q)]) h
    rw[List.append_assoc]at this
    simpa using this
def labOk (s:T8):Prop:=0<s.length∧s.length≤32∧∀c∈s,c≠34∧32≤c.toNat∧c.toNat≤126
def Pr.lok:Pr→Prop
 |.lab s=>labOk s.toList
 |.un _ a=>a.lok
 |.bi _ a b=>a.lok∧b.lok
 |_=>True
def parX (r k:Nat) (l:T8):T8:=if k<r then 40::(l++[41])else l
def Pr.txt:Pr→T8
 |.tt=>oTrue
 |.ff=>oFalse
 |.lab s=>34::(s.toList++[34])
 |.un .no a=>33::parX 4 a.rank a.txt
 |.un o a=>o.s++32::parX 4 a.rank a.txt
 |.bi o a b=>parX o.lt a.rank a.txt++32::(o.s++32::parX o.rt b.rank b.txt)
def Foll (l:T8):Prop:=l=[]∨(∃r,l=41::r)∨∃x r,l=32::x::r∧isWs x=false∧x≠47
def LB (l:T8) (us:List Tk):Prop:=LX (l.drop (blankL l)) us
theorem blank_no {x:UInt8} {r:T8} (h:isWs x=false) (h2:x≠47):blankL (x::r)=0:=by
 unfold blankL
 rw[if_neg (by simp[h])]
 split
 ·rename_i e;exact(h2 rfl).elim
 ·rfl
theorem blank_one {x:UInt8} {r:T8} (h:isWs x=false) (h2:x≠47):blankL (32::x::r)=1:=by
 unfold blankL
 rw[if_pos (by decide),blank_no h h2]
theorem LX.step {w rest:T8} {c:Int} {t:T8} {us:List Tk} (hw:w≠[]) (h:oneL (w++rest)=.inr (c,t,w.length)) (hb:LB rest us):LX (w++rest) ((c,t)::us):=by
 refine LX.cons (by simp[hw]) h (List.length_pos_iff.2 hw) (by simp) ?_
 rw[List.drop_left]
 exact hb
theorem lb_tok {x:UInt8} {r:T8} {us:List Tk} (h:isWs x=false) (h2:x≠47) (hl:LX (x::r) us):LB (x::r) us∧LB (32::x::r) us:=by
 unfold LB
 rw[blank_no h h2,blank_one h h2]
 exact⟨hl,hl⟩
theorem foll_kind {rest:T8} (h:Foll rest):∀c r,rest=c::r→(c=41∨c=32):=by
 intro c r e
 rcases h with h|⟨q,h⟩|⟨x,q,h,_⟩
 ·rw[h]at e;cases e
 ·rw[h]at e;cases e;exact .inl rfl
 ·rw[h]at e;cases e;exact .inr rfl
theorem run_name {w rest:T8} (hw:∀c∈w,(kindI c.toNat==1||kindI c.toNat==2)=true) (h:Foll rest):runL (fun k=>k==1||k==2) (w++rest)=w.length:=by
 unfold runL
 have:(w++rest).takeWhile (fun c=>kindI c.toNat==1||kindI c.toNat==2)=w:=by
  induction w with
  |nil=>
   cases rest with
   |nil=>rfl
   |cons c r=>
    rcases foll_kind h c r rfl with rfl|rfl<;>rfl
  |cons c w ih=>
   rw[List.cons_append,List.takeWhile_cons,if_pos (hw c (.head _)),ih fun d hd=>hw d (.tail _ hd)]
 rw[this]
theorem one_name {c:UInt8} {w rest:T8} (hc:kindI c.toNat=1) (hw:∀d∈c::w,(kindI d.toNat==1||kindI d.toNat==2)=true) (h:Foll rest):oneL ((c::w)++rest)=.inr (1,c::w,(c::w).length):=by
 have hr:=run_name hw h
 unfold oneL
 simp only[List.cons_append]at hr ⊢
 rw[if_pos hc,hr]
 simp
theorem one_sign {c:UInt8} {rest:T8} (hc:c=38∨c=124∨c=40∨c=41):oneL ([c]++rest)=.inr (4,[c],[c].length):=by
 rcases hc with rfl|rfl|rfl|rfl<;>(unfold oneL;simp only[List.cons_append,List.nil_append];rw[if_neg (by decide),if_neg (by decide),if_neg (by decide),if_pos (by decide)];rfl)
theorem one_not {x:UInt8} {rest:T8} (hx:x≠61):oneL ([33]++x::rest)=.inr (4,[33],[(33:UInt8)].length):=by
 have hm:markL (33::x::rest)=1:=by
  unfold markL marks
  simp only[List.any_cons,List.any_nil,List.isPrefixOf,Bool.or_false]
  simp[Ne.symm hx]
 unfold oneL
 simp only[List.cons_append,List.nil_append]
 rw[if_neg (by decide),if_neg (by decide),if_neg (by decide),if_pos (by decide),hm]
 rfl
theorem one_imp {rest:T8}:oneL ([61,62]++rest)=.inr (4,[61,62],[(61:UInt8),62].length):=by
 unfold oneL
 simp only[List.cons_append,List.nil_append]
 rw[if_neg (by decide),if_neg (by decide),if_neg (by decide),if_pos (by decide)]
 rfl
theorem one_label {s rest:T8} (h:labOk s):oneL ((34::(s++[34]))++rest)=.inr (3,s,(34::(s++[34])).length):=by
 obtain⟨h1,h2,h3⟩:=h
 have ht:(s++34::rest).takeWhile (fun c=>c != 34)=s:=by
  have:∀s:T8,(∀c∈s,c≠34)→(s++34::rest).takeWhile (fun c=>c != 34)=s:=by
   intro s
   induction s with
   |nil=>intro _;rfl
   |cons c s ih=>intro hs;rw[List.cons_append,List.takeWhile_cons,if_pos (by simpa using hs c (.head _)),ih fun d hd=>hs d (.tail _ hd)]
  exact this s fun c hc=>(h3 c hc).1
 have hq:quotedL (34::(s++34::rest))=s.length+2:=by
  unfold quotedL
  simp only[ht]
  rw[if_neg (by simp),if_neg (by omega),if_pos]
  rw[List.take_left,List.all_eq_true]
  intro c hc
  have:=(h3 c hc).2
  simp only[Bool.and_eq_true,decide_eq_true_eq]
  exact this
 unfold oneL
 simp only[List.cons_append,List.append_assoc,List.nil_append]
 rw[if_neg (by decide),if_neg (by decide),if_pos (by decide),hq,if_pos (by omega)]
 simp
theorem txt_head:∀t:Pr,∃x r,t.txt=x::r∧isWs x=false∧x≠47∧x≠61
 |.tt=>⟨116,_,rfl,by decide,by decide,by decide⟩
 |.ff=>⟨102,_,rfl,by decide,by decide,by decide⟩
 |.lab s=>⟨34,_,rfl,by decide,by decide,by decide⟩
 |.un .no a=>⟨33,_,rfl,by decide,by decide,by decide⟩
 |.un .X a=>⟨88,_,rfl,by decide,by decide,by decide⟩
 |.un .F a=>⟨70,_,rfl,by decide,by decide,by decide⟩
 |.un .G a=>⟨71,_,rfl,by decide,by decide,by decide⟩
 |.bi o a b=>by
  simp only[Pr.txt,parX]
  split
  ·exact⟨40,_,rfl,by decide,by decide,by decide⟩
  ·obtain⟨x,r,e,h⟩:=txt_head a
   rw[e]
   exact⟨x,_,rfl,h⟩
theorem par_head (r:Nat) (t:Pr):∃x q,parX r t.rank t.txt=x::q∧isWs x=false∧x≠47∧x≠61:=by
 unfold parX
 split
 ·exact⟨40,_,rfl,by decide,by decide,by decide⟩
 ·exact txt_head t
def PX (t:Pr):Prop:=∀rest us,Foll rest→LB rest us→LX (t.txt++rest) (t.tok++us)
theorem px_par {t:Pr} (h:PX t) (r:Nat):∀rest us,Foll rest→LB rest us→LX (parX r t.rank t.txt++rest) (parT r t.rank t.tok++us):=by
 intro rest us hf hb
 unfold parX parT
 split
 ·have h1:LX ([41]++rest) ((4,[41])::us):=LX.step (by simp) (one_sign (.inr (.inr (.inr rfl)))) hb
  have h2:=h ([41]++rest) ((4,[41])::us) (.inr (.inl ⟨_,rfl⟩)) (lb_tok (by decide) (by decide) h1).1
  obtain⟨x,q,e,g1,g2,_⟩:=txt_head t
  rw[e]at h2
  have h3:=LX.step (w:=[40]) (by simp) (one_sign (.inr (.inr (.inl rfl)))) (lb_tok g1 g2 h2).1
  rw[e]
  simpa[List.append_assoc]using h3
 ·exact h rest us hf hb
theorem px_all:∀t:Pr,t.lok→PX t
 |.tt,_=>fun rest us hf hb=>LX.step (w:=oTrue) (by decide) (one_name (c:=116) (w:=[114,117,101]) (by decide) (by decide) hf) hb
 |.ff,_=>fun rest us hf hb=>LX.step (w:=oFalse) (by decide) (one_name (c:=102) (w:=[97,108,115,101]) (by decide) (by decide) hf) hb
 |.lab s,h=>fun rest us hf hb=>LX.step (by simp[Pr.txt]) (one_label h) hb
 |.un o a,h=>fun rest us hf hb=>by
  have h1:=px_par (px_all a h) 4 rest us hf hb
  obtain⟨x,q,e,g1,g2,g3⟩:=par_head 4 a
  have name:∀c:UInt8,o.s=[c]→o.tk=(1,[c])→kindI c.toNat=1→(Pr.un o a).txt=o.s++32::parX 4 a.rank a.txt→LX ((Pr.un o a).txt++rest) ((Pr.un o a).tok++us):=fun c e1 e2 e3 e4=>by
   rw[e4,e1]
   simp only[Pr.tok,e2]
   rw[e]at h1 ⊢
   have:=LX.step (w:=[c]) (rest:=32::x::q++rest) (by simp) (one_name (w:=[]) e3 (fun d hd=>by rw[List.mem_singleton.1 hd,e3];rfl) (.inr (.inr ⟨x,q++rest,rfl,g1,g2⟩))) (lb_tok g1 g2 h1).2
   simpa[List.append_assoc]using this
  cases o with
  |no=>
   simp only[Pr.txt,Pr.tok,U1.tk]
   rw[e]at h1 ⊢
   have:=LX.step (w:=[33]) (rest:=x::q++rest) (by simp) (one_not g3) (lb_tok g1 g2 h1).1
   simpa[List.append_assoc]using this
  |X=>exact name 88 rfl rfl (by decide) rfl
  |F=>exact name 70 rfl rfl (by decide) rfl
  |G=>exact name 71 rfl rfl (by decide) rfl
 |.bi o a b,h=>fun rest us hf hb=>by
  have h1:=px_par (px_all b h.2) o.rt rest us hf hb
  obtain⟨x,q,e,g1,g2,g3⟩:=par_head o.rt b
  rw[e]at h1
  have ho:oneL (o.s++(32::x::q++rest))=.inr (o.tk.1,o.tk.2,o.s.length):=by
   have hF:Foll (32::x::q++rest):=.inr (.inr ⟨x,q++rest,rfl,g1,g2⟩)
   cases o with
   |and=>exact one_sign (.inl rfl)
   |or=>exact one_sign (.inr (.inl rfl))
   |imp=>exact one_imp
   |U=>exact one_name (w:=[]) (by decide) (by decide) hF
   |W=>exact one_name (w:=[]) (by decide) (by decide) hF
   |R=>exact one_name (w:=[]) (by decide) (by decide) hF
  have hne:o.s≠[]:=by cases o<;>decide
  have h2:LX (o.s++(32::x::q++rest)) (o.tk::(parT o.rt b.rank b.tok++us)):=LX.step hne ho (lb_tok g1 g2 h1).2
  obtain⟨y,z,e2,k1,k2,_⟩:∃y z,o.s=y::z∧isWs y=false∧y≠47∧True:=by cases o<;>exact⟨_,_,rfl,by decide,by decide,trivial⟩
  rw[e2]at h2
  have h3:=px_par (px_all a h.1) o.lt (32::(y::z++(32::x::q++rest))) (o.tk::(parT o.rt b.rank b.tok++us)) (.inr (.inr ⟨y,_,rfl,k1,k2⟩)) (lb_tok k1 k2 h2).2
  simp only[Pr.txt,Pr.tok]
  rw[e,e2]
  simpa[List.append_assoc]using h3
theorem tok_txt (t:Pr) (h:t.lok):∃ts,tokS t.txt=.inr ts∧Toks ts t.tok:=by
 obtain⟨x,r,e,h1,h2,_⟩:=txt_head t
 have:=px_all t h [] [] (.inl rfl) (by unfold LB;rw[List.drop_nil];exact LX.nil)
 rw[List.append_nil,List.append_nil]at this
 refine tokS_of ?_
 rw[e,blank_no h1 h2,List.drop_zero, ←e]
 exact this
end Go.Sc
namespace Go.Sc
open Go Go.Cm
theorem toL_append (a b:ByteArray):(a++b).toList=a.toList++b.toList:=by
 rw[ByteArray.toList_eq,ByteArray.toList_eq,ByteArray.toList_eq,ByteArray.data_append,Array.toList_append]
def B2.rk:B2→Int
 |.imp=>0|.or=>1|.and=>2|_=>3
theorem read_txt {t:Pr} (h:t.lok) {ts:List Tok} (e:tokS t.txt=.inr ts) (n:Nat) (hn:t.nd≤n):Got t (t.tok.length:Nat) (pImply (ts.map tokT) n 0):=by
 obtain⟨ts',e1,e2⟩:=tok_txt t h
 rw[e]at e1;cases e1
 have hA:=at_toks (pre:=[]) e2
 obtain⟨hA1,hA2⟩:=At.app hA
 obtain⟨⟨q,hq⟩,_⟩:=hA2
 obtain⟨z1,z2⟩:=tokR_of (t:=t) (r:=0) (by omega)
 have g:=(m_all (xs:=ts.map tokT) t).1 n 0 (by omega) (by rw[z2];exact hn) (by rw[z1];simpa using hA1) (by
  rw[z1]
  refine stop_at (c:=0) (l:=[]) (p:=q) (by simpa using hq) fun o _=>by cases o<;>decide)
 rw[z1,Int.zero_add]at g
 exact g
theorem txt_inj {t u:Pr} (h:t.lok) (k:u.lok) (e:t.txt=u.txt):t=u:=by
 obtain⟨ts,e1,_⟩:=tok_txt t h
 obtain⟨op,nm,ks,p,f,g1,g2,g3,_⟩:=read_txt h e1 (max t.nd u.nd) (by omega)
 rw[e]at e1
 obtain⟨op',nm',ks',p',f',k1,k2,k3,_⟩:=read_txt k e1 (max t.nd u.nd) (by omega)
 rw[g1]at k1
 injection k1 with q1 q2 q3 q4 q5
 subst q1;subst q2;subst q3;subst q4
 rw[g2]at k2;cases k2
 rw[g3]at k3;cases k3
 rfl
end Go.Sc
namespace Go.Sc
open Go Go.Cm
def B2.rkN:B2→Nat
 |.imp=>0|.or=>1|.and=>2|_=>3
theorem ndR_mono (t:Pr) {r r':Nat} (h:r≤r'):t.ndR r≤t.ndR r':=by
 unfold Pr.ndR
 split<;>split<;>omega
def Ok2 (n r:Nat) (op nm:ByteArray) (ks:List D) (p:Int):Prop:=∃f t,ofD (fmD op nm ks p)=some f∧f.abs=some t∧t.lok∧t.ndR r≤n
def G2 (n r:Nat):PR→Prop
 |.ok op nm ks p _=>Ok2 n r op nm ks p
 |_=>True
def LabX (xs:List D):Prop:=∀a c t p,tk xs a=some (c,t,p)→c=3→labOk t.toList
theorem Ok2.pos {n r:Nat} {op nm:ByteArray} {ks:List D} {p:Int} (q:Int) (h:Ok2 n r op nm ks p):Ok2 n r op nm ks q:=by
 obtain⟨f,t,h1,h2,h3,h4⟩:=h
 obtain⟨fs,e,rfl⟩:=ofD_mk h1
 exact⟨.mk op nm fs q,t,by simp only[fmD,ofD,e],by rw[←h2];unfold Fm.abs;rfl,h3,h4⟩
theorem Ok2.le {n r n' r':Nat} {op nm:ByteArray} {ks:List D} {p:Int} (h:Ok2 n r op nm ks p) (hn:n≤n') (hr:r'≤r):Ok2 n' r' op nm ks p:=by
 obtain⟨f,t,h1,h2,h3,h4⟩:=h
 exact⟨f,t,h1,h2,h3,Nat.le_trans (ndR_mono t hr) (Nat.le_trans h4 hn)⟩
theorem Ok2.two {n1 n2:Nat} {op o1 m1 o2 m2:ByteArray} {k1 k2:List D} {p1 p2:Int} {o:B2} {r n:Nat} (ho:op.toList=o.s) (h:Ok2 n1 o.lt o1 m1 k1 p1) (k:Ok2 n2 o.rt o2 m2 k2 p2) (p:Int)
  (h1:n1≤n) (h2:(match o with|.and=>0|.or=>0|_=>1)+n2≤n) (hr:r≤o.rkN):Ok2 n r op ⟨#[]⟩ [fmD o1 m1 k1 p1,fmD o2 m2 k2 p2] p:=by
 obtain⟨f,t,a1,a2,a3,a4⟩:=h
 obtain⟨g,u,b1,b2,b3,b4⟩:=k
 refine⟨.mk op ⟨#[]⟩ [f,g] p,.bi o t u,?_,?_,⟨a3,b3⟩,?_⟩
 ·simp only[fmD]at a1 b1 ⊢
  simp only[ofD,ofDL]at a1 b1 ⊢
  simp only[a1,b1]
 ·simp only[Fm.abs,b2A,ho,b2_of,a2,b2]
 ·have hk:¬(Pr.bi o t u).rank<r:=by cases o<;>simp only[Pr.rank]<;>simp only[B2.rkN]at hr<;>omega
  rw[(tokR_of hk).2]
  unfold Pr.ndR at a4 b4
  simp only[Pr.nd]
  cases o<;>simp only at h2 ⊢ <;>omega
section
variable {xs:List D}
theorem g2_chainL {n rk:Nat} {o:B2} {op:ByteArray} (ho:op.toList=o.s) (hk:rk=1∧o=.or∨rk=2∧o=.and) (one:Int→PR) (h1:∀a,G2 n (rk+1) (one a)):
  ∀(m:Nat) (q nm:ByteArray) (ks:List D) (p a:Int),Ok2 n rk q nm ks p→G2 n rk (chainL xs op one m q nm ks p a)
 |0,_,_,_,_,_,_=>trivial
 |m+1,q,nm,ks,p,a,hb=>by
  unfold chainL
  split
  ·trivial
  ·split
   ·have:=h1 (a+1)
    split
    ·rename_i e;rw[e]at this
     refine g2_chainL ho hk one h1 m _ _ _ _ _ ?_
     rcases hk with⟨rfl,rfl⟩|⟨rfl,rfl⟩
     ·exact Ok2.two ho hb this _ (Nat.le_refl _) (by simp) (Nat.le_refl _)
     ·exact Ok2.two ho hb this _ (Nat.le_refl _) (by simp) (Nat.le_refl _)
    all_goals trivial
   ·exact hb
theorem g2_chainP {n rk:Nat} {o:B2} {op:ByteArray} (ho:op.toList=o.s) (hk:rk=1∧o=.or∨rk=2∧o=.and) (one:Int→PR) (h1:∀a,G2 n (rk+1) (one a)) (a:Int):G2 n rk (chainP xs op one a):=by
 have:=h1 a
 unfold chainP
 split
 ·rename_i e;rw[e]at this
  exact g2_chainL ho hk one h1 _ _ _ _ _ _ (Ok2.le this (Nat.le_refl _) (by omega))
 all_goals trivial
theorem g2_rightP {n m lt rt r:Nat} (one:Int→PR) (h1:∀a,G2 m rt (one a)) (hm:1+m≤n) (hr:r≤lt) {o nm:ByteArray} {ks:List D} {p:Int} (hx:Ok2 n lt o nm ks p):
  ∀(ops:List ByteArray) (a:Int),(∀op∈ops,∃o:B2,op.toList=o.s∧o.lt=lt∧o.rt=rt∧r≤o.rkN)→G2 n r (rightP xs one o nm ks p ops a)
 |[],a,_=>Ok2.le hx (Nat.le_refl _) hr
 |op::ops,a,ho=>by
  unfold rightP
  split
  ·trivial
  ·split
   ·have:=h1 (a+1)
    obtain⟨q,hq,e1,e2,e3⟩:=ho op (.head _)
    split
    ·rename_i e;rw[e]at this
     subst e1;subst e2
     exact Ok2.two hq hx this _ (Nat.le_refl _) (by cases q<;>simp only<;>omega) e3
    all_goals trivial
   ·exact g2_rightP one h1 hm hr hx ops a fun x hx=>ho x (.tail _ hx)
theorem g2_singleP {m:Nat} (hx:LabX xs) (P:PF) (h1:∀a,G2 m 4 (P.single a)) (h2:∀a,G2 m 0 (P.imply a)) (a:Int):G2 (m+1) 4 (singleP xs P a):=by
 unfold singleP
 split
 ·trivial
 ·rename_i c t p hk
  split
  ·rename_i hc
   refine⟨.mk ⟨#[108,97,98,101,108]⟩ t [] p,.lab t,rfl,?_,hx _ _ _ _ hk hc,by rw[(tokR_of (by simp[Pr.rank])).2];simp only[Pr.nd];omega⟩
   simp only[Fm.abs,show(⟨#[108,97,98,101,108]⟩:ByteArray).toList=oLabel from B_lit oLabel];rfl
  ·split
   ·rename_i h
    rcases h with h|h
    ·have e:=isT_s h
     rw[B_lit [116,114,117,101]]at e
     exact⟨.mk t ⟨#[]⟩ [] p,.tt,rfl,by simp only[Fm.abs,e];rfl,trivial,by rw[(tokR_of (by simp[Pr.rank])).2];simp only[Pr.nd];omega⟩
    ·have e:=isT_s h
     rw[B_lit [102,97,108,115,101]]at e
     exact⟨.mk t ⟨#[]⟩ [] p,.ff,rfl,by simp only[Fm.abs,e];rfl,trivial,by rw[(tokR_of (by simp[Pr.rank])).2];simp only[Pr.nd];omega⟩
   ·split
    ·rename_i h
     have ho:∃o:U1,t.toList=o.s:=by
      rcases h with h|h|h|h
      ·exact⟨.no,(isT_s h).trans (B_lit _)⟩
      ·exact⟨.X,(isT_s h).trans (B_lit _)⟩
      ·exact⟨.F,(isT_s h).trans (B_lit _)⟩
      ·exact⟨.G,(isT_s h).trans (B_lit _)⟩
     obtain⟨o,ho⟩:=ho
     have:=h1 (a+1)
     split
     ·rename_i e;rw[e]at this
      obtain⟨g,u,k1,k2,k3,k4⟩:=this
      refine⟨.mk t ⟨#[]⟩ [g] p,.un o u,?_,?_,k3,?_⟩
      ·simp only[fmD]at k1 ⊢
       simp only[ofD,ofDL]at k1 ⊢
       simp only[k1]
      ·simp only[Fm.abs,u1A,ho,u1_of,k2]
      ·rw[(tokR_of (by simp[Pr.rank])).2]
       show 1+u.ndR 4≤_
       omega
     all_goals trivial
    ·split
     ·have:=h2 (a+1)
      split
      ·rename_i e;rw[e]at this
       split
       ·trivial
       ·split
        ·obtain⟨f,u,k1,k2,k3,k4⟩:=Ok2.pos p this
         refine⟨f,u,k1,k2,k3,?_⟩
         rw[(tokR_of (t:=u) (r:=0) (by omega)).2]at k4
         unfold Pr.ndR
         split<;>omega
        ·trivial
      all_goals trivial
     ·trivial
theorem g2_deep (n r:Nat) (a:Int):G2 n r (deepP xs a):=by unfold deepP;split<;>trivial
theorem g2_pf (hx:LabX xs):∀n:Nat,(∀a,G2 n 4 ((pf xs n).single a))∧(∀a,G2 n 3 ((pf xs n).untl a))∧∀a,G2 n 0 ((pf xs n).imply a)
 |0=>⟨fun a=>g2_deep _ _ a,fun a=>g2_deep _ _ a,fun a=>g2_deep _ _ a⟩
 |n+1=>by
  obtain⟨h1,h2,h3⟩:=g2_pf hx n
  have s:=g2_singleP hx (pf xs n) h1 h3
  have u:∀a,G2 (n+1) 3 (untlP xs (singleP xs (pf xs n)) (pf xs n).untl a):=fun a=>by
   have:=s a
   unfold untlP
   split
   ·rename_i e;rw[e]at this
    refine g2_rightP (m:=n) (lt:=4) (rt:=3) _ h2 (by omega) (by omega) this _ _ fun op ho=>?_
    simp only[List.mem_cons,List.not_mem_nil,or_false]at ho
    rcases ho with rfl|rfl|rfl
    ·exact⟨.U,B_lit _,rfl,rfl,Nat.le_refl _⟩
    ·exact⟨.W,B_lit _,rfl,rfl,Nat.le_refl _⟩
    ·exact⟨.R,B_lit _,rfl,rfl,Nat.le_refl _⟩
   all_goals trivial
  refine⟨s,u,fun a=>?_⟩
  show G2 (n+1) 0 (implyP xs _ (pf xs n).imply a)
  have c:=g2_chainP (xs:=xs) (n:=n+1) (rk:=1) (o:=.or) (op:=⟨#[124]⟩) (B_lit _) (.inl ⟨rfl,rfl⟩) (kP xs (untlP xs (singleP xs (pf xs n)) (pf xs n).untl)) (fun a=>g2_chainP (rk:=2) (o:=.and) (op:=⟨#[38]⟩) (B_lit _) (.inr ⟨rfl,rfl⟩) _ u a) a
  unfold implyP
  split
  ·rename_i e;rw[e]at c
   refine g2_rightP (m:=n) (lt:=1) (rt:=0) _ h3 (by omega) (by omega) c _ _ fun op ho=>?_
   simp only[List.mem_cons,List.not_mem_nil,or_false]at ho
   subst ho
   exact⟨.imp,B_lit _,rfl,rfl,Nat.le_refl _⟩
  all_goals trivial
end
theorem quoted_lab {l:T8} (h:0<quotedL l):labOk ((l.drop 1).take (quotedL l - 2)):=by
 unfold quotedL at h ⊢
 cases l with
 |nil=>simp at h
 |cons x r=>
  simp only at h ⊢
  split at h
  ·simp at h
  ·rename_i c1
   rw[if_neg c1]
   split at h
   ·simp at h
   ·rename_i c2
    rw[if_neg c2]
    split at h
    ·rename_i c3
     rw[if_pos c3]
     simp only[List.drop_succ_cons,List.drop_zero,Nat.add_sub_cancel]
     have hp:r.take (r.takeWhile fun c=>c != 34).length=r.takeWhile fun c=>c != 34:=(List.prefix_iff_eq_take.1 (List.takeWhile_prefix _)).symm
     rw[hp]at c3 ⊢
     refine⟨by omega,by omega,fun c hc=>?_⟩
     have h1:=List.all_eq_true.1 c3 c hc
     simp only[Bool.and_eq_true,decide_eq_true_eq]at h1
     exact⟨by have:=takeWhile_all _ _ c hc;simpa using this,h1⟩
    ·simp at h
theorem one_lab {l t:T8} {m:Nat} {c:Int} (h:oneL l=.inr (c,t,m)) (hc:c=3):labOk t:=by
 unfold oneL at h
 split at h
 ·cases h
 ·simp only at h
  split at h
  ·cases h;cases hc
  ·split at h
   ·split at h
    ·cases h;cases hc
    ·cases h
   ·split at h
    ·split at h
     ·rename_i hq
      cases h
      exact quoted_lab hq
     ·cases h
    ·split at h
     ·split at h
      ·cases h
      ·cases h;cases hc
     ·cases h
theorem toks_lab:∀(n:Nat) (l:T8) (p:Nat) (r:List Tok),toksL n l p=.inr r→∀x∈r,x.1=3→labOk x.2.1
 |0,l,p,r,h=>by simp[toksL]at h
 |n+1,l,p,r,h=>by
  unfold toksL at h
  simp only at h
  split at h
  ·cases h
   intro x hx hc
   rw[List.mem_singleton.1 hx]at hc
   cases hc
  ·split at h
   ·cases h
   ·rename_i k t m e
    split at h
    ·cases h
    ·rename_i r' e'
     cases h
     intro x hx hc
     rcases List.mem_cons.1 hx with rfl|hx
     ·exact one_lab e hc
     ·exact toks_lab n _ _ _ e' x hx hc
theorem labX_of {l:T8} {ts:List Tok} (h:tokS l=.inr ts):LabX (ts.map tokT):=by
 intro a c t p hk hc
 have hk':=tk_some hk
 rw[List.getElem?_map]at hk'
 cases e:ts[a.toNat]? with
 |none=>rw[e]at hk';cases hk'
 |some x=>
  rw[e]at hk'
  obtain⟨c',l',q⟩:=x
  simp only[Option.map_some,tokT,Option.some.injEq,D.ag.injEq,List.cons.injEq,D.int.injEq,D.str.injEq,true_and,and_true]at hk'
  obtain⟨rfl,rfl,_⟩:=hk'
  rw[B_list]
  exact toks_lab _ _ _ _ h (c',l',q) (List.mem_of_getElem? e) hc
theorem parse_lok {s:ByteArray} {d:Int} {op nm:ByteArray} {ks:List D} {p:Int} (h:parseP s d=.ok op nm ks p):∃f t,ofD (fmD op nm ks p)=some f∧f.abs=some t∧t.lok∧(t.nd:Int)≤d∧1≤d∧d≤64:=by
 unfold parseP at h
 split at h
 ·cases h
 ·rename_i hd
  split at h
  ·cases h
  ·split at h
   ·cases h
   ·rename_i l hl
    have g:=(g2_pf (labX_of hl) d.toNat).2.2 0
    change G2 _ _ (pImply (l.map tokT) d.toNat 0)at g
    unfold endP at h
    cases hp:pImply (l.map tokT) d.toNat 0 with
    |ok o n k q a=>
     rw[hp]at h g
     simp only at h
     split at h
     ·split at h
      ·cases h
       obtain⟨f,t,g1,g2,g3,g4⟩:=g
       rw[(tokR_of (t:=t) (r:=0) (by omega)).2]at g4
       exact⟨f,t,g1,g2,g3,by omega,by omega,by omega⟩
      ·cases h
     ·cases h
    |syn=>rw[hp]at h;cases h
    |deep=>rw[hp]at h;cases h
    |no=>rw[hp]at h;cases h
end Go.Sc
set_option maxRecDepth 100000
namespace Go.Sc
open Go Go.Cm
def toN (b:Option Nat) (x:D):Bool:=match absD x with|some t=>decide (ltB b t.sz∧t.sz≤1000000)|none=>false
def T8.b (l:T8):ByteArray:=⟨l.toArray⟩
def Pr.shape:Pr→T8
 |.un o a=>40::(o.s++32::32::48::(a.shape++[41]))
 |.bi o a b=>40::(o.s++32::32::48::(a.shape++(b.shape++[41])))
 |.tt=>40::(oTrue++[32,32,48,41])
 |.ff=>40::(oFalse++[32,32,48,41])
 |.lab s=>40::(oLabel++32::(s.toList++[32,48,41]))
open Classical in
noncomputable def shpX (b:Option Nat) (x:D):Option ByteArray:=
 match absD x with
 |some t=>if x=t.fm.d∧ltB b t.sz∧t.shape.length≤9223372036854775807 then some (T8.b t.shape)else none
 |none=>none
open Classical in
noncomputable def barX (b:Option Nat) (x:D):Bool:=match absD x with|some t=>decide (x=t.fm.d∧ltB b t.sz∧t.sz≤1000000)|none=>false
def cntX (b:Option Nat) (x:D) (n:Bool):Option Int:=match absD x with|some t=>if ltB b t.sz then some (min ((t.nf n).sz:Int) 5000)else none|none=>none
def basF (op nm:ByteArray) (ks:List D):Option (ByteArray×ByteArray×List D):=
 if(op.toList==[61,62])=true then(match ks with|[a,c]=>some (⟨#[124]⟩,⟨#[]⟩,[fmD ⟨#[33]⟩ ⟨#[]⟩ [a] 0,c])|_=>none)
 else if(op.toList==[70])=true then(match ks with|[a]=>some (⟨#[85]⟩,⟨#[]⟩,[fmD ⟨#[116,114,117,101]⟩ ⟨#[]⟩ [] 0,a])|_=>none)
 else if(op.toList==[71])=true then(match ks with|[a]=>some (⟨#[82]⟩,⟨#[]⟩,[fmD ⟨#[102,97,108,115,101]⟩ ⟨#[]⟩ [] 0,a])|_=>none)
 else if(op.toList==[87])=true then(match ks with|[a,c]=>some (⟨#[82]⟩,⟨#[]⟩,[c,fmD ⟨#[124]⟩ ⟨#[]⟩ [a,c] 0])|_=>none)
 else some (op,nm,ks)
def isKB:D→Bool
 |.ag [.str _,.str _,.sl 5 _,.int .i64 _]=>true
 |_=>false
def Pr.ms:Pr→Nat
 |.un .no a=>a.ms+1
 |.un _ a=>a.ms+4
 |.bi .imp a b=>a.ms+b.ms+4
 |.bi .W a b=>a.ms+b.ms+b.ms+4
 |.bi _ a b=>a.ms+b.ms+1
 |_=>1
def nrmX (b:Option Nat) (x:D) (n:Bool):Option Pr:=
 match ofD x with
 |some f=>match f.abs with|some t=>if sameF f t.fm=true∧ltB b t.ms∧t.ms≤1000000000 then some (t.nf n)else none|none=>none
 |none=>none
def prtX (b:Option Nat) (x:D):Option ByteArray:=match absD x with|some t=>if ltB b t.sz∧t.txt.length≤9223372036854775807 then some (T8.b t.txt)else none|none=>none
def rankN (op:ByteArray):Int:=
 if(op.toList==[61,62])=true then 0 else if(op.toList==[124])=true then 1 else if(op.toList==[38])=true then 2
 else if(op.toList==[85])=true then 3 else if(op.toList==[87])=true then 3 else if(op.toList==[82])=true then 3
 else if(op.toList==[33])=true then 4 else if(op.toList==[88])=true then 4 else if(op.toList==[70])=true then 4 else if(op.toList==[71])=true then 4 else 5
open Classical in
noncomputable def simX (b:Option Nat) (x:D):Option Pr:=
 match absD x with
 |some t=>if x=t.fm.d∧t.ok=true∧t.lok∧ltB b t.sz∧t.sz≤4096 then some t.simp else none
 |none=>none
end Go.Sc
namespace Go.Sd
open Go Go.Cm Go.Proofs Go.Sc
def cLeaf {β:Type} (args:List TV) (k:List TV→List TV→Option β):Option β:=
 match args with
 |[.d true 0 (.str op)]=>k [.d true 5 (.ag [.str op,.str ⟨#[]⟩,.sl 5 [],.int .i64 0])] []
 |_=>none
def cTree {β:Type} (args:List TV) (k:List TV→List TV→Option β):Option β:=
 match args with
 |[.d true 0 (.str op),.d true 5 (.ag [.str o1,.str n1,.sl 5 k1,.int .i64 p1]),.d true 5 (.ag [.str o2,.str n2,.sl 5 k2,.int .i64 p2])]=>
  k [.d true 5 (.ag [.str op,.str ⟨#[]⟩,.sl 5 [.ag [.str o1,.str n1,.sl 5 k1,.int .i64 p1],.ag [.str o2,.str n2,.sl 5 k2,.int .i64 p2]],.int .i64 0])] []
 |_=>none
def cRank {β:Type} (args:List TV) (k:List TV→List TV→Option β):Option β:=
 match args with
 |[.d true 0 (.str op)]=>k [.d false 0 (.int .i64 (rankN op))] []
 |_=>none
def cDig0 {β:Type} (args:List TV) (k:List TV→List TV→Option β):Option β:=
 match args with
 |[.d true 0 (.int .i64 n)]=>if n=0 then k [.d false 0 (.str ⟨#[48]⟩)] []else none
 |_=>none
def cToN {β:Type} (b:Option Nat) (args:List TV) (k:List TV→List TV→Option β):Option β:=
 match args with
 |[.d true 5 x]=>if toN b x=true then k [.d true 5 x] []else none
 |_=>none
noncomputable def cShp {β:Type} (b:Option Nat) (args:List TV) (k:List TV→List TV→Option β):Option β:=
 match args with
 |[.d true 5 x]=>match shpX b x with|some s=>k [.d false 0 (.str s)] []|none=>none
 |_=>none
noncomputable def cBar {β:Type} (b:Option Nat) (args:List TV) (k:List TV→List TV→Option β):Option β:=
 match args with
 |[.d true 5 x]=>if barX b x=true then k [.d true 5 x] []else none
 |_=>none
def cCnt {β:Type} (b:Option Nat) (args:List TV) (k:List TV→List TV→Option β):Option β:=
 match args with
 |[.d true 5 x,.d true 0 (.bool n)]=>match cntX b x n with|some v=>k [.d false 0 (.int .i64 v)] []|none=>none
 |_=>none
def cBas {β:Type} (args:List TV) (k:List TV→List TV→Option β):Option β:=
 match args with
 |[.d true 5 (.ag [.str op,.str nm,.sl 5 ks,.int .i64 p])]=>match basF op nm ks with|some (o,n,l)=>chkK (ks.length≤4096∧ks.all isKB=true) (k [.d true 5 (.ag [.str o,.str n,.sl 5 l,.int .i64 0])] [])|none=>none
 |_=>none
def cNrm {β:Type} (b:Option Nat) (args:List TV) (k:List TV→List TV→Option β):Option β:=
 match args with
 |[.d true 5 x,.d true 0 (.bool n)]=>match nrmX b x n with|some t=>k [.d true 5 (prD t)] []|none=>none
 |_=>none
def cPrt {β:Type} (b:Option Nat) (args:List TV) (k:List TV→List TV→Option β):Option β:=
 match args with
 |[.d true 5 x]=>match prtX b x with|some s=>k [.d false 0 (.str s)] []|none=>none
 |_=>none
noncomputable def cSim {β:Type} (b:Option Nat) (args:List TV) (k:List TV→List TV→Option β):Option β:=
 match args with
 |[.d true 5 x]=>match simX b x with|some t=>k [.d true 5 (prD t)] []|none=>none
 |_=>none
def WToN (b:Option Nat):Env:=Env.none.add 11 io0 (cToN b)
noncomputable def WShp (b:Option Nat):Env:=(Env.none.add 54 io0 cDig0).add 33 io0 (cShp b)
noncomputable def WBar (b:Option Nat):Env:=Env.none.add 34 io0 (cBar b)
def WCnt (b:Option Nat):Env:=Env.none.add 31 io0 (cCnt b)
def WBas:Env:=(Env.none.add 57 io0 cLeaf).add 87 io0 cTree
def WNrm (b:Option Nat):Env:=(Env.none.add 53 io0 cBas).add 32 io0 (cNrm b)
def WPrt (b:Option Nat):Env:=(Env.none.add 90 io0 cRank).add 56 io0 (cPrt b)
noncomputable def WSim (b:Option Nat):Env:=((Env.none.add 57 io0 cLeaf).add 56 io0 (cPrt none)).add 36 io0 (cSim b)
end Go.Sd
namespace Go.Sd
open Go Go.Cm Go.Proofs Go.Sc
set_option maxRecDepth 100000
namespace N57
theorem start {β:Type} (op:ByteArray) (k:List TV→List TV→Option β):evalF Tryz.prog Env.none Tryz.f57 [.d true 0 (.str op)] k=k [.d true 5 (.ag [D.str op,D.str (ByteArray.mk #[]),D.sl 5 [],D.int .i64 0])] []:=by kernel_rfl
end N57
namespace N87
theorem start {β:Type} (o:ByteArray) (op:ByteArray) (nm:ByteArray) (ks:List D) (p:Int) (op2:ByteArray) (nm2:ByteArray) (ks2:List D) (p2:Int) (k:List TV→List TV→Option β):evalF Tryz.prog Env.none Tryz.f87 [.d true 0 (.str o),.d true 5 (.ag [D.str op,D.str nm,D.sl 5 ks,D.int .i64 p]),.d true 5 (.ag [D.str op2,D.str nm2,D.sl 5 ks2,D.int .i64 p2])] k=k [.d true 5 (.ag [D.str o,D.str (ByteArray.mk #[]),D.sl 5 [D.ag [D.str op,D.str nm,D.sl 5 ks,D.int .i64 p],D.ag [D.str op2,D.str nm2,D.sl 5 ks2,D.int .i64 p2]],D.int .i64 0])] []:=by kernel_rfl
end N87
namespace N90
noncomputable def X:Fx:=⟨Tryz.prog,Env.none,4,1⟩
noncomputable def j0 (op:ByteArray) (x37:Bool):S:=⟨Tm.mk 19 [(3,.d true 0 (.str op)),(10,.d false 0 (.bool x37))],[]⟩
noncomputable abbrev J0 {β:Type} (op:ByteArray) (k:List TV→List TV→Option β):S→Option β:=applyK X (finK Tryz.prog Tryz.f90 [.d true 0 (.str op)] k) [Kf.seq [(0,0)] (sub [1,0,1,0,1,1,1,1,1,1,1] (body Tryz.f90)) 0,Kf.cond 0,Kf.cond 0,Kf.cond 0,Kf.block 0 0,Kf.seq [] (sub [1,1] (body Tryz.f90)) 4] Ex.norm
theorem start {β:Type} (op:ByteArray) (k:List TV→List TV→Option β):evalF Tryz.prog Env.none Tryz.f90 [.d true 0 (.str op)] k=if(op.toList==[61,62])=true then k [.d false 0 (.int .i64 0)] []else if(op.toList==[124])=true then k [.d false 0 (.int .i64 1)] []else if(op.toList==[38])=true then k [.d false 0 (.int .i64 2)] []else if(op.toList==[85])=true then J0 op k (j0 op (op.toList==[85]))else if(op.toList==[87])=true then J0 op k (j0 op (op.toList==[87]))else J0 op k (j0 op (op.toList==[82])):=by kernel_rfl
theorem j0_eq {β:Type} (op:ByteArray) (x37:Bool) (k:List TV→List TV→Option β):J0 op k (j0 op x37)=if x37=true then k [.d false 0 (.int .i64 3)] []else if(op.toList==[33])=true then if(op.toList==[33])=true then k [.d false 0 (.int .i64 4)] []else k [.d false 0 (.int .i64 5)] []else if(op.toList==[88])=true then if(op.toList==[88])=true then k [.d false 0 (.int .i64 4)] []else k [.d false 0 (.int .i64 5)] []else if(op.toList==[70])=true then if(op.toList==[70])=true then k [.d false 0 (.int .i64 4)] []else k [.d false 0 (.int .i64 5)] []else if(op.toList==[71])=true then k [.d false 0 (.int .i64 4)] []else k [.d false 0 (.int .i64 5)] []:=by kernel_rfl
end N90
namespace N54
noncomputable def X:Fx:=⟨Tryz.prog,Env.none,4,1⟩
noncomputable def s0:S:=⟨Tm.mk 30 [(3,.d false 0 (.str (ByteArray.mk #[]))),(4,.d false 0 (.str (ByteArray.mk #[]))),(5,.d false 0 (.int .u64 0))],[]⟩
noncomputable def e0r:S:=⟨Tm.mk 30 [(2,.d false 0 (.str (ByteArray.mk #[]++(ByteArray.mk #[48]++ByteArray.mk #[]))))],[]⟩
noncomputable abbrev L0:S→Option (S ⊕ (Ex×S)):=roundK X [(0,4)] (sub [1,1,1,1,1,0,0] (body Tryz.f54))
theorem start {β:Type} (k:List TV→List TV→Option β):evalF Tryz.prog Env.none Tryz.f54 [.d true 0 (.int .i64 0)] k=goLp X [(0,4)] (sub [1,1,1,1,1,0,0] (body Tryz.f54)) [Kf.block 0 4] (finK Tryz.prog Tryz.f54 [.d true 0 (.int .i64 0)] k) s0:=by kernel_rfl
theorem round0:roundK X [(0,4)] (sub [1,1,1,1,1,0,0] (body Tryz.f54)) s0=some (Sum.inr (Ex.ret,e0r)):=by kernel_rfl
theorem behind0r {β:Type} (k:List TV→List TV→Option β):applyK X (finK Tryz.prog Tryz.f54 [.d true 0 (.int .i64 0)] k) [Kf.block 0 4] Ex.ret e0r=k [.d false 0 (.str (ByteArray.mk #[]++(ByteArray.mk #[48]++ByteArray.mk #[])))] []:=by kernel_rfl
end N54
namespace N53
noncomputable def X:Fx:=⟨Tryz.prog,WBas,4,1⟩
noncomputable def s0 (op:ByteArray) (nm:ByteArray) (ks:List D) (p:Int) (x52:List D) (x53:Bool) (x54:Int):S:=⟨Tm.mk 65 [(1,.rp 2 0),(2,.rp 3 0),(3,.own x53 5 x52),(4,.d false 0 (.int .i64 x54))],[(2,true,[.d true 0 (.str op),.d true 0 (.str nm),.d true 0 (.sl 5 ks),.d true 0 (.int .i64 p)]),(3,true,[.d false 0 (.str (ByteArray.mk #[])),.d false 0 (.str (ByteArray.mk #[])),.own false 5 [],.d false 0 (.int .i64 0)])]⟩
noncomputable def e0x0 (op:ByteArray) (nm:ByteArray) (ks:List D) (p:Int) (x121:List D) (x122:Bool):S:=⟨Tm.mk 65 [(1,.rp 2 0),(2,.rp 3 0),(3,.own x122 5 x121)],[(2,true,[.d true 0 (.str op),.d true 0 (.str nm),.d true 0 (.sl 5 ks),.d true 0 (.int .i64 p)]),(3,true,[.d false 0 (.str (ByteArray.mk #[])),.d false 0 (.str (ByteArray.mk #[])),.own false 5 [],.d false 0 (.int .i64 0)])]⟩
noncomputable abbrev L0:S→Option (S ⊕ (Ex×S)):=roundK X [(0,14)] (sub [1,1,0,1,0,0] (body Tryz.f53))
noncomputable abbrev G0 {β:Type} (op:ByteArray) (nm:ByteArray) (ks:List D) (p:Int) (k:List TV→List TV→Option β):S→Option β:=goLp X [(0,14)] (sub [1,1,0,1,0,0] (body Tryz.f53)) [Kf.block 0 14,Kf.seq [] (sub [1,1,1] (body Tryz.f53)) 4] (finK Tryz.prog Tryz.f53 [.d true 5 (.ag [D.str op,D.str nm,D.sl 5 ks,D.int .i64 p])] k)
theorem start {β:Type} (op:ByteArray) (nm:ByteArray) (ks:List D) (p:Int) (k:List TV→List TV→Option β):evalF Tryz.prog WBas Tryz.f53 [.d true 5 (.ag [D.str op,D.str nm,D.sl 5 ks,D.int .i64 p])] k=G0 op nm ks p k (s0 op nm ks p [] false (0:Int)):=by kernel_rfl
theorem round0 (op:ByteArray) (nm:ByteArray) (ks:List D) (p:Int) (x52:List D) (x53:Bool) (x54:Int):roundK X [(0,14)] (sub [1,1,0,1,0,0] (body Tryz.f53)) (s0 op nm ks p x52 x53 x54)=if decide (x54<(ks.length:Int))=true then if 0≤x54 then match ks[x54.toNat]? with
   |some x245=>match x245 with
    |D.ag xs246=>match xs246 with
     |x247::r248=>match x247 with
      |D.str s249=>match r248 with
       |x250::r251=>match x250 with
        |D.str s252=>match r251 with
         |x253::r254=>match x253 with
          |D.sl sh255 xs256=>if sh255=5 then match r254 with
           |x257::r258=>match x257 with
            |D.int j259 m260=>if j259=IntKind.i64 then match r258 with
             |[]=>if x52.length+1≤34359738368 then some (Sum.inl (s0 op nm ks p (x52++[D.ag [D.str s249,D.str s252,D.sl 5 xs256,D.int .i64 m260]]) (x53||true) (IntKind.wrap .i64 (x54+1))))else none
             |x=>none else none
            |x=>none
           |[]=>none else none
          |x=>none
         |[]=>none
        |x=>none
       |[]=>none
      |x=>none
     |[]=>none
    |x=>none
   |none=>none else none else some (Sum.inr (Ex.exit 0,e0x0 op nm ks p x52 x53)):=by kernel_rfl
theorem behind0x0 {β:Type} (op:ByteArray) (nm:ByteArray) (ks:List D) (p:Int) (x121:List D) (x122:Bool) (k:List TV→List TV→Option β) (s__:S) (h__:Lp L0 s__=some (Ex.exit 0,e0x0 op nm ks p x121 x122)):G0 op nm ks p k s__=if(op.toList==[61,62])=true then if(0:Int)≤1∧(1:Int)<(x121.length:Int)then match x121[1]? with
   |some x295=>match x295 with
    |D.ag xs296=>match xs296 with
     |x297::r298=>match x297 with
      |D.str s299=>match r298 with
       |x300::r301=>match x300 with
        |D.str s302=>match r301 with
         |x303::r304=>match x303 with
          |D.sl sh305 xs306=>if sh305=5 then match r304 with
           |x307::r308=>match x307 with
            |D.int j309 m310=>if j309=IntKind.i64 then match r308 with
             |[]=>if(0:Int)≤1∧(1:Int)≤(x121.length:Int)∧(0:Int)≤0∧(0:Int)≤1 then k [.d (x122||false||(x122||false)||false) 5 (.ag [D.str (ByteArray.mk #[124]),D.str (ByteArray.mk #[]),D.sl 5 [D.ag [D.str (ByteArray.mk #[33]),D.str (ByteArray.mk #[]),D.sl 5 (List.take 1 (List.drop 0 x121)),D.int .i64 0],D.ag [D.str s299,D.str s302,D.sl 5 xs306,D.int .i64 m310]],D.int .i64 0])] []else none
             |x=>none else none
            |x=>none
           |[]=>none else none
          |x=>none
         |[]=>none
        |x=>none
       |[]=>none
      |x=>none
     |[]=>none
    |x=>none
   |none=>none else none else if(op.toList==[70])=true then if(0:Int)≤0∧(0:Int)<(x121.length:Int)then match x121[0]? with
    |some x315=>match x315 with
     |D.ag xs316=>match xs316 with
      |x317::r318=>match x317 with
       |D.str s319=>match r318 with
        |x320::r321=>match x320 with
         |D.str s322=>match r321 with
          |x323::r324=>match x323 with
           |D.sl sh325 xs326=>if sh325=5 then match r324 with
            |x327::r328=>match x327 with
             |D.int j329 m330=>if j329=IntKind.i64 then match r328 with
              |[]=>k [.d (x122||false||false||(x122||false||false||(x122||false||false||(x122||false||false||false)))) 5 (.ag [D.str (ByteArray.mk #[85]),D.str (ByteArray.mk #[]),D.sl 5 [D.ag [D.str (ByteArray.mk #[116,114,117,101]),D.str (ByteArray.mk #[]),D.sl 5 [],D.int .i64 0],D.ag [D.str s319,D.str s322,D.sl 5 xs326,D.int .i64 m330]],D.int .i64 0])] []
              |x=>none else none
             |x=>none
            |[]=>none else none
           |x=>none
          |[]=>none
         |x=>none
        |[]=>none
       |x=>none
      |[]=>none
     |x=>none
    |none=>none else none else if(op.toList==[71])=true then if(0:Int)≤0∧(0:Int)<(x121.length:Int)then match x121[0]? with
     |some x335=>match x335 with
      |D.ag xs336=>match xs336 with
       |x337::r338=>match x337 with
        |D.str s339=>match r338 with
         |x340::r341=>match x340 with
          |D.str s342=>match r341 with
           |x343::r344=>match x343 with
            |D.sl sh345 xs346=>if sh345=5 then match r344 with
             |x347::r348=>match x347 with
              |D.int j349 m350=>if j349=IntKind.i64 then match r348 with
               |[]=>k [.d (x122||false||false||(x122||false||false||(x122||false||false||(x122||false||false||false)))) 5 (.ag [D.str (ByteArray.mk #[82]),D.str (ByteArray.mk #[]),D.sl 5 [D.ag [D.str (ByteArray.mk #[102,97,108,115,101]),D.str (ByteArray.mk #[]),D.sl 5 [],D.int .i64 0],D.ag [D.str s339,D.str s342,D.sl 5 xs346,D.int .i64 m350]],D.int .i64 0])] []
               |x=>none else none
              |x=>none
             |[]=>none else none
            |x=>none
           |[]=>none
          |x=>none
         |[]=>none
        |x=>none
       |[]=>none
      |x=>none
     |none=>none else none else if(op.toList==[87])=true then if(0:Int)≤1∧(1:Int)<(x121.length:Int)then match x121[1]? with
      |some x355=>match x355 with
       |D.ag xs356=>match xs356 with
        |x357::r358=>match x357 with
         |D.str s359=>match r358 with
          |x360::r361=>match x360 with
           |D.str s362=>match r361 with
            |x363::r364=>match x363 with
             |D.sl sh365 xs366=>if sh365=5 then match r364 with
              |x367::r368=>match x367 with
               |D.int j369 m370=>if j369=IntKind.i64 then match r368 with
                |[]=>if(0:Int)≤0∧(0:Int)<(x121.length:Int)then match x121[0]? with
                 |some x372=>match x372 with
                  |D.ag xs373=>match xs373 with
                   |x374::r375=>match x374 with
                    |D.str s376=>match r375 with
                     |x377::r378=>match x377 with
                      |D.str s379=>match r378 with
                       |x380::r381=>match x380 with
                        |D.sl sh382 xs383=>if sh382=5 then match r381 with
                         |x384::r385=>match x384 with
                          |D.int j386 m387=>if j386=IntKind.i64 then match r385 with
                           |[]=>if(0:Int)≤1∧(1:Int)<(x121.length:Int)then match x121[1]? with
                            |some x389=>match x389 with
                             |D.ag xs390=>match xs390 with
                              |x391::r392=>match x391 with
                               |D.str s393=>match r392 with
                                |x394::r395=>match x394 with
                                 |D.str s396=>match r395 with
                                  |x397::r398=>match x397 with
                                   |D.sl sh399 xs400=>if sh399=5 then match r398 with
                                    |x401::r402=>match x401 with
                                     |D.int j403 m404=>if j403=IntKind.i64 then match r402 with
                                      |[]=>k [.d (x122||(x122||(x122||false)||false||false)||false||(x122||(x122||(x122||false)||false||false)||false||(x122||(x122||(x122||false)||false||false)||false||(x122||(x122||(x122||false)||false||false)||false||false)))) 5 (.ag [D.str (ByteArray.mk #[82]),D.str (ByteArray.mk #[]),D.sl 5 [D.ag [D.str s393,D.str s396,D.sl 5 xs400,D.int .i64 m404],D.ag [D.str (ByteArray.mk #[124]),D.str (ByteArray.mk #[]),D.sl 5 [D.ag [D.str s376,D.str s379,D.sl 5 xs383,D.int .i64 m387],D.ag [D.str s359,D.str s362,D.sl 5 xs366,D.int .i64 m370]],D.int .i64 0]],D.int .i64 0])] []
                                      |x=>none else none
                                     |x=>none
                                    |[]=>none else none
                                   |x=>none
                                  |[]=>none
                                 |x=>none
                                |[]=>none
                               |x=>none
                              |[]=>none
                             |x=>none
                            |none=>none else none
                           |x=>none else none
                          |x=>none
                         |[]=>none else none
                        |x=>none
                       |[]=>none
                      |x=>none
                     |[]=>none
                    |x=>none
                   |[]=>none
                  |x=>none
                 |none=>none else none
                |x=>none else none
               |x=>none
              |[]=>none else none
             |x=>none
            |[]=>none
           |x=>none
          |[]=>none
         |x=>none
        |[]=>none
       |x=>none
      |none=>none else none else k [.d true 5 (.ag [D.str op,D.str nm,D.sl 5 x121,D.int .i64 0])] []:=(goLp_of h__).trans (by kernel_rfl)
end N53
end Go.Sd
set_option maxRecDepth 100000
namespace Go.Sd
open Go Go.Cm Go.Proofs Go.Sc
theorem valid_anyN {f:FuncId} {args:List TV} {sh:Nat} {x:D} (h:Valid glS Tryz.prog f args [.d false sh x] []):Valid glS Tryz.prog f args [.d true sh x] []:=by
 intro w us M g hG hr ha hM
 have:=h w us M g hG hr ha hM
 refine Runs.mono this fun e w'=>?_
 rintro⟨rs,M',rfl,B⟩
 refine⟨rs,M',rfl,{B with len:=B.len,rt:=?_ }⟩
 have hrt:=B.rt
 rw[List.append_nil]at hrt ⊢
 simp only[RTs]at hrt ⊢
 obtain⟨u,rest,M1,M2,e1,e2,h1,h2⟩:=hrt
 refine⟨u,rest,M1,M2,e1,e2,?_,h2⟩
 rw[RT]at h1 ⊢
 exact⟨h1.1,h1.2.1,RA.mono (fun b hb=>⟨⟨hb.1,hb.2.1,by rcases hb.2.2 with⟨h,_⟩|h;cases h;exact .inr h⟩,rfl⟩) _ _ h1.2.2⟩
theorem valid_bit {f:FuncId} {args:List TV} {sh:Nat} {x:D} {t:Bool} (h:Valid glS Tryz.prog f args [.d t sh x] []):Valid glS Tryz.prog f args [.d true sh x] []:=by
 cases t with
 |true=>exact h
 |false=>exact valid_anyN h
theorem vcLeaf:∀(β:Type) (args:List TV) (k:List TV→List TV→Option β) (r:β),cLeaf args k=some r→∃res outs,k res outs=some r∧Valid glS Tryz.prog 57 args res outs:=by
 intro β args k r hr
 unfold cLeaf at hr
 split at hr
 ·exact⟨_,_,hr,valid_of EnvOk.none mixed Tryz.func57 (by kernel_rfl) (N57.start _ _)⟩
 ·cases hr
theorem vcTree:∀(β:Type) (args:List TV) (k:List TV→List TV→Option β) (r:β),cTree args k=some r→∃res outs,k res outs=some r∧Valid glS Tryz.prog 87 args res outs:=by
 intro β args k r hr
 unfold cTree at hr
 split at hr
 ·exact⟨_,_,hr,valid_of EnvOk.none mixed Tryz.func87 (by kernel_rfl) (N87.start _ _ _ _ _ _ _ _ _ _)⟩
 ·cases hr
theorem vcRank:∀(β:Type) (args:List TV) (k:List TV→List TV→Option β) (r:β),cRank args k=some r→∃res outs,k res outs=some r∧Valid glS Tryz.prog 90 args res outs:=by
 intro β args k r hr
 unfold cRank at hr
 split at hr
 ·rename_i op
  refine⟨_,_,hr,valid_of EnvOk.none mixed Tryz.func90 (by kernel_rfl) ?_⟩
  rw[N90.start]
  simp only[N90.j0_eq]
  unfold rankN
  by_cases c0:(op.toList==[61,62])=true
  ·rw[if_pos c0,if_pos c0]
  rw[if_neg c0,if_neg c0]
  by_cases c1:(op.toList==[124])=true
  ·rw[if_pos c1,if_pos c1]
  rw[if_neg c1,if_neg c1]
  by_cases c2:(op.toList==[38])=true
  ·rw[if_pos c2,if_pos c2]
  rw[if_neg c2,if_neg c2]
  by_cases c3:(op.toList==[85])=true
  ·rw[if_pos c3,if_pos c3,if_pos c3]
  rw[if_neg c3,if_neg c3]
  by_cases c4:(op.toList==[87])=true
  ·rw[if_pos c4,if_pos c4,if_pos c4]
  rw[if_neg c4,if_neg c4]
  by_cases c5:(op.toList==[82])=true
  ·rw[if_pos c5,if_pos c5]
  rw[if_neg c5,if_neg c5]
  by_cases c6:(op.toList==[33])=true
  ·rw[if_pos c6,if_pos c6,if_pos c6]
  rw[if_neg c6,if_neg c6]
  by_cases c7:(op.toList==[88])=true
  ·rw[if_pos c7,if_pos c7,if_pos c7]
  rw[if_neg c7,if_neg c7]
  by_cases c8:(op.toList==[70])=true
  ·rw[if_pos c8,if_pos c8,if_pos c8]
  rw[if_neg c8,if_neg c8]
  by_cases c9:(op.toList==[71])=true
  ·rw[if_pos c9,if_pos c9]
  rw[if_neg c9,if_neg c9]
 ·cases hr
theorem vcDig0:∀(β:Type) (args:List TV) (k:List TV→List TV→Option β) (r:β),cDig0 args k=some r→∃res outs,k res outs=some r∧Valid glS Tryz.prog 54 args res outs:=by
 intro β args k r hr
 unfold cDig0 at hr
 split at hr
 ·split at hr
  ·rename_i h
   subst h
   refine⟨_,_,hr,valid_of EnvOk.none mixed Tryz.func54 (by kernel_rfl) ?_⟩
   have L:Lp N54.L0 N54.s0=_:=Lp_exit N54.round0
   rw[N54.start,goLp_of L,N54.behind0r]
   rfl
  ·cases hr
 ·cases hr
theorem envbas:EnvOk glS Tryz.prog WBas:=(EnvOk.none.add vcLeaf).add vcTree
def isK (x:D):Prop:=∃op nm ks p,x=.ag [.str op,.str nm,.sl 5 ks,.int .i64 p]
theorem bas_loop {op nm:ByteArray} {p:Int} {ks:List D} (hl:ks.length≤4096) (hk:∀x∈ks,isK x):∀(gs:List D) (i:Nat) (t:Bool),ks.drop i=gs→
  ∃u,Lp N53.L0 (N53.s0 op nm ks p (ks.take i) t i)=some (.exit 0,N53.e0x0 op nm ks p ks u)∧(gs≠[]→u=true)
 |[],i,t,hi=>by
  have hr:=N53.round0 op nm ks p (ks.take i) t i
  have hle:ks.length≤i:=by have:=congrArg List.length hi;simp at this;omega
  rw[if_neg (by simp;omega),List.take_of_length_le hle]at hr
  exact⟨t,by rw[List.take_of_length_le hle];exact Lp_exit hr,fun h=>(h rfl).elim⟩
 |x::gs,i,t,hi=>by
  have hr:=N53.round0 op nm ks p (ks.take i) t i
  have hlt:i<ks.length:=by
   rcases Nat.lt_or_ge i ks.length with h'|h'
   ·exact h'
   ·rw[List.drop_eq_nil_of_le h']at hi;cases hi
  have hc:=List.drop_eq_getElem_cons hlt
  rw[hi]at hc
  have hx:ks[i]? =some x:=by rw[List.getElem?_eq_getElem hlt, ←(List.cons.inj hc).1]
  obtain⟨o,n,l,q,e⟩:=hk x (List.mem_of_getElem? hx)
  rw[if_pos (by simp;omega),if_pos (by omega),Int.toNat_natCast,hx]at hr
  obtain⟨u,ih,hu⟩:=bas_loop (op:=op) (nm:=nm) (p:=p) hl hk gs (i+1) (t||true) (List.cons.inj hc).2.symm
  have ht:ks.take (i+1)=ks.take i++[x]:=by rw[List.take_add_one,hx];rfl
  refine⟨u,?_,fun _=>?_⟩
  ·subst e
   rw[ht]at ih
   simp only[if_true,wrap_id (show -9223372036854775808≤(i:Int)+1 by omega) (by omega)]at hr
   rw[if_pos (by rw[List.length_take];omega)]at hr
   exact Lp_step hr ih
  ·cases gs with
   |nil=>
    have hle:ks.length≤i+1:=by have:=congrArg List.length (List.cons.inj hc).2;simp at this;omega
    have hr2:=N53.round0 op nm ks p (ks.take (i+1)) (t||true) ((i+1:Nat):Int)
    rw[if_neg (by simp;omega),List.take_of_length_le hle]at hr2
    rw[List.take_of_length_le hle]at ih
    have:=(Lp_exit hr2).symm.trans ih
    simp only[Option.some.injEq,Prod.mk.injEq,true_and]at this
    have h2:=congrArg (fun s:S=>s.tm.m) this
    simp only[N53.e0x0,List.cons.injEq,Prod.mk.injEq,V.own.injEq,true_and,and_true]at h2
    rw[←h2];simp
   |cons y r=>exact hu (by simp)
theorem isK_of {x:D} (h:isKB x=true):isK x:=by
 unfold isKB at h
 split at h
 ·exact⟨_,_,_,_,rfl⟩
 ·cases h
theorem vcBas:∀(β:Type) (args:List TV) (k:List TV→List TV→Option β) (r:β),cBas args k=some r→∃res outs,k res outs=some r∧Valid glS Tryz.prog 53 args res outs:=by
 intro β args k r hr
 unfold cBas at hr
 split at hr
 ·rename_i op nm ks p
  split at hr
  ·rename_i o n l hb
   obtain⟨⟨h1,h2⟩,hr⟩:=chkK_ok hr
   have hk:∀x∈ks,isK x:=fun x hx=>isK_of (List.all_eq_true.1 h2 x hx)
   obtain⟨u,L,hu⟩:=bas_loop (op:=op) (nm:=nm) (p:=p) h1 hk ks 0 false rfl
   have L':Lp N53.L0 (N53.s0 op nm ks p [] false 0)=_:=L
   have key:∀{γ:Type} (q:List TV→List TV→Option γ),∃t,evalF Tryz.prog WBas Tryz.f53 [.d true 5 (.ag [.str op,.str nm,.sl 5 ks,.int .i64 p])] q=q [.d t 5 (.ag [.str o,.str n,.sl 5 l,.int .i64 0])] []:=by
    intro γ q
    rw[N53.start,N53.behind0x0 op nm ks p ks u q _ L']
    unfold basF at hb
    by_cases c0:(op.toList==[61,62])=true
    ·rw[if_pos c0]at hb ⊢
     split at hb
     ·rename_i a c
      cases hb
      obtain⟨o1,n1,k1,p1,rfl⟩:=hk c (.tail _ (.head _))
      exact⟨_,rfl⟩
     ·cases hb
    rw[if_neg c0]at hb ⊢
    by_cases c1:(op.toList==[70])=true
    ·rw[if_pos c1]at hb ⊢
     split at hb
     ·rename_i a
      cases hb
      obtain⟨o1,n1,k1,p1,rfl⟩:=hk a (.head _)
      exact⟨_,rfl⟩
     ·cases hb
    rw[if_neg c1]at hb ⊢
    by_cases c2:(op.toList==[71])=true
    ·rw[if_pos c2]at hb ⊢
     split at hb
     ·rename_i a
      cases hb
      obtain⟨o1,n1,k1,p1,rfl⟩:=hk a (.head _)
      exact⟨_,rfl⟩
     ·cases hb
    rw[if_neg c2]at hb ⊢
    by_cases c3:(op.toList==[87])=true
    ·rw[if_pos c3]at hb ⊢
     split at hb
     ·rename_i a c
      cases hb
      obtain⟨o1,n1,k1,p1,rfl⟩:=hk a (.head _)
      obtain⟨o2,n2,k2,p2,rfl⟩:=hk c (.tail _ (.head _))
      exact⟨_,rfl⟩
     ·cases hb
    rw[if_neg c3]at hb ⊢
    cases hb
    exact⟨_,rfl⟩
   obtain⟨t,ht⟩:=key (fun a b=>some (a,b))
   exact⟨_,_,hr,valid_bit (valid_of envbas mixed Tryz.func53 (by kernel_rfl) ht)⟩
  ·cases hr
 ·cases hr
end Go.Sd
namespace Go.Sd
open Go Go.Cm Go.Proofs Go.Sc
set_option maxRecDepth 100000
namespace N11
  section
  variable (b:Option Nat)
noncomputable def X:Fx:=⟨Tryz.prog,WToN b,4,1⟩
noncomputable def s0 (op:ByteArray) (nm:ByteArray) (ks:List D) (p:Int) (x55:Int) (x56:List D) (x57:Bool):S:=⟨Tm.mk 31 [(1,.rp 2 0),(2,.rp 3 0),(3,.rp 4 0),(4,.d false 0 (.int .i64 x55))],[(2,true,[.d true 0 (.str op),.d true 0 (.str nm),.d true 0 (.sl 5 ks),.d true 0 (.int .i64 p)]),(3,true,[.d false 0 (.str (ByteArray.mk #[])),.d false 0 (.str (ByteArray.mk #[])),.own false 5 [],.d false 0 (.int .i64 0)]),(4,true,[.d true 0 (.str op),.d true 0 (.str nm),.own x57 5 x56,.d true 0 (.int .i64 p)])]⟩
noncomputable def e0x0 (op:ByteArray) (nm:ByteArray) (p:Int) (x111:List D) (x112:Bool):S:=⟨Tm.mk 31 [(2,.rp 3 0),(3,.rp 4 0)],[(3,true,[.d false 0 (.str (ByteArray.mk #[])),.d false 0 (.str (ByteArray.mk #[])),.own false 5 [],.d false 0 (.int .i64 0)]),(4,true,[.d true 0 (.str op),.d true 0 (.str nm),.own x112 5 x111,.d true 0 (.int .i64 p)])]⟩
noncomputable abbrev L0:S→Option (S ⊕ (Ex×S)):=roundK (X b) [(0,12)] (sub [1,1,0,1,0,0] (body Tryz.f11))
theorem start {β:Type} (op:ByteArray) (nm:ByteArray) (ks:List D) (p:Int) (k:List TV→List TV→Option β):evalF Tryz.prog (WToN b) Tryz.f11 [.d true 5 (.ag [D.str op,D.str nm,D.sl 5 ks,D.int .i64 p])] k=goLp (X b) [(0,12)] (sub [1,1,0,1,0,0] (body Tryz.f11)) [Kf.block 0 12,Kf.seq [] (sub [1,1,1] (body Tryz.f11)) 4] (finK Tryz.prog Tryz.f11 [.d true 5 (.ag [D.str op,D.str nm,D.sl 5 ks,D.int .i64 p])] k) (s0 op nm ks p (0:Int) [] false):=by kernel_rfl
theorem round0_0 (op:ByteArray) (nm:ByteArray) (ks:List D) (p:Int) (x52:Int) (x53:List D) (x54:Bool):roundK (X b) [(0,12)] (sub [1,1,0,1,0,0] (body Tryz.f11)) (s0 op nm ks p x52 x53 x54)=if decide (x52<(ks.length:Int))=true then if 0≤x52 then match ks[x52.toNat]? with
   |some x120=>match x120 with
    |D.ag xs121=>match xs121 with
     |x122::r123=>match x122 with
      |D.str s124=>match r123 with
       |x125::r126=>match x125 with
        |D.str s127=>match r126 with
         |x128::r129=>match x128 with
          |D.sl sh130 xs131=>if sh130=5 then match r129 with
           |x132::r133=>match x132 with
            |D.int j134 m135=>if j134=IntKind.i64 then match r133 with
             |[]=>if toN b (.ag [D.str s124,D.str s127,D.sl 5 xs131,D.int .i64 m135])=true then if x53.length+1≤34359738368 then some (Sum.inl (s0 op nm ks p (IntKind.wrap .i64 (x52+1)) (x53++[D.ag [D.str s124,D.str s127,D.sl 5 xs131,D.int .i64 m135]]) (x54||true)))else none else none
             |x=>none else none
            |x=>none
           |[]=>none else none
          |x=>none
         |[]=>none
        |x=>none
       |[]=>none
      |x=>none
     |[]=>none
    |x=>none
   |none=>none else none else some (Sum.inr (Ex.exit 0,e0x0 op nm p x53 x54)):=by kernel_rfl
theorem behind0x0 {β:Type} (ks:List D) (op:ByteArray) (nm:ByteArray) (p:Int) (x111:List D) (x112:Bool) (k:List TV→List TV→Option β):applyK (X b) (finK Tryz.prog Tryz.f11 [.d true 5 (.ag [D.str op,D.str nm,D.sl 5 ks,D.int .i64 p])] k) [Kf.block 0 12,Kf.seq [] (sub [1,1,1] (body Tryz.f11)) 4] (Ex.exit 0) (e0x0 op nm p x111 x112)=k [.d true 5 (.ag [D.str op,D.str nm,D.sl 5 x111,D.int .i64 p])] []:=by kernel_rfl
end
end N11
namespace N33
  section
  variable (b:Option Nat)
noncomputable def X:Fx:=⟨Tryz.prog,WShp b,4,1⟩
noncomputable def s0 (op:ByteArray) (nm:ByteArray) (ks:List D) (p:Int) (x57:ByteArray) (x58:Int):S:=⟨Tm.mk 34 [(1,.rp 2 0),(3,.d false 0 (.str x57)),(4,.d false 0 (.int .i64 x58))],[(2,true,[.d true 0 (.str op),.d true 0 (.str nm),.d true 0 (.sl 5 ks),.d true 0 (.int .i64 p)])]⟩
noncomputable def e0x0 (x115:ByteArray):S:=⟨Tm.mk 34 [(3,.d false 0 (.str x115))],[]⟩
noncomputable abbrev L0:S→Option (S ⊕ (Ex×S)):=roundK (X b) [(0,8)] (sub [1,1,0,1,0,0] (body Tryz.f33))
noncomputable abbrev G0 {β:Type} (op:ByteArray) (nm:ByteArray) (ks:List D) (p:Int) (k:List TV→List TV→Option β):S→Option β:=goLp (X b) [(0,8)] (sub [1,1,0,1,0,0] (body Tryz.f33)) [Kf.block 0 8,Kf.seq [] (sub [1,1,1] (body Tryz.f33)) 4] (finK Tryz.prog Tryz.f33 [.d true 5 (.ag [D.str op,D.str nm,D.sl 5 ks,D.int .i64 p])] k)
theorem start {β:Type} (op:ByteArray) (nm:ByteArray) (ks:List D) (p:Int) (k:List TV→List TV→Option β):evalF Tryz.prog (WShp b) Tryz.f33 [.d true 5 (.ag [D.str op,D.str nm,D.sl 5 ks,D.int .i64 p])] k=if 1+ByteArray.size op≤9223372036854775807 then if ByteArray.size (ByteArray.mk #[40]++op)+1≤9223372036854775807 then if ByteArray.size (ByteArray.mk #[40]++op++ByteArray.mk #[32])+ByteArray.size nm≤9223372036854775807 then if ByteArray.size (ByteArray.mk #[40]++op++ByteArray.mk #[32]++nm)+1≤9223372036854775807 then if p=0 then if ByteArray.size (ByteArray.mk #[40]++op++ByteArray.mk #[32]++nm++ByteArray.mk #[32])+1≤9223372036854775807 then G0 b op nm ks p k (s0 op nm ks p (ByteArray.mk #[40]++op++ByteArray.mk #[32]++nm++ByteArray.mk #[32]++ByteArray.mk #[48]) (0:Int))else none else none else none else none else none else none:=by kernel_rfl
theorem round0_0 (op:ByteArray) (nm:ByteArray) (ks:List D) (p:Int) (x55:ByteArray) (x56:Int):roundK (X b) [(0,8)] (sub [1,1,0,1,0,0] (body Tryz.f33)) (s0 op nm ks p x55 x56)=if decide (x56<(ks.length:Int))=true then if 0≤x56 then match ks[x56.toNat]? with
   |some x123=>match x123 with
    |D.ag xs124=>match xs124 with
     |x125::r126=>match x125 with
      |D.str s127=>match r126 with
       |x128::r129=>match x128 with
        |D.str s130=>match r129 with
         |x131::r132=>match x131 with
          |D.sl sh133 xs134=>if sh133=5 then match r132 with
           |x135::r136=>match x135 with
            |D.int j137 m138=>if j137=IntKind.i64 then match r136 with
             |[]=>match shpX b (.ag [D.str s127,D.str s130,D.sl 5 xs134,D.int .i64 m138])with
              |some s140=>if ByteArray.size x55+ByteArray.size s140≤9223372036854775807 then some (Sum.inl (s0 op nm ks p (x55++s140) (IntKind.wrap .i64 (x56+1))))else none
              |none=>none
             |x=>none else none
            |x=>none
           |[]=>none else none
          |x=>none
         |[]=>none
        |x=>none
       |[]=>none
      |x=>none
     |[]=>none
    |x=>none
   |none=>none else none else some (Sum.inr (Ex.exit 0,e0x0 x55)):=by kernel_rfl
theorem behind0x0 {β:Type} (op:ByteArray) (nm:ByteArray) (ks:List D) (p:Int) (x115:ByteArray) (k:List TV→List TV→Option β) (s__:S) (h__:Lp (L0 b) s__=some (Ex.exit 0,e0x0 x115)):G0 b op nm ks p k s__=if ByteArray.size x115+1≤9223372036854775807 then k [.d false 0 (.str (x115++ByteArray.mk #[41]))] []else none:=(goLp_of h__).trans (by kernel_rfl)
end
end N33
namespace N34
  section
  variable (b:Option Nat)
noncomputable def X:Fx:=⟨Tryz.prog,WBar b,4,1⟩
noncomputable def s0 (op:ByteArray) (nm:ByteArray) (ks:List D) (p:Int) (x55:Int) (x56:List D) (x57:Bool):S:=⟨Tm.mk 29 [(1,.rp 2 0),(2,.rp 3 0),(3,.rp 4 0),(4,.d false 0 (.int .i64 x55))],[(2,true,[.d true 0 (.str op),.d true 0 (.str nm),.d true 0 (.sl 5 ks),.d true 0 (.int .i64 p)]),(3,true,[.d false 0 (.str (ByteArray.mk #[])),.d false 0 (.str (ByteArray.mk #[])),.own false 5 [],.d false 0 (.int .i64 0)]),(4,true,[.d true 0 (.str op),.d true 0 (.str nm),.own x57 5 x56,.d false 0 (.int .i64 0)])]⟩
noncomputable def e0x0 (op:ByteArray) (nm:ByteArray) (x111:List D) (x112:Bool):S:=⟨Tm.mk 29 [(2,.rp 3 0),(3,.rp 4 0)],[(3,true,[.d false 0 (.str (ByteArray.mk #[])),.d false 0 (.str (ByteArray.mk #[])),.own false 5 [],.d false 0 (.int .i64 0)]),(4,true,[.d true 0 (.str op),.d true 0 (.str nm),.own x112 5 x111,.d false 0 (.int .i64 0)])]⟩
noncomputable abbrev L0:S→Option (S ⊕ (Ex×S)):=roundK (X b) [(0,12)] (sub [1,1,0,1,0,0] (body Tryz.f34))
noncomputable abbrev G0 {β:Type} (op:ByteArray) (nm:ByteArray) (ks:List D) (p:Int) (k:List TV→List TV→Option β):S→Option β:=goLp (X b) [(0,12)] (sub [1,1,0,1,0,0] (body Tryz.f34)) [Kf.block 0 12,Kf.seq [] (sub [1,1,1] (body Tryz.f34)) 4] (finK Tryz.prog Tryz.f34 [.d true 5 (.ag [D.str op,D.str nm,D.sl 5 ks,D.int .i64 p])] k)
theorem start {β:Type} (op:ByteArray) (nm:ByteArray) (ks:List D) (p:Int) (k:List TV→List TV→Option β):evalF Tryz.prog (WBar b) Tryz.f34 [.d true 5 (.ag [D.str op,D.str nm,D.sl 5 ks,D.int .i64 p])] k=G0 b op nm ks p k (s0 op nm ks p (0:Int) [] false):=by kernel_rfl
theorem round0_0 (op:ByteArray) (nm:ByteArray) (ks:List D) (p:Int) (x52:Int) (x53:List D) (x54:Bool):roundK (X b) [(0,12)] (sub [1,1,0,1,0,0] (body Tryz.f34)) (s0 op nm ks p x52 x53 x54)=if decide (x52<(ks.length:Int))=true then if 0≤x52 then match ks[x52.toNat]? with
   |some x120=>match x120 with
    |D.ag xs121=>match xs121 with
     |x122::r123=>match x122 with
      |D.str s124=>match r123 with
       |x125::r126=>match x125 with
        |D.str s127=>match r126 with
         |x128::r129=>match x128 with
          |D.sl sh130 xs131=>if sh130=5 then match r129 with
           |x132::r133=>match x132 with
            |D.int j134 m135=>if j134=IntKind.i64 then match r133 with
             |[]=>if barX b (.ag [D.str s124,D.str s127,D.sl 5 xs131,D.int .i64 m135])=true then if x53.length+1≤34359738368 then some (Sum.inl (s0 op nm ks p (IntKind.wrap .i64 (x52+1)) (x53++[D.ag [D.str s124,D.str s127,D.sl 5 xs131,D.int .i64 m135]]) (x54||true)))else none else none
             |x=>none else none
            |x=>none
           |[]=>none else none
          |x=>none
         |[]=>none
        |x=>none
       |[]=>none
      |x=>none
     |[]=>none
    |x=>none
   |none=>none else none else some (Sum.inr (Ex.exit 0,e0x0 op nm x53 x54)):=by kernel_rfl
theorem behind0x0 {β:Type} (ks:List D) (p:Int) (op:ByteArray) (nm:ByteArray) (x111:List D) (x112:Bool) (k:List TV→List TV→Option β) (s__:S) (h__:Lp (L0 b) s__=some (Ex.exit 0,e0x0 op nm x111 x112)):G0 b op nm ks p k s__=k [.d true 5 (.ag [D.str op,D.str nm,D.sl 5 x111,D.int .i64 0])] []:=(goLp_of h__).trans (by kernel_rfl)
end
end N34
namespace N31
  section
  variable (b:Option Nat)
noncomputable def X:Fx:=⟨Tryz.prog,WCnt b,16,2⟩
noncomputable def j0 (op:ByteArray) (nm:ByteArray) (ks:List D) (p:Int) (n:Bool) (x227:Bool):S:=⟨Tm.mk 95 [(1,.d true 0 (.bool n)),(2,.rp 3 0),(5,.d false 0 (.int .i64 1)),(73,.d false 0 (.bool x227))],[(3,true,[.d true 0 (.str op),.d true 0 (.str nm),.d true 0 (.sl 5 ks),.d true 0 (.int .i64 p)])]⟩
noncomputable def j1 (op:ByteArray) (nm:ByteArray) (ks:List D) (p:Int) (n:Bool) (x458:Bool):S:=⟨Tm.mk 95 [(1,.d true 0 (.bool n)),(2,.rp 3 0),(5,.d false 0 (.int .i64 1)),(7,.d true 0 (.str op)),(20,.d false 0 (.bool x458))],[(3,true,[.d true 0 (.str op),.d true 0 (.str nm),.d true 0 (.sl 5 ks),.d true 0 (.int .i64 p)])]⟩
noncomputable abbrev J0 {β:Type} (op:ByteArray) (nm:ByteArray) (ks:List D) (p:Int) (n:Bool) (k:List TV→List TV→Option β):S→Option β:=applyK (X b) (finK Tryz.prog Tryz.f31 [.d true 5 (.ag [D.str op,D.str nm,D.sl 5 ks,D.int .i64 p]),.d true 0 (.bool n)] k) [Kf.seq [(0,32)] (sub [1,1,0,1,0,1,1,1,1,1,1,1,1,1,1,1,1,1] (body Tryz.f31)) 32,Kf.cond 32,Kf.cond 32,Kf.cond 32,Kf.cond 32,Kf.cond 32,Kf.cond 32,Kf.block 0 32,Kf.seq [] (sub [1,1,1] (body Tryz.f31)) 16] Ex.norm
noncomputable abbrev J1 {β:Type} (op:ByteArray) (nm:ByteArray) (ks:List D) (p:Int) (n:Bool) (k:List TV→List TV→Option β):S→Option β:=applyK (X b) (finK Tryz.prog Tryz.f31 [.d true 5 (.ag [D.str op,D.str nm,D.sl 5 ks,D.int .i64 p]),.d true 0 (.bool n)] k) [Kf.seq [(0,32)] (sub [1,1,0,1,0,1,1,1,1,1] (body Tryz.f31)) 32,Kf.cond 32,Kf.cond 32,Kf.block 0 32,Kf.seq [] (sub [1,1,1] (body Tryz.f31)) 16] Ex.norm
theorem start {β:Type} (op:ByteArray) (nm:ByteArray) (ks:List D) (p:Int) (n:Bool) (k:List TV→List TV→Option β):evalF Tryz.prog (WCnt b) Tryz.f31 [.d true 5 (.ag [D.str op,D.str nm,D.sl 5 ks,D.int .i64 p]),.d true 0 (.bool n)] k=if(op.toList==[108,97,98,101,108])=true then if n=true then k [.d false 0 (.int .i64 2)] []else k [.d false 0 (.int .i64 1)] []else if(op.toList==[33])=true then match ks[0]? with
   |some x664=>match x664 with
    |D.ag xs665=>match xs665 with
     |x666::r667=>match x666 with
      |D.str s668=>match r667 with
       |x669::r670=>match x669 with
        |D.str s671=>match r670 with
         |x672::r673=>match x672 with
          |D.sl sh674 xs675=>if sh674=5 then match r673 with
           |x676::r677=>match x676 with
            |D.int j678 m679=>if j678=IntKind.i64 then match r677 with
             |[]=>match cntX b (.ag [D.str s668,D.str s671,D.sl 5 xs675,D.int .i64 m679]) !n with
              |some v681=>if decide (v681>5000)=true then k [.d false 0 (.int .i64 5000)] []else k [.d false 0 (.int .i64 v681)] []
              |none=>none
             |x=>none else none
            |x=>none
           |[]=>none else none
          |x=>none
         |[]=>none
        |x=>none
       |[]=>none
      |x=>none
     |[]=>none
    |x=>none
   |none=>none else if(op.toList==[70])=true then J1 b op nm ks p n k (j1 op nm ks p n (op.toList==[70]))else J1 b op nm ks p n k (j1 op nm ks p n (op.toList==[71])):=by kernel_rfl
theorem j0_eq {β:Type} (op:ByteArray) (nm:ByteArray) (ks:List D) (p:Int) (n:Bool) (x227:Bool) (k:List TV→List TV→Option β):J0 b op nm ks p n k (j0 op nm ks p n x227)=if x227=true then match ks[1]? with
   |some x691=>match x691 with
    |D.ag xs692=>match xs692 with
     |x693::r694=>match x693 with
      |D.str s695=>match r694 with
       |x696::r697=>match x696 with
        |D.str s698=>match r697 with
         |x699::r700=>match x699 with
          |D.sl sh701 xs702=>if sh701=5 then match r700 with
           |x703::r704=>match x703 with
            |D.int j705 m706=>if j705=IntKind.i64 then match r704 with
             |[]=>match ks[0]? with
              |some x708=>match x708 with
               |D.ag xs709=>match xs709 with
                |x710::r711=>match x710 with
                 |D.str s712=>match r711 with
                  |x713::r714=>match x713 with
                   |D.str s715=>match r714 with
                    |x716::r717=>match x716 with
                     |D.sl sh718 xs719=>if sh718=5 then match r717 with
                      |x720::r721=>match x720 with
                       |D.int j722 m723=>if j722=IntKind.i64 then match r721 with
                        |[]=>match cntX b (.ag [D.str s712,D.str s715,D.sl 5 xs719,D.int .i64 m723]) n with
                         |some v725=>match cntX b (.ag [D.str s695,D.str s698,D.sl 5 xs702,D.int .i64 m706]) n with
                          |some v726=>if decide (IntKind.wrap .i64 (IntKind.wrap .i64 (1+v725)+v726)>5000)=true then k [.d false 0 (.int .i64 5000)] []else k [.d false 0 (.int .i64 (IntKind.wrap .i64 (IntKind.wrap .i64 (1+v725)+v726)))] []
                          |none=>none
                         |none=>none
                        |x=>none else none
                       |x=>none
                      |[]=>none else none
                     |x=>none
                    |[]=>none
                   |x=>none
                  |[]=>none
                 |x=>none
                |[]=>none
               |x=>none
              |none=>none
             |x=>none else none
            |x=>none
           |[]=>none else none
          |x=>none
         |[]=>none
        |x=>none
       |[]=>none
      |x=>none
     |[]=>none
    |x=>none
   |none=>none else k [.d false 0 (.int .i64 1)] []:=by kernel_rfl
theorem j1_eq {β:Type} (op:ByteArray) (nm:ByteArray) (ks:List D) (p:Int) (n:Bool) (x458:Bool) (k:List TV→List TV→Option β):J1 b op nm ks p n k (j1 op nm ks p n x458)=if x458=true then match ks[0]? with
   |some x736=>match x736 with
    |D.ag xs737=>match xs737 with
     |x738::r739=>match x738 with
      |D.str s740=>match r739 with
       |x741::r742=>match x741 with
        |D.str s743=>match r742 with
         |x744::r745=>match x744 with
          |D.sl sh746 xs747=>if sh746=5 then match r745 with
           |x748::r749=>match x748 with
            |D.int j750 m751=>if j750=IntKind.i64 then match r749 with
             |[]=>match cntX b (.ag [D.str s740,D.str s743,D.sl 5 xs747,D.int .i64 m751]) n with
              |some v753=>if decide (IntKind.wrap .i64 (2+v753)>5000)=true then k [.d false 0 (.int .i64 5000)] []else k [.d false 0 (.int .i64 (IntKind.wrap .i64 (2+v753)))] []
              |none=>none
             |x=>none else none
            |x=>none
           |[]=>none else none
          |x=>none
         |[]=>none
        |x=>none
       |[]=>none
      |x=>none
     |[]=>none
    |x=>none
   |none=>none else if(op.toList==[88])=true then match ks[0]? with
    |some x761=>match x761 with
     |D.ag xs762=>match xs762 with
      |x763::r764=>match x763 with
       |D.str s765=>match r764 with
        |x766::r767=>match x766 with
         |D.str s768=>match r767 with
          |x769::r770=>match x769 with
           |D.sl sh771 xs772=>if sh771=5 then match r770 with
            |x773::r774=>match x773 with
             |D.int j775 m776=>if j775=IntKind.i64 then match r774 with
              |[]=>match cntX b (.ag [D.str s765,D.str s768,D.sl 5 xs772,D.int .i64 m776]) n with
               |some v778=>if decide (IntKind.wrap .i64 (1+v778)>5000)=true then k [.d false 0 (.int .i64 5000)] []else k [.d false 0 (.int .i64 (IntKind.wrap .i64 (1+v778)))] []
               |none=>none
              |x=>none else none
             |x=>none
            |[]=>none else none
           |x=>none
          |[]=>none
         |x=>none
        |[]=>none
       |x=>none
      |[]=>none
     |x=>none
    |none=>none else if(op.toList==[61,62])=true then match ks[1]? with
     |some x786=>match x786 with
      |D.ag xs787=>match xs787 with
       |x788::r789=>match x788 with
        |D.str s790=>match r789 with
         |x791::r792=>match x791 with
          |D.str s793=>match r792 with
           |x794::r795=>match x794 with
            |D.sl sh796 xs797=>if sh796=5 then match r795 with
             |x798::r799=>match x798 with
              |D.int j800 m801=>if j800=IntKind.i64 then match r799 with
               |[]=>match ks[0]? with
                |some x803=>match x803 with
                 |D.ag xs804=>match xs804 with
                  |x805::r806=>match x805 with
                   |D.str s807=>match r806 with
                    |x808::r809=>match x808 with
                     |D.str s810=>match r809 with
                      |x811::r812=>match x811 with
                       |D.sl sh813 xs814=>if sh813=5 then match r812 with
                        |x815::r816=>match x815 with
                         |D.int j817 m818=>if j817=IntKind.i64 then match r816 with
                          |[]=>match cntX b (.ag [D.str s807,D.str s810,D.sl 5 xs814,D.int .i64 m818]) !n with
                           |some v820=>match cntX b (.ag [D.str s790,D.str s793,D.sl 5 xs797,D.int .i64 m801]) n with
                            |some v821=>if decide (IntKind.wrap .i64 (IntKind.wrap .i64 (1+v820)+v821)>5000)=true then k [.d false 0 (.int .i64 5000)] []else k [.d false 0 (.int .i64 (IntKind.wrap .i64 (IntKind.wrap .i64 (1+v820)+v821)))] []
                            |none=>none
                           |none=>none
                          |x=>none else none
                         |x=>none
                        |[]=>none else none
                       |x=>none
                      |[]=>none
                     |x=>none
                    |[]=>none
                   |x=>none
                  |[]=>none
                 |x=>none
                |none=>none
               |x=>none else none
              |x=>none
             |[]=>none else none
            |x=>none
           |[]=>none
          |x=>none
         |[]=>none
        |x=>none
       |[]=>none
      |x=>none
     |none=>none else if(op.toList==[87])=true then match ks[1]? with
      |some x829=>match x829 with
       |D.ag xs830=>match xs830 with
        |x831::r832=>match x831 with
         |D.str s833=>match r832 with
          |x834::r835=>match x834 with
           |D.str s836=>match r835 with
            |x837::r838=>match x837 with
             |D.sl sh839 xs840=>if sh839=5 then match r838 with
              |x841::r842=>match x841 with
               |D.int j843 m844=>if j843=IntKind.i64 then match r842 with
                |[]=>match ks[0]? with
                 |some x846=>match x846 with
                  |D.ag xs847=>match xs847 with
                   |x848::r849=>match x848 with
                    |D.str s850=>match r849 with
                     |x851::r852=>match x851 with
                      |D.str s853=>match r852 with
                       |x854::r855=>match x854 with
                        |D.sl sh856 xs857=>if sh856=5 then match r855 with
                         |x858::r859=>match x858 with
                          |D.int j860 m861=>if j860=IntKind.i64 then match r859 with
                           |[]=>match cntX b (.ag [D.str s850,D.str s853,D.sl 5 xs857,D.int .i64 m861]) n with
                            |some v863=>match cntX b (.ag [D.str s833,D.str s836,D.sl 5 xs840,D.int .i64 m844]) n with
                             |some v864=>if decide (IntKind.wrap .i64 (IntKind.wrap .i64 (2+v863)+IntKind.wrap .i64 ((2:Int)*v864))>5000)=true then k [.d false 0 (.int .i64 5000)] []else k [.d false 0 (.int .i64 (IntKind.wrap .i64 (IntKind.wrap .i64 (2+v863)+IntKind.wrap .i64 ((2:Int)*v864))))] []
                             |none=>none
                            |none=>none
                           |x=>none else none
                          |x=>none
                         |[]=>none else none
                        |x=>none
                       |[]=>none
                      |x=>none
                     |[]=>none
                    |x=>none
                   |[]=>none
                  |x=>none
                 |none=>none
                |x=>none else none
               |x=>none
              |[]=>none else none
             |x=>none
            |[]=>none
           |x=>none
          |[]=>none
         |x=>none
        |[]=>none
       |x=>none
      |none=>none else if(op.toList==[38])=true then J0 b op nm ks p n k (j0 op nm ks p n (op.toList==[38]))else if(op.toList==[124])=true then J0 b op nm ks p n k (j0 op nm ks p n (op.toList==[124]))else if(op.toList==[85])=true then J0 b op nm ks p n k (j0 op nm ks p n (op.toList==[85]))else J0 b op nm ks p n k (j0 op nm ks p n (op.toList==[82])):=by kernel_rfl
end
end N31
end Go.Sd

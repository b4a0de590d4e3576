/- Lasso: contracts of Grow and Concat. -/
import Derived.Test.YtbpndgllhhajoaaGreatDoorPa
set_option linter.unusedVariables false
set_option linter.unusedSimpArgs false
namespace Go.Cm
open Go
def regOps (c:Code):Array Oper:=match c with|.region _ ops _=>ops|_=> #[]
def selT:List (Nat×V)→Nat→List (Nat×V)→List (Nat×V)
 |[],_,_=>[]
 |e::r,n,xs=>match n % 4 with
  |0=>selT r (n / 4) xs
  |1=>e::selT r (n / 4) xs
  |2=>(e.1,.undef)::selT r (n / 4) xs
  |_=>match xs with
   |[]=>[]
   |x::xs=>x::selT r (n / 4) xs
def selR:List (Nat×Bool×List V)→Nat→List (Nat×Bool×List V)→List (Nat×Bool×List V)
 |[],_,_=>[]
 |e::r,n,xs=>match n % 4 with
  |0=>selR r (n / 4) xs
  |1=>e::selR r (n / 4) xs
  |_=>match xs with
   |[]=>[]
   |x::xs=>x::selR r (n / 4) xs
end Go.Cm
namespace Go.Sd
open Go Go.Cm Go.Proofs Go.Sc
set_option maxRecDepth 100000
def ioNil (j:Nat):Bool:=Nat.beq j 65536
def cGrow {β:Type} (args:List TV) (k:List TV→List TV→Option β):Option β:=
 match args with
 |[.d true 0 .nilsl,.d true 0 (.int .i64 n)]=>chkK (0≤n∧n≤big) (k [.own false 0 []] [])
 |_=>none
def cConcat {β:Type} (args:List TV) (k:List TV→List TV→Option β):Option β:=
 match args with
 |[.d true 0 (.sl 0 [.sl 0 xs,.sl 0 ys])]=>chkK (xs.length+ys.length≤big) (k [.own true 0 (xs++ys)] [])
 |_=>none
def W0:Env:=Env.none
def W1:Env:=W0.add 68 ioNil cGrow
def W2:Env:=W1.add 45 io0 cConcat
end Go.Sd
namespace Go.Sd
open Go Go.Cm Go.Proofs Go.Sc
set_option maxRecDepth 100000
namespace G68
theorem start {β:Type} (n:Int) (k:List TV→List TV→Option β):evalF Tryz.prog W0 Tryz.f68 [.d true 0 D.nilsl,.d true 0 (D.int .i64 n)] k=if decide (n<0)=true then none else if decide (IntKind.wrap .i64 (n - 0)>0)=true then if 0≤IntKind.wrap .i64 (n - 0)∧IntKind.wrap .i64 (n - 0)≤34359738368 then if(0:Int)≤0∧(0:Int)≤(↑(List.length (List.replicate (Int.toNat (IntKind.wrap .i64 (n - 0))) (D.int .i64 0))):Int)∧(0:Int)≤0∧(0:Int)≤0 then k [.own false 0 (List.take 0 (List.drop 0 (List.replicate (Int.toNat (IntKind.wrap .i64 (n - 0))) (D.int .i64 0))))] []else none else none else k [.own false 0 []] []:=by kernel_rfl
end G68
namespace G45
noncomputable def X:Fx:=⟨Tryz.prog,W1,4,1⟩
def s0 (xs:List D) (ys:List D) (x13:Int) (x14:Int):S:=⟨Tm.mk 36 [(0,.d true 0 (D.sl 0 [D.sl 0 xs,D.sl 0 ys])),(3,.d false 0 (D.int .i64 x13)),(9,.d true 0 (D.sl 0 [D.sl 0 xs,D.sl 0 ys])),(10,.d false 0 (D.int .i64 2)),(11,.d false 0 (D.int .i64 x14))],[]⟩
def s1 (xs:List D) (ys:List D) (x63:List D) (x64:Bool) (x65:Int):S:=⟨Tm.mk 36 [(6,.own x64 0 x63),(25,.d true 0 (D.sl 0 [D.sl 0 xs,D.sl 0 ys])),(26,.d false 0 (D.int .i64 2)),(27,.d false 0 (D.int .i64 x65))],[]⟩
def e0x0 (xs:List D) (ys:List D) (x11:Int):S:=⟨Tm.mk 36 [(0,.d true 0 (D.sl 0 [D.sl 0 xs,D.sl 0 ys])),(3,.d false 0 (D.int .i64 x11))],[]⟩
def e1x2 (x60:List D) (x61:Bool):S:=⟨Tm.mk 36 [(6,.own x61 0 x60)],[]⟩
noncomputable abbrev L0:S→Option (S ⊕ (Ex×S)):=roundK X [(0,9)] (sub [1,1,0,1,0,0] (body Tryz.f45))
noncomputable abbrev L1:S→Option (S ⊕ (Ex×S)):=roundK X [(2,64)] (sub [1,1,1,1,0,1,0,0] (body Tryz.f45))
theorem start {β:Type} (xs:List D) (ys:List D) (k:List TV→List TV→Option β):evalF Tryz.prog W1 Tryz.f45 [.d true 0 (D.sl 0 [D.sl 0 xs,D.sl 0 ys])] k=goLp X [(0,9)] (sub [1,1,0,1,0,0] (body Tryz.f45)) [Kf.block 0 9,Kf.seq [] (sub [1,1,1] (body Tryz.f45)) 4] (finK Tryz.prog Tryz.f45 [.d true 0 (D.sl 0 [D.sl 0 xs,D.sl 0 ys])] k) (s0 xs ys (0:Int) (0:Int)):=by kernel_rfl
theorem round0_0 (xs:List D) (ys:List D) (x11:Int) (x12:Int):roundK X [(0,9)] (sub [1,1,0,1,0,0] (body Tryz.f45)) (s0 xs ys x11 x12)=if decide (x12<2)=true then if 0≤x12 then match[D.sl 0 xs,D.sl 0 ys][x12.toNat]? with
   |some x109=>match x109 with
    |D.sl sh110 xs111=>if sh110=0 then if decide (IntKind.wrap .i64 (x11+(xs111.length:Int))<0)=true then none else some (Sum.inl (s0 xs ys (IntKind.wrap .i64 (x11+(xs111.length:Int))) (IntKind.wrap .i64 (x12+1))))else none
    |x=>none
   |none=>none else none else some (Sum.inr (Ex.exit 0,e0x0 xs ys x11)):=by kernel_rfl
theorem round1_0 (xs:List D) (ys:List D) (x60:List D) (x61:Bool) (x62:Int):roundK X [(2,64)] (sub [1,1,1,1,0,1,0,0] (body Tryz.f45)) (s1 xs ys x60 x61 x62)=if decide (x62<2)=true then if 0≤x62 then match[D.sl 0 xs,D.sl 0 ys][x62.toNat]? with
   |some x125=>match x125 with
    |D.sl sh126 xs127=>if sh126=0 then if x60.length+xs127.length≤34359738368 then some (Sum.inl (s1 xs ys (x60++xs127) (x61||true) (IntKind.wrap .i64 (x62+1))))else none else none
    |x=>none
   |none=>none else none else some (Sum.inr (Ex.exit 2,e1x2 x60 x61)):=by kernel_rfl
theorem behind0x0 {β:Type} (xs:List D) (ys:List D) (x11:Int) (k:List TV→List TV→Option β):applyK X (finK Tryz.prog Tryz.f45 [.d true 0 (D.sl 0 [D.sl 0 xs,D.sl 0 ys])] k) [Kf.block 0 9,Kf.seq [] (sub [1,1,1] (body Tryz.f45)) 4] (Ex.exit 0) (e0x0 xs ys x11)=if 0≤x11∧x11≤34359738368 then goLp X [(2,64)] (sub [1,1,1,1,0,1,0,0] (body Tryz.f45)) [Kf.block 2 64,Kf.seq [] (sub [1,1,1,1,1] (body Tryz.f45)) 4] (finK Tryz.prog Tryz.f45 [.d true 0 (D.sl 0 [D.sl 0 xs,D.sl 0 ys])] k) (s1 xs ys [] false (0:Int))else none:=by kernel_rfl
theorem behind1x2 {β:Type} (xs:List D) (ys:List D) (x60:List D) (x61:Bool) (k:List TV→List TV→Option β):applyK X (finK Tryz.prog Tryz.f45 [.d true 0 (D.sl 0 [D.sl 0 xs,D.sl 0 ys])] k) [Kf.block 2 64,Kf.seq [] (sub [1,1,1,1,1] (body Tryz.f45)) 4] (Ex.exit 2) (e1x2 x60 x61)=k [.own x61 0 x60] []:=by kernel_rfl
end G45
end Go.Sd
namespace Go.Sd
open Go Go.Cm Go.Proofs Go.Sc
set_option maxRecDepth 100000
theorem envw0:EnvOk glS Tryz.prog W0:=EnvOk.none
theorem envw1:EnvOk glS Tryz.prog W1:=envw0.fn mixed Tryz.func68 (by kernel_rfl) fun β args k r hr=>by
 unfold cGrow at hr
 split at hr
 ·rename_i n
  obtain⟨⟨h0,h1⟩,hr⟩:=chkK_ok hr
  have hb:(big:Int)=34359738368:=rfl
  rw[hb]at h1
  refine⟨_,_,hr,fun q=>?_⟩
  have st:=G68.start n q
  rw[if_neg (by simpa using h0)]at st
  have e:IntKind.wrap IntKind.i64 (n - 0)=n:=by rw[wrap_id (by omega) (by omega)];omega
  rw[e]at st
  by_cases hn:n>0
  ·rw[if_pos (by simpa using hn),if_pos ⟨h0,h1⟩,if_pos ⟨by omega,by omega,by omega,by omega⟩]at st
   rw[st];rfl
  ·rw[if_neg (by simpa using hn)]at st
   rw[st]
 ·cases hr
theorem envw2:EnvOk glS Tryz.prog W2:=envw1.fn mixed Tryz.func45 (by kernel_rfl) fun β args k r hr=>by
 unfold cConcat at hr
 split at hr
 ·rename_i xs ys
  obtain⟨h0,hr⟩:=chkK_ok hr
  have hb:big=34359738368:=rfl
  rw[hb]at h0
  refine⟨_,_,hr,fun q=>?_⟩
  have st:=G45.start xs ys q
  have w1:IntKind.wrap IntKind.i64 (0+(xs.length:Int))=xs.length:=by rw[wrap_id (by omega) (by omega)];omega
  have w2:IntKind.wrap IntKind.i64 ((xs.length:Int)+(ys.length:Int))=(xs.length:Int)+ys.length:=by rw[wrap_id (by omega) (by omega)]
  have L0:Lp G45.L0 (G45.s0 xs ys 0 0)=some (.exit 0,G45.e0x0 xs ys ((xs.length:Int)+ys.length)):=by
   have r1:=G45.round0_0 xs ys 0 0
   rw[if_pos (by decide),if_pos (by decide)]at r1
   simp only[w1,Int.toNat_zero,List.getElem?_cons_zero,if_true]at r1
   rw[if_neg (by simp)]at r1
   have r2:=G45.round0_0 xs ys xs.length 1
   rw[if_pos (by decide),if_pos (by decide)]at r2
   simp only[w2,show Int.toNat 1=1 from rfl,List.getElem?_cons_succ,List.getElem?_cons_zero,if_true]at r2
   rw[if_neg (by simp;omega)]at r2
   have r3:=G45.round0_0 xs ys ((xs.length:Int)+ys.length) 2
   rw[if_neg (by decide)]at r3
   exact Lp_step r1 (Lp_step r2 (Lp_exit r3))
  have L1:Lp G45.L1 (G45.s1 xs ys [] false 0)=some (.exit 2,G45.e1x2 (xs++ys) true):=by
   have r1:=G45.round1_0 xs ys [] false 0
   rw[if_pos (by decide),if_pos (by decide)]at r1
   simp only[Int.toNat_zero,List.getElem?_cons_zero,if_true]at r1
   rw[if_pos (by simp;omega)]at r1
   have r2:=G45.round1_0 xs ys xs true 1
   rw[if_pos (by decide),if_pos (by decide)]at r2
   simp only[show Int.toNat 1=1 from rfl,List.getElem?_cons_succ,List.getElem?_cons_zero,if_true]at r2
   rw[if_pos (by omega)]at r2
   have r3:=G45.round1_0 xs ys (xs++ys) true 2
   rw[if_neg (by decide)]at r3
   exact Lp_step r1 (Lp_step r2 (Lp_exit r3))
  rw[st,goLp_of L0,G45.behind0x0,if_pos ⟨by omega,by omega⟩,goLp_of L1,G45.behind1x2]
 ·cases hr
end Go.Sd
namespace Go.Sd
open Go Go.Cm Go.Proofs Go.Sc
set_option maxRecDepth 100000
namespace C59
noncomputable def X:Fx:=⟨Tryz.prog,W2,8,2⟩
theorem start {β:Type} (i:Int) (ns:List D) (k:List TV→List TV→Option β):evalF Tryz.prog W2 Tryz.f59 [.d true 0 (D.int .i64 i),.d true 0 (D.pt 0 (D.sl 0 ns))] k=if decide (i<0)=true then k [.d false 0 (D.bool true)] []else if(0:Int)≤(ns.length:Int)then k [.d false 0 (D.bool (decide (i≥IntKind.wrap .i64 ((1:Int)*(2:Int) ^ min (Int.toNat (ns.length:Int)) 64))))] []else none:=by kernel_rfl
end C59
namespace C70
noncomputable def X:Fx:=⟨Tryz.prog,W2,8,2⟩
theorem start {β:Type} (i:Int) (op:ByteArray) (nm:ByteArray) (ks:List D) (p:Int) (k:List TV→List TV→Option β):evalF Tryz.prog W2 Tryz.f70 [.d true 0 (D.int .i64 i),.d true 0 (D.pt 5 (D.ag [D.str op,D.str nm,D.sl 5 ks,D.int .i64 p]))] k=k [.d false 0 (D.bool (op.toList==[116,114,117,101]))] []:=by kernel_rfl
end C70
namespace C98
noncomputable def X:Fx:=⟨Tryz.prog,W2,16,3⟩
theorem start {β:Type} (i:Int) (ns:List D) (al:List D) (bk:Int) (kk:Int) (k:List TV→List TV→Option β):evalF Tryz.prog W2 Tryz.f98 [.d true 0 (D.int .i64 i),.d true 0 (D.pt 0 (D.pt 4 (D.ag [D.sl 0 ns,D.sl 0 al,D.int .i64 bk]))),.d true 0 (D.pt 0 (D.int .i64 kk))] k=if 0≤i then match al[i.toNat]? with
   |some x2=>match x2 with
    |D.int j3 m4=>if j3=IntKind.i64 then if 0≤kk then k [.d false 0 (D.bool (IntKind.wrap .i64 (↑(Int.toNat ((match m4,(2:Int) ^ min kk.toNat 64 with
     |(0:Int),x=>(0:Int)
     |Int.ofNat m,Int.ofNat n=>Int.ofNat (m / n)
     |Int.ofNat (Nat.succ m),Int.negSucc n=>Int.negSucc (m / Nat.succ n)
     |Int.negSucc a,(0:Int)=>(0:Int)
     |Int.negSucc m,Int.ofNat (Nat.succ n)=>Int.negSucc (m / Nat.succ n)
     |Int.negSucc m,Int.negSucc n=>Int.ofNat (Nat.succ m / Nat.succ n)) % Int.ofNat 18446744073709551616)&&& 1):Int)==1))] []else none else none
    |x=>none
   |none=>none else none:=by kernel_rfl
end C98
namespace C99
noncomputable def X:Fx:=⟨Tryz.prog,W2,4,1⟩
theorem start {β:Type} (i:Int) (k:List TV→List TV→Option β):evalF Tryz.prog W2 Tryz.f99 [.d true 0 (D.int .i64 i)] k=k [.d false 0 (D.bool true)] []:=by kernel_rfl
end C99
namespace C100
noncomputable def X:Fx:=⟨Tryz.prog,W2,8,2⟩
theorem start {β:Type} (i:Int) (a:List D) (k:List TV→List TV→Option β):evalF Tryz.prog W2 Tryz.f100 [.d true 0 (D.int .i64 i),.d true 0 (D.pt 0 (D.sl 0 a))] k=if 0≤i then match a[i.toNat]? with
   |some x2=>match x2 with
    |D.bool b3=>k [.d false 0 (D.bool !b3)] []
    |x=>none
   |none=>none else none:=by kernel_rfl
end C100
namespace C102
noncomputable def X:Fx:=⟨Tryz.prog,W2,16,2⟩
theorem start {β:Type} (i:Int) (ns:List D) (al:List D) (bk:Int) (k:List TV→List TV→Option β):evalF Tryz.prog W2 Tryz.f102 [.d true 0 (D.pt 4 (D.ag [D.sl 0 ns,D.sl 0 al,D.int .i64 bk])),.d true 0 (D.int .i64 i)] k=if decide (IntKind.wrap .i64 (i+1)<(al.length:Int))=true then k [.d false 0 (D.int .i64 (IntKind.wrap .i64 (i+1)))] []else k [.d false 0 (D.int .i64 bk)] []:=by kernel_rfl
end C102
namespace C105
noncomputable def X:Fx:=⟨Tryz.prog,W2,16,3⟩
theorem start {β:Type} (i:Int) (a:List D) (b:List D) (k:List TV→List TV→Option β):evalF Tryz.prog W2 Tryz.f105 [.d true 0 (D.int .i64 i),.d true 0 (D.pt 0 (D.sl 0 a)),.d true 0 (D.pt 0 (D.sl 0 b))] k=if 0≤i then match a[i.toNat]? with
   |some x2=>match x2 with
    |D.bool b3=>if b3=true then if 0≤i then match b[i.toNat]? with
     |some x4=>match x4 with
      |D.bool b5=>k [.d false 0 (D.bool b5)] []
      |x=>none
     |none=>none else none else k [.d false 0 (D.bool false)] []
    |x=>none
   |none=>none else none:=by kernel_rfl
end C105
namespace C106
noncomputable def X:Fx:=⟨Tryz.prog,W2,16,3⟩
theorem start {β:Type} (i:Int) (a:List D) (b:List D) (k:List TV→List TV→Option β):evalF Tryz.prog W2 Tryz.f106 [.d true 0 (D.int .i64 i),.d true 0 (D.pt 0 (D.sl 0 a)),.d true 0 (D.pt 0 (D.sl 0 b))] k=if 0≤i then match a[i.toNat]? with
   |some x2=>match x2 with
    |D.bool b3=>if b3=true then k [.d false 0 (D.bool true)] []else if 0≤i then match b[i.toNat]? with
     |some x4=>match x4 with
      |D.bool b5=>k [.d false 0 (D.bool b5)] []
      |x=>none
     |none=>none else none
    |x=>none
   |none=>none else none:=by kernel_rfl
end C106
namespace C107
noncomputable def X:Fx:=⟨Tryz.prog,W2,16,3⟩
theorem start {β:Type} (i:Int) (a:List D) (b:List D) (k:List TV→List TV→Option β):evalF Tryz.prog W2 Tryz.f107 [.d true 0 (D.int .i64 i),.d true 0 (D.pt 0 (D.sl 0 a)),.d true 0 (D.pt 0 (D.sl 0 b))] k=if 0≤i then match a[i.toNat]? with
   |some x2=>match x2 with
    |D.bool b3=>if(!b3)=true then k [.d false 0 (D.bool true)] []else if 0≤i then match b[i.toNat]? with
     |some x4=>match x4 with
      |D.bool b5=>k [.d false 0 (D.bool b5)] []
      |x=>none
     |none=>none else none
    |x=>none
   |none=>none else none:=by kernel_rfl
end C107
namespace C108
noncomputable def X:Fx:=⟨Tryz.prog,W2,16,3⟩
theorem start {β:Type} (i:Int) (a:List D) (b:List D) (k:List TV→List TV→Option β):evalF Tryz.prog W2 Tryz.f108 [.d true 0 (D.int .i64 i),.d true 0 (D.pt 0 (D.sl 0 a)),.d true 0 (D.pt 0 (D.sl 0 b))] k=if 0≤i then match a[i.toNat]? with
   |some x2=>match x2 with
    |D.bool b3=>if b3=true then k [.d false 0 (D.bool true)] []else if 0≤i then match b[i.toNat]? with
     |some x4=>match x4 with
      |D.bool b5=>k [.d false 0 (D.bool b5)] []
      |x=>none
     |none=>none else none
    |x=>none
   |none=>none else none:=by kernel_rfl
end C108
namespace C110
noncomputable def X:Fx:=⟨Tryz.prog,W2,64,4⟩
theorem start {β:Type} (i:Int) (later:Bool) (a:List D) (b:List D) (k:List TV→List TV→Option β):evalF Tryz.prog W2 Tryz.f110 [.d true 0 (D.int .i64 i),.d true 0 (D.bool later),.d true 0 (D.pt 0 (D.sl 0 a)),.d true 0 (D.pt 0 (D.sl 0 b))] k=if 0≤i then match a[i.toNat]? with
   |some x2=>match x2 with
    |D.bool b3=>if b3=true then if 0≤i then match b[i.toNat]? with
     |some x4=>match x4 with
      |D.bool b5=>if b5=true then k [.d false 0 (D.bool true)] []else k [.d false 0 (D.bool later)] []
      |x=>none
     |none=>none else none else k [.d false 0 (D.bool false)] []
    |x=>none
   |none=>none else none:=by kernel_rfl
end C110
namespace C120
noncomputable def X:Fx:=⟨Tryz.prog,W2,64,4⟩
theorem start {β:Type} (i:Int) (later:Bool) (a:List D) (b:List D) (k:List TV→List TV→Option β):evalF Tryz.prog W2 Tryz.f120 [.d true 0 (D.int .i64 i),.d true 0 (D.bool later),.d true 0 (D.pt 0 (D.sl 0 a)),.d true 0 (D.pt 0 (D.sl 0 b))] k=if 0≤i then match a[i.toNat]? with
   |some x2=>match x2 with
    |D.bool b3=>if b3=true then k [.d false 0 (D.bool true)] []else if 0≤i then match b[i.toNat]? with
     |some x4=>match x4 with
      |D.bool b5=>if b5=true then k [.d false 0 (D.bool later)] []else k [.d false 0 (D.bool false)] []
      |x=>none
     |none=>none else none
    |x=>none
   |none=>none else none:=by kernel_rfl
end C120
namespace C121
noncomputable def X:Fx:=⟨Tryz.prog,W2,32,3⟩
theorem start {β:Type} (i:Int) (later:Bool) (a:List D) (k:List TV→List TV→Option β):evalF Tryz.prog W2 Tryz.f121 [.d true 0 (D.int .i64 i),.d true 0 (D.bool later),.d true 0 (D.pt 0 (D.sl 0 a))] k=if 0≤i then match a[i.toNat]? with
   |some x2=>match x2 with
    |D.bool b3=>if b3=true then k [.d false 0 (D.bool later)] []else k [.d false 0 (D.bool false)] []
    |x=>none
   |none=>none else none:=by kernel_rfl
end C121
namespace C122
noncomputable def X:Fx:=⟨Tryz.prog,W2,8,2⟩
theorem start {β:Type} (i:Int) (t:Bool) (k:List TV→List TV→Option β):evalF Tryz.prog W2 Tryz.f122 [.d true 0 (D.int .i64 i),.d true 0 (D.pt 0 (D.bool t))] k=k [.d false 0 (D.bool t)] []:=by kernel_rfl
end C122
end Go.Sd
namespace Go.Sc
open Go Go.Cm
def bAt (xs:List D) (i:Int):Option Bool:=if 0≤i then(match xs[i.toNat]? with|some x=>(match x with|.bool b=>some b|_=>none)|none=>none)else none
def iAt (xs:List D) (i:Int):Option Int:=if 0≤i then(match xs[i.toNat]? with|some x=>(match x with|.int .i64 b=>some b|_=>none)|none=>none)else none
def nxt (n:Nat) (bk i:Int):Int:=if IntKind.wrap .i64 (i+1)<n then IntKind.wrap .i64 (i+1)else bk
def bitA (m k:Int):Bool:=IntKind.wrap .i64 (((m.fdiv (2 ^ min k.toNat 64)) % 18446744073709551616).toNat&&& 1:Nat)==1
def badI (n:Nat) (i:Int):Bool:=decide (i<0)||decide (i≥IntKind.wrap .i64 (1*2 ^ min n 64))
def sem1 (g:Nat) (i:Int) (sh:Nat) (x:D):Option Bool:=
 if g=59 then(match sh,x with|0,.sl 0 ns=>some (badI ns.length i)|_,_=>none)
 else if g=70 then(match sh,x with|5,.ag [.str op,.str _,.sl 5 _,.int .i64 _]=>some (op.toList==[116,114,117,101])|_,_=>none)
 else if g=100 then(match sh,x with|0,.sl 0 a=>(bAt a i).map (!·)|_,_=>none)
 else if g=122 then(match sh,x with|0,.bool t=>some t|_,_=>none)
 else none
def sem2 (g:Nat) (i:Int) (x y:D):Option Bool:=
 if g=98 then(match x,y with|.pt 4 (.ag [.sl 0 _,.sl 0 al,.int .i64 _]),.int .i64 k=>if 0≤k then(iAt al i).map (bitA · k)else none|_,_=>none)
 else if g=101 then(match x,y with|.sl 0 a,.pt 4 (.ag [.sl 0 _,.sl 0 al,.int .i64 bk])=>bAt a (nxt al.length bk i)|_,_=>none)
 else match x,y with
  |.sl 0 a,.sl 0 b=>
   if g=105 then(bAt a i).bind fun v=>if v then bAt b i else some false
   else if g=106 then(bAt a i).bind fun v=>if v then some true else bAt b i
   else if g=107 then(bAt a i).bind fun v=>if v then bAt b i else some true
   else if g=108 then(bAt a i).bind fun v=>if v then some true else bAt b i
   else none
  |_,_=>none
def semB (g:Nat) (args:List TV):Option Bool:=
 match args with
 |[.d true 0 (.int .i64 i)]=>if g=99 then some true else none
 |[.d true 0 (.int .i64 i),.d true 0 (.pt sh x)]=>sem1 g i sh x
 |[.d true 0 (.int .i64 i),.d true 0 (.pt 0 x),.d true 0 (.pt 0 y)]=>sem2 g i x y
 |_=>none
def now1 (g:Nat) (i:Int) (l:Bool) (x:D):Option Bool:=
 if g=121 then(match x with|.sl 0 a=>(bAt a i).bind fun v=>if v then some l else some false|_=>none)else none
def now2 (g:Nat) (i:Int) (l:Bool) (x y:D):Option Bool:=
 match x,y with
 |.sl 0 a,.sl 0 b=>
  if g=110 then(bAt a i).bind fun v=>if v then(bAt b i).bind fun u=>if u then some true else some l else some false
  else if g=120 then(bAt a i).bind fun v=>if v then some true else(bAt b i).bind fun u=>if u then some l else some false
  else none
 |_,_=>none
def nowB (g:Nat) (args:List TV):Option Bool:=
 match args with
 |[.d true 0 (.int .i64 i),.d true 0 (.bool l),.d true 0 (.pt 0 x)]=>now1 g i l x
 |[.d true 0 (.int .i64 i),.d true 0 (.bool l),.d true 0 (.pt 0 x),.d true 0 (.pt 0 y)]=>now2 g i l x y
 |_=>none
theorem bAt_ok {xs:List D} {i:Int} {b:Bool} (h:bAt xs i=some b):0≤i∧xs[i.toNat]? =some (.bool b):=by
 unfold bAt at h
 split at h
 ·rename_i h0
  split at h
  ·rename_i x hx
   split at h
   ·cases h;exact⟨h0,hx⟩
   ·cases h
  ·cases h
 ·cases h
theorem iAt_ok {xs:List D} {i:Int} {b:Int} (h:iAt xs i=some b):0≤i∧xs[i.toNat]? =some (.int .i64 b):=by
 unfold iAt at h
 split at h
 ·rename_i h0
  split at h
  ·rename_i x hx
   split at h
   ·cases h;exact⟨h0,hx⟩
   ·cases h
  ·cases h
 ·cases h
end Go.Sc
namespace Go.Sd
open Go Go.Cm Go.Proofs Go.Sc
def cClo {β:Type} (g:FuncId) (args:List TV) (k:List TV→List TV→Option β):Option β:=
 match semB g args with|some b=>k [.d false 0 (.bool b)] []|none=>none
def cNow {β:Type} (g:FuncId) (args:List TV) (k:List TV→List TV→Option β):Option β:=
 match nowB g args with|some b=>k [.d false 0 (.bool b)] []|none=>none
def cNext {β:Type} (args:List TV) (k:List TV→List TV→Option β):Option β:=
 match args with
 |[.d true 0 (.pt 4 (.ag [.sl 0 ns,.sl 0 al,.int .i64 bk])),.d true 0 (.int .i64 i)]=>k [.d false 0 (.int .i64 (nxt al.length bk i))] []
 |_=>none
def W3:Env:=W2.add 102 io0 cNext
def WC:Env:=⟨fun g args k=>cClo g args k,fun _ _=>false⟩
end Go.Sd
namespace Go.Sd
open Go Go.Cm Go.Proofs Go.Sc
set_option maxRecDepth 100000
namespace C101
theorem start {β:Type} (i:Int) (a:List D) (ns:List D) (al:List D) (bk:Int) (k:List TV→List TV→Option β):evalF Tryz.prog W3 Tryz.f101 [.d true 0 (D.int .i64 i),.d true 0 (D.pt 0 (D.sl 0 a)),.d true 0 (D.pt 0 (D.pt 4 (D.ag [D.sl 0 ns,D.sl 0 al,D.int .i64 bk])))] k=if 0≤nxt al.length bk i then match a[Int.toNat (nxt al.length bk i)]? with
   |some x2=>match x2 with
    |D.bool b3=>k [.d false 0 (D.bool b3)] []
    |x=>none
   |none=>none else none:=by kernel_rfl
end C101
namespace E0
noncomputable def X:Fx:=⟨Tryz.prog,WC,16,2⟩
def s0 (al:List D) (f:Nat) (x11:List D) (x12:Int):S:=⟨Tm.mk 26 [(1,.d true 0 (D.fn f [])),(5,.own false 0 x11),(14,.d false 0 (D.int .i64 (↑(List.length (List.replicate (Int.toNat (al.length:Int)) (D.bool false))):Int))),(15,.d false 0 (D.int .i64 x12))],[]⟩
def e0x0 (x25:List D):S:=⟨Tm.mk 26 [(5,.own false 0 x25)],[]⟩
noncomputable abbrev L0:S→Option (S ⊕ (Ex×S)):=roundK X [(0,32)] (sub [1,1,0,1,0,0] (body Tryz.f69))
theorem start {β:Type} (ns:List D) (al:List D) (bk:Int) (f:Nat) (k:List TV→List TV→Option β):evalF Tryz.prog WC Tryz.f69 [.d true 0 (D.pt 4 (D.ag [D.sl 0 ns,D.sl 0 al,D.int .i64 bk])),.d true 0 (D.fn f [])] k=if(0:Int)≤(al.length:Int)∧(al.length:Int)≤(al.length:Int)∧(al.length:Int)≤34359738368 then goLp X [(0,32)] (sub [1,1,0,1,0,0] (body Tryz.f69)) [Kf.block 0 32,Kf.seq [] (sub [1,1,1] (body Tryz.f69)) 16] (finK Tryz.prog Tryz.f69 [.d true 0 (D.pt 4 (D.ag [D.sl 0 ns,D.sl 0 al,D.int .i64 bk])),.d true 0 (D.fn f [])] k) (s0 al f (List.replicate (Int.toNat (al.length:Int)) (D.bool false)) (0:Int))else none:=by kernel_rfl
theorem round0 (al:List D) (f:Nat) (x11:List D) (x12:Int):roundK X [(0,32)] (sub [1,1,0,1,0,0] (body Tryz.f69)) (s0 al f x11 x12)=if decide (x12<(↑(List.length (List.replicate (Int.toNat (al.length:Int)) (D.bool false))):Int))=true then match semB f [.d true 0 (D.int .i64 x12)]with
   |some b34=>if 0≤x12∧x12<(x11.length:Int)then some (Sum.inl (s0 al f (List.set x11 x12.toNat (D.bool b34)) (IntKind.wrap .i64 (x12+1))))else none
   |none=>none else some (Sum.inr (Ex.exit 0,e0x0 x11)):=by kernel_rfl
theorem behind0x0 {β:Type} (ns:List D) (al:List D) (bk:Int) (f:Nat) (x25:List D) (k:List TV→List TV→Option β):applyK X (finK Tryz.prog Tryz.f69 [.d true 0 (D.pt 4 (D.ag [D.sl 0 ns,D.sl 0 al,D.int .i64 bk])),.d true 0 (D.fn f [])] k) [Kf.block 0 32,Kf.seq [] (sub [1,1,1] (body Tryz.f69)) 16] (Ex.exit 0) (e0x0 x25)=k [.own false 0 x25] []:=by kernel_rfl
end E0
namespace E1
noncomputable def X:Fx:=⟨Tryz.prog,WC,16,2⟩
def s0 (al:List D) (f:Nat) (sh:Nat) (x:D) (x11:List D) (x12:Int):S:=⟨Tm.mk 26 [(1,.d true 0 (D.fn f [D.pt sh x])),(5,.own false 0 x11),(14,.d false 0 (D.int .i64 (↑(List.length (List.replicate (Int.toNat (al.length:Int)) (D.bool false))):Int))),(15,.d false 0 (D.int .i64 x12))],[]⟩
def e0x0 (x25:List D):S:=⟨Tm.mk 26 [(5,.own false 0 x25)],[]⟩
noncomputable abbrev L0:S→Option (S ⊕ (Ex×S)):=roundK X [(0,32)] (sub [1,1,0,1,0,0] (body Tryz.f69))
theorem start {β:Type} (ns:List D) (al:List D) (bk:Int) (f:Nat) (sh:Nat) (x:D) (k:List TV→List TV→Option β):evalF Tryz.prog WC Tryz.f69 [.d true 0 (D.pt 4 (D.ag [D.sl 0 ns,D.sl 0 al,D.int .i64 bk])),.d true 0 (D.fn f [D.pt sh x])] k=if(0:Int)≤(al.length:Int)∧(al.length:Int)≤(al.length:Int)∧(al.length:Int)≤34359738368 then goLp X [(0,32)] (sub [1,1,0,1,0,0] (body Tryz.f69)) [Kf.block 0 32,Kf.seq [] (sub [1,1,1] (body Tryz.f69)) 16] (finK Tryz.prog Tryz.f69 [.d true 0 (D.pt 4 (D.ag [D.sl 0 ns,D.sl 0 al,D.int .i64 bk])),.d true 0 (D.fn f [D.pt sh x])] k) (s0 al f sh x (List.replicate (Int.toNat (al.length:Int)) (D.bool false)) (0:Int))else none:=by kernel_rfl
theorem round0 (al:List D) (f:Nat) (sh:Nat) (x:D) (x11:List D) (x12:Int):roundK X [(0,32)] (sub [1,1,0,1,0,0] (body Tryz.f69)) (s0 al f sh x x11 x12)=if decide (x12<(↑(List.length (List.replicate (Int.toNat (al.length:Int)) (D.bool false))):Int))=true then match semB f [.d true 0 (D.int .i64 x12),.d true 0 (D.pt sh x)]with
   |some b34=>if 0≤x12∧x12<(x11.length:Int)then some (Sum.inl (s0 al f sh x (List.set x11 x12.toNat (D.bool b34)) (IntKind.wrap .i64 (x12+1))))else none
   |none=>none else some (Sum.inr (Ex.exit 0,e0x0 x11)):=by kernel_rfl
theorem behind0x0 {β:Type} (ns:List D) (al:List D) (bk:Int) (f:Nat) (sh:Nat) (x:D) (x25:List D) (k:List TV→List TV→Option β):applyK X (finK Tryz.prog Tryz.f69 [.d true 0 (D.pt 4 (D.ag [D.sl 0 ns,D.sl 0 al,D.int .i64 bk])),.d true 0 (D.fn f [D.pt sh x])] k) [Kf.block 0 32,Kf.seq [] (sub [1,1,1] (body Tryz.f69)) 16] (Ex.exit 0) (e0x0 x25)=k [.own false 0 x25] []:=by kernel_rfl
end E1
namespace E2
noncomputable def X:Fx:=⟨Tryz.prog,WC,16,2⟩
def s0 (al:List D) (f:Nat) (x:D) (y:D) (x11:List D) (x12:Int):S:=⟨Tm.mk 26 [(1,.d true 0 (D.fn f [D.pt 0 x,D.pt 0 y])),(5,.own false 0 x11),(14,.d false 0 (D.int .i64 (↑(List.length (List.replicate (Int.toNat (al.length:Int)) (D.bool false))):Int))),(15,.d false 0 (D.int .i64 x12))],[]⟩
def e0x0 (x25:List D):S:=⟨Tm.mk 26 [(5,.own false 0 x25)],[]⟩
noncomputable abbrev L0:S→Option (S ⊕ (Ex×S)):=roundK X [(0,32)] (sub [1,1,0,1,0,0] (body Tryz.f69))
theorem start {β:Type} (ns:List D) (al:List D) (bk:Int) (f:Nat) (x:D) (y:D) (k:List TV→List TV→Option β):evalF Tryz.prog WC Tryz.f69 [.d true 0 (D.pt 4 (D.ag [D.sl 0 ns,D.sl 0 al,D.int .i64 bk])),.d true 0 (D.fn f [D.pt 0 x,D.pt 0 y])] k=if(0:Int)≤(al.length:Int)∧(al.length:Int)≤(al.length:Int)∧(al.length:Int)≤34359738368 then goLp X [(0,32)] (sub [1,1,0,1,0,0] (body Tryz.f69)) [Kf.block 0 32,Kf.seq [] (sub [1,1,1] (body Tryz.f69)) 16] (finK Tryz.prog Tryz.f69 [.d true 0 (D.pt 4 (D.ag [D.sl 0 ns,D.sl 0 al,D.int .i64 bk])),.d true 0 (D.fn f [D.pt 0 x,D.pt 0 y])] k) (s0 al f x y (List.replicate (Int.toNat (al.length:Int)) (D.bool false)) (0:Int))else none:=by kernel_rfl
theorem round0 (al:List D) (f:Nat) (x:D) (y:D) (x11:List D) (x12:Int):roundK X [(0,32)] (sub [1,1,0,1,0,0] (body Tryz.f69)) (s0 al f x y x11 x12)=if decide (x12<(↑(List.length (List.replicate (Int.toNat (al.length:Int)) (D.bool false))):Int))=true then match semB f [.d true 0 (D.int .i64 x12),.d true 0 (D.pt 0 x),.d true 0 (D.pt 0 y)]with
   |some b34=>if 0≤x12∧x12<(x11.length:Int)then some (Sum.inl (s0 al f x y (List.set x11 x12.toNat (D.bool b34)) (IntKind.wrap .i64 (x12+1))))else none
   |none=>none else some (Sum.inr (Ex.exit 0,e0x0 x11)):=by kernel_rfl
theorem behind0x0 {β:Type} (ns:List D) (al:List D) (bk:Int) (f:Nat) (x:D) (y:D) (x25:List D) (k:List TV→List TV→Option β):applyK X (finK Tryz.prog Tryz.f69 [.d true 0 (D.pt 4 (D.ag [D.sl 0 ns,D.sl 0 al,D.int .i64 bk])),.d true 0 (D.fn f [D.pt 0 x,D.pt 0 y])] k) [Kf.block 0 32,Kf.seq [] (sub [1,1,1] (body Tryz.f69)) 16] (Ex.exit 0) (e0x0 x25)=k [.own false 0 x25] []:=by kernel_rfl
end E2
end Go.Sd
namespace Go.Sd
open Go Go.Cm Go.Proofs Go.Sc
set_option maxRecDepth 100000
theorem envw3:EnvOk glS Tryz.prog W3:=envw2.fn mixed Tryz.func102 (by kernel_rfl) fun β args k r hr=>by
 unfold cNext at hr
 split at hr
 ·rename_i ns al bk i
  refine⟨_,_,hr,fun q=>?_⟩
  rw[C102.start]
  unfold nxt
  by_cases h:IntKind.wrap .i64 (i+1)<(al.length:Int)
  ·rw[if_pos (by simpa using h),if_pos h]
  ·rw[if_neg (by simpa using h),if_neg h]
 ·cases hr
theorem clo {E:Env} (hE:EnvOk glS Tryz.prog E) {g:FuncId} {fn:Func} (hf:Tryz.prog.funcs[g]? =some fn) (hn:(fn.name== "runtime.NumGoroutine")=false) {args:List TV} {b:Bool}
  (h:evalF Tryz.prog E fn args (fun a b=>some (a,b))=some ([.d false 0 (.bool b)],[])):Valid glS Tryz.prog g args [.d false 0 (.bool b)] []:=valid_of hE mixed hf hn h
theorem sem1_ok {g:Nat} {i:Int} {sh:Nat} {x:D} {b:Bool} (h:sem1 g i sh x=some b):Valid glS Tryz.prog g [.d true 0 (.int .i64 i),.d true 0 (.pt sh x)] [.d false 0 (.bool b)] []:=by
 unfold sem1 at h
 split at h
 ·rename_i e;subst e
  split at h
  ·rename_i ns
   cases h
   refine clo envw2 Tryz.func59 (by kernel_rfl) ?_
   rw[C59.start]
   unfold badI
   by_cases h0:i<0
   ·rw[if_pos (by simpa using h0)];simp[h0]
   ·rw[if_neg (by simpa using h0),if_pos (by omega)]
    simp[h0]
  ·cases h
 ·split at h
  ·rename_i e;subst e
   split at h
   ·rename_i op nm ks p
    cases h
    exact clo envw2 Tryz.func70 (by kernel_rfl) (by rw[C70.start])
   ·cases h
  ·split at h
   ·rename_i e;subst e
    split at h
    ·rename_i a
     cases ha:bAt a i with
     |none=>rw[ha]at h;cases h
     |some v=>
      rw[ha]at h;cases h
      obtain⟨h0,h1⟩:=bAt_ok ha
      exact clo envw2 Tryz.func100 (by kernel_rfl) (by rw[C100.start,if_pos h0];simp only[h1])
    ·cases h
   ·split at h
    ·rename_i e;subst e
     split at h
     ·cases h
      exact clo envw2 Tryz.func122 (by kernel_rfl) (by rw[C122.start])
     ·cases h
    ·cases h
theorem sem2_ok {g:Nat} {i:Int} {x y:D} {b:Bool} (h:sem2 g i x y=some b):Valid glS Tryz.prog g [.d true 0 (.int .i64 i),.d true 0 (.pt 0 x),.d true 0 (.pt 0 y)] [.d false 0 (.bool b)] []:=by
 unfold sem2 at h
 split at h
 ·rename_i e;subst e
  split at h
  ·rename_i ns al bk k
   split at h
   ·rename_i hk
    cases ha:iAt al i with
    |none=>rw[ha]at h;cases h
    |some m=>
     rw[ha]at h
     obtain⟨h0,h1⟩:=iAt_ok ha
     have e:b=bitA m k:=by simpa using h.symm
     subst e
     refine clo envw2 Tryz.func98 (by kernel_rfl) ?_
     rw[C98.start,if_pos h0]
     simp only[h1,if_true,if_pos hk]
     rfl
   ·cases h
  ·cases h
 ·split at h
  ·rename_i e;subst e
   split at h
   ·rename_i a ns al bk
    obtain⟨h0,h1⟩:=bAt_ok h
    exact clo envw3 Tryz.func101 (by kernel_rfl) (by rw[C101.start,if_pos h0];simp only[h1])
   ·cases h
  ·split at h
   ·rename_i a c
    have fin:∀v,bAt a i=some v→0≤i∧a[i.toNat]? =some (.bool v):=fun v h=>bAt_ok h
    have fin2:∀v,bAt c i=some v→0≤i∧c[i.toNat]? =some (.bool v):=fun v h=>bAt_ok h
    split at h
    ·rename_i e;subst e
     refine clo envw2 Tryz.func105 (by kernel_rfl) ?_
     rw[C105.start]
     cases ha:bAt a i with
     |none=>rw[ha]at h;cases h
     |some v=>
      rw[ha]at h
      obtain⟨h0,h1⟩:=fin v ha
      rw[if_pos h0];simp only[h1]
      cases v with
      |true=>obtain⟨_,h2⟩:=fin2 b h;simp only[if_true,if_pos h0,h2]
      |false=>cases h;rfl
    ·split at h
     ·rename_i e;subst e
      refine clo envw2 Tryz.func106 (by kernel_rfl) ?_
      rw[C106.start]
      cases ha:bAt a i with
      |none=>rw[ha]at h;cases h
      |some v=>
       rw[ha]at h
       obtain⟨h0,h1⟩:=fin v ha
       rw[if_pos h0];simp only[h1]
       cases v with
       |true=>cases h;rfl
       |false=>obtain⟨_,h2⟩:=fin2 b h;simp only[Bool.false_eq_true,if_false,if_pos h0,h2]
     ·split at h
      ·rename_i e;subst e
       refine clo envw2 Tryz.func107 (by kernel_rfl) ?_
       rw[C107.start]
       cases ha:bAt a i with
       |none=>rw[ha]at h;cases h
       |some v=>
        rw[ha]at h
        obtain⟨h0,h1⟩:=fin v ha
        rw[if_pos h0];simp only[h1]
        cases v with
        |false=>cases h;rfl
        |true=>obtain⟨_,h2⟩:=fin2 b h;simp only[Bool.not_true,Bool.false_eq_true,if_false,if_pos h0,h2]
      ·split at h
       ·rename_i e;subst e
        refine clo envw2 Tryz.func108 (by kernel_rfl) ?_
        rw[C108.start]
        cases ha:bAt a i with
        |none=>rw[ha]at h;cases h
        |some v=>
         rw[ha]at h
         obtain⟨h0,h1⟩:=fin v ha
         rw[if_pos h0];simp only[h1]
         cases v with
         |true=>cases h;rfl
         |false=>obtain⟨_,h2⟩:=fin2 b h;simp only[Bool.false_eq_true,if_false,if_pos h0,h2]
       ·cases h
   ·cases h
theorem semB_ok {g:FuncId} {args:List TV} {b:Bool} (h:semB g args=some b):Valid glS Tryz.prog g args [.d false 0 (.bool b)] []:=by
 unfold semB at h
 split at h
 ·split at h
  ·rename_i e;subst e
   cases h
   exact clo envw2 Tryz.func99 (by kernel_rfl) (by rw[C99.start])
  ·cases h
 ·exact sem1_ok h
 ·exact sem2_ok h
 ·cases h
theorem nowB_ok {g:FuncId} {args:List TV} {b:Bool} (h:nowB g args=some b):Valid glS Tryz.prog g args [.d false 0 (.bool b)] []:=by
 unfold nowB at h
 split at h
 ·rename_i i l x
  unfold now1 at h
  split at h
  ·rename_i e;subst e
   split at h
   ·rename_i a
    refine clo envw2 Tryz.func121 (by kernel_rfl) ?_
    rw[C121.start]
    cases ha:bAt a i with
    |none=>rw[ha]at h;cases h
    |some v=>
     rw[ha]at h
     obtain⟨h0,h1⟩:=bAt_ok ha
     rw[if_pos h0];simp only[h1]
     cases v with
     |true=>cases h;rfl
     |false=>cases h;rfl
   ·cases h
  ·cases h
 ·rename_i i l x y
  unfold now2 at h
  split at h
  ·rename_i a c
   split at h
   ·rename_i e;subst e
    refine clo envw2 Tryz.func110 (by kernel_rfl) ?_
    rw[C110.start]
    cases ha:bAt a i with
    |none=>rw[ha]at h;cases h
    |some v=>
     rw[ha]at h
     obtain⟨h0,h1⟩:=bAt_ok ha
     rw[if_pos h0];simp only[h1]
     cases v with
     |false=>cases h;rfl
     |true=>
      cases hc:bAt c i with
      |none=>simp only[hc,Option.bind_some,if_true,Option.bind_none]at h;cases h
      |some u=>
       simp only[hc,Option.bind_some,if_true]at h
       obtain⟨_,h2⟩:=bAt_ok hc
       simp only[if_true,if_pos h0,h2]
       cases u with
       |true=>cases h;rfl
       |false=>cases h;rfl
   ·split at h
    ·rename_i e;subst e
     refine clo envw2 Tryz.func120 (by kernel_rfl) ?_
     rw[C120.start]
     cases ha:bAt a i with
     |none=>rw[ha]at h;cases h
     |some v=>
      rw[ha]at h
      obtain⟨h0,h1⟩:=bAt_ok ha
      rw[if_pos h0];simp only[h1]
      cases v with
      |true=>cases h;rfl
      |false=>
       cases hc:bAt c i with
       |none=>simp only[hc,Option.bind_some,Bool.false_eq_true,if_false,Option.bind_none]at h;cases h
       |some u=>
        simp only[hc,Option.bind_some,Bool.false_eq_true,if_false]at h
        obtain⟨_,h2⟩:=bAt_ok hc
        simp only[Bool.false_eq_true,if_false,if_pos h0,h2]
        cases u with
        |true=>cases h;rfl
        |false=>cases h;rfl
    ·cases h
  ·cases h
 ·cases h
theorem envwc:EnvOk glS Tryz.prog WC:=by
 intro β g args k r hr
 change (cClo g args k=some r)at hr
 unfold cClo at hr
 split at hr
 ·rename_i b hb
  exact⟨_,_,hr,semB_ok hb⟩
 ·cases hr
end Go.Sd
namespace Go.Sc
open Go Go.Cm
def bD (l:List Bool):List D:=l.map .bool
def eachS (sem:Int→Option Bool):Nat→Nat→Option (List Bool)
 |_,0=>some []
 |i,m+1=>match sem i with|some b=>(eachS sem (i+1) m).map (b:: ·)|none=>none
def eachB (g:Nat) (cs:List TV) (n:Nat):Option (List Bool):=eachS (fun i=>semB g (.d true 0 (.int .i64 i)::cs)) 0 n
theorem bD_len (l:List Bool):(bD l).length=l.length:=by simp[bD]
end Go.Sc
namespace Go.Sd
open Go Go.Cm Go.Proofs Go.Sc
theorem each_loop {L:S→Option (S ⊕ (Ex×S))} {s:List D→Int→S} {e:List D→S} {sem:Int→Option Bool} {n:Nat} (hn:n≤34359738368)
  (hr:∀(xs:List D) (i:Int),L (s xs i)=if decide (i<(n:Int))=true then(match sem i with|some b=>if 0≤i∧i<(xs.length:Int)then some (.inl (s (xs.set i.toNat (.bool b)) (IntKind.wrap .i64 (i+1))))else none|none=>none)else some (.inr (.exit 0,e xs))):
  ∀(m i:Nat) (done bs:List Bool),done.length=i→i+m=n→eachS sem i m=some bs→Lp L (s (bD done++List.replicate m (.bool false)) i)=some (.exit 0,e (bD (done++bs)))
 |0,i,done,bs,h1,h2,h3=>by
  simp only[eachS,Option.some.injEq]at h3
  subst h3
  have:=hr (bD done++List.replicate 0 (.bool false)) i
  rw[if_neg (by simp;omega)]at this
  simpa using Lp_exit this
 |m+1,i,done,bs,h1,h2,h3=>by
  simp only[eachS]at h3
  split at h3
  ·rename_i b hb
   cases hm:eachS sem (i+1) m with
   |none=>rw[hm]at h3;cases h3
   |some l=>
    rw[hm]at h3
    simp only[Option.map_some,Option.some.injEq]at h3
    subst h3
    have ih:=each_loop hn hr m (i+1) (done++[b]) l (by simp[h1]) (by omega) hm
    have:=hr (bD done++List.replicate (m+1) (.bool false)) i
    rw[if_pos (by simp;omega),hb]at this
    simp only at this
    rw[if_pos (by simp[bD_len];omega),wrap_id (by omega) (by omega)]at this
    have e1:(bD done++List.replicate (m+1) (D.bool false)).set (i:Int).toNat (.bool b)=bD (done++[b])++List.replicate m (.bool false):=by
     rw[Int.toNat_natCast,List.set_append_right _ _ (by simp[bD_len,h1])]
     simp[bD_len,h1,List.replicate_succ,bD]
    rw[e1]at this
    have e2:bD (done++b::l)=bD ((done++[b])++l):=by simp
    rw[e2]
    exact Lp_step this ih
  ·cases h3
def cEach {β:Type} (args:List TV) (k:List TV→List TV→Option β):Option β:=
 match args with
 |[.d true 0 (.pt 4 (.ag [.sl 0 ns,.sl 0 al,.int .i64 bk])),.d true 0 (.fn f caps)]=>
  match caps with
  |[]=>chkK (al.length≤big) (match eachB f [] al.length with|some bs=>k [.own false 0 (bD bs)] []|none=>none)
  |[.pt sh x]=>chkK (al.length≤big) (match eachB f [.d true 0 (.pt sh x)] al.length with|some bs=>k [.own false 0 (bD bs)] []|none=>none)
  |[.pt 0 x,.pt 0 y]=>chkK (al.length≤big) (match eachB f [.d true 0 (.pt 0 x),.d true 0 (.pt 0 y)] al.length with|some bs=>k [.own false 0 (bD bs)] []|none=>none)
  |_=>none
 |_=>none
theorem each_fin {L:S→Option (S ⊕ (Ex×S))} {s:List D→Int→S} {e:List D→S} {g:Nat} {cs:List TV} {al:List D} {bs:List Bool} (hn:al.length≤big) (hb:eachB g cs al.length=some bs)
  (hr:∀(xs:List D) (i:Int),L (s xs i)=if decide (i<((List.replicate (Int.toNat (al.length:Int)) (D.bool false)).length:Int))=true then(match semB g (.d true 0 (.int .i64 i)::cs)with|some b=>if 0≤i∧i<(xs.length:Int)then some (.inl (s (xs.set i.toNat (.bool b)) (IntKind.wrap .i64 (i+1))))else none|none=>none)else some (.inr (.exit 0,e xs))):
  Lp L (s (List.replicate (Int.toNat (al.length:Int)) (.bool false)) 0)=some (.exit 0,e (bD bs)):=by
 have:=each_loop (L:=L) (s:=s) (e:=e) (sem:=fun i=>semB g (.d true 0 (.int .i64 i)::cs)) (n:=al.length) hn (fun xs i=>by rw[hr];simp) al.length 0 [] bs rfl (by omega) hb
 simpa[bD]using this
theorem each_if {n:Nat} (h:n≤big):(0:Int)≤(n:Int)∧(n:Int)≤(n:Int)∧(n:Int)≤(34359738368:Int):=by
 have:big=34359738368:=rfl
 omega
theorem envwe:EnvOk glS Tryz.prog (WC.add 69 io0 cEach):=envwc.fn mixed Tryz.func69 (by kernel_rfl) fun β args k r hr=>by
 unfold cEach at hr
 split at hr
 ·rename_i ns al bk f caps
  split at hr
  ·obtain⟨h0,hr⟩:=chkK_ok hr
   split at hr
   ·rename_i bs hb
    refine⟨_,_,hr,fun q=>?_⟩
    rw[E0.start,if_pos (each_if h0),goLp_of (each_fin (s:=E0.s0 al f) (e:=E0.e0x0) h0 hb fun xs i=>E0.round0 al f xs i),E0.behind0x0]
   ·cases hr
  ·rename_i sh x
   obtain⟨h0,hr⟩:=chkK_ok hr
   split at hr
   ·rename_i bs hb
    refine⟨_,_,hr,fun q=>?_⟩
    rw[E1.start,if_pos (each_if h0),goLp_of (each_fin (s:=E1.s0 al f sh x) (e:=E1.e0x0) h0 hb fun xs i=>E1.round0 al f sh x xs i),E1.behind0x0]
   ·cases hr
  ·rename_i x y
   obtain⟨h0,hr⟩:=chkK_ok hr
   split at hr
   ·rename_i bs hb
    refine⟨_,_,hr,fun q=>?_⟩
    rw[E2.start,if_pos (each_if h0),goLp_of (each_fin (s:=E2.s0 al f x y) (e:=E2.e0x0) h0 hb fun xs i=>E2.round0 al f x y xs i),E2.behind0x0]
   ·cases hr
  ·cases hr
 ·cases hr
def WA:Env:=⟨fun g args k=>match args with
 |.d t sh (.int q i)::rest=>cNow g (.d t sh (.int q i)::rest) k
 |args=>match Nat.beq g 69 with|true=>cEach args k|false=>match Nat.beq g 102 with|true=>cNext args k|false=>none,fun _ _=>false⟩
end Go.Sd
namespace Go.Sd
open Go Go.Cm Go.Proofs Go.Sc
set_option maxRecDepth 100000
namespace A1
noncomputable def X:Fx:=⟨Tryz.prog,WA,64,3⟩
def s0 (ns:List D) (al:List D) (bk:Int) (f:Nat) (x:D) (x27:List D) (x31:Int):S:=⟨Tm.mk 35 [(0,.d true 0 (D.pt 4 (D.ag [D.sl 0 ns,D.sl 0 al,D.int .i64 bk]))),(2,.d true 0 (D.fn f [D.pt 0 x])),(7,.own false 0 x27),(12,.d false 0 (D.int .i64 x31))],[]⟩
def s1 (ns:List D) (al:List D) (bk:Int) (f:Nat) (x:D) (x20:List D) (x21:Int) (x54:Int):S:=⟨Tm.mk 35 [(0,.d true 0 (D.pt 4 (D.ag [D.sl 0 ns,D.sl 0 al,D.int .i64 bk]))),(2,.d true 0 (D.fn f [D.pt 0 x])),(7,.own false 0 x20),(8,.d false 0 (D.int .i64 x21)),(12,.d false 0 (D.int .i64 x54))],[]⟩
def e1x2 (ns:List D) (al:List D) (bk:Int) (f:Nat) (x:D) (x45:List D) (x68:Int):S:=⟨Tm.mk 35 [(0,.d true 0 (D.pt 4 (D.ag [D.sl 0 ns,D.sl 0 al,D.int .i64 bk]))),(2,.d true 0 (D.fn f [D.pt 0 x])),(7,.own false 0 x45),(12,.d false 0 (D.int .i64 x68))],[]⟩
def e0x0 (x27:List D):S:=⟨Tm.mk 35 [(7,.own false 0 x27)],[]⟩
noncomputable abbrev L0:S→Option (S ⊕ (Ex×S)):=roundK X [(0,128)] (sub [1,1,0,1,0,0] (body Tryz.f109))
noncomputable abbrev L1:S→Option (S ⊕ (Ex×S)):=roundK X [(2,4229),(1,4229),(0,128)] (sub [1,1,0,1,0,0,1,1,0,0,1,0,0] (body Tryz.f109))
theorem start {β:Type} (ns:List D) (al:List D) (bk:Int) (t:Bool) (f:Nat) (x:D) (k:List TV→List TV→Option β):evalF Tryz.prog WA Tryz.f109 [.d true 0 (D.pt 4 (D.ag [D.sl 0 ns,D.sl 0 al,D.int .i64 bk])),.d true 0 (D.bool t),.d true 0 (D.fn f [D.pt 0 x])] k=if al.length≤34359738368 then match eachB 122 [.d true 0 (D.pt 0 (D.bool t))] al.length with
   |some bs73=>goLp X [(0,128)] (sub [1,1,0,1,0,0] (body Tryz.f109)) [Kf.block 0 128,Kf.seq [] (sub [1,1,1] (body Tryz.f109)) 64] (finK Tryz.prog Tryz.f109 [.d true 0 (D.pt 4 (D.ag [D.sl 0 ns,D.sl 0 al,D.int .i64 bk])),.d true 0 (D.bool t),.d true 0 (D.fn f [D.pt 0 x])] k) (s0 ns al bk f x (bD bs73) (0:Int))
   |none=>none else none:=by kernel_rfl
theorem round0 (ns:List D) (al:List D) (bk:Int) (f:Nat) (x:D) (x27:List D) (x31:Int):roundK X [(0,128)] (sub [1,1,0,1,0,0] (body Tryz.f109)) (s0 ns al bk f x x27 x31)=if decide (x31<2)=true then goLp X [(2,4229),(1,4229),(0,128)] (sub [1,1,0,1,0,0,1,1,0,0,1,0,0] (body Tryz.f109)) [Kf.block 2 4229,Kf.block 1 4229,Kf.seq [(0,128)] (sub [1,1,0,1,0,0,1,1,1] (body Tryz.f109)) 4229] (finR X [(0,128)] (sub [1,1,0,1,0,0] (body Tryz.f109))) (s1 ns al bk f x x27 (IntKind.wrap .i64 ((x27.length:Int) - 1)) x31)else some (Sum.inr (Ex.exit 0,e0x0 x27)):=by kernel_rfl
theorem round1 (ns:List D) (al:List D) (bk:Int) (f:Nat) (x:D) (x20:List D) (x21:Int) (x54:Int):roundK X [(2,4229),(1,4229),(0,128)] (sub [1,1,0,1,0,0,1,1,0,0,1,0,0] (body Tryz.f109)) (s1 ns al bk f x x20 x21 x54)=if decide (x21≥0)=true then if 0≤nxt al.length bk x21∧nxt al.length bk x21<(x20.length:Int)then match x20[Int.toNat (nxt al.length bk x21)]? with
   |some x81=>match x81 with
    |D.bool b82=>match nowB f [.d true 0 (D.int .i64 x21),.d true 0 (D.bool b82),.d true 0 (D.pt 0 x)]with
     |some b83=>if 0≤x21∧x21<(x20.length:Int)then some (Sum.inl (s1 ns al bk f x (List.set x20 x21.toNat (D.bool b83)) (IntKind.wrap .i64 (x21 - 1)) x54))else none
     |none=>none
    |x=>none
   |none=>none else none else some (Sum.inr (Ex.exit 2,e1x2 ns al bk f x x20 x54)):=by kernel_rfl
theorem behind1x2 (ns:List D) (al:List D) (bk:Int) (f:Nat) (x:D) (x45:List D) (x68:Int):applyK X (finR X [(0,128)] (sub [1,1,0,1,0,0] (body Tryz.f109))) [Kf.block 2 4229,Kf.block 1 4229,Kf.seq [(0,128)] (sub [1,1,0,1,0,0,1,1,1] (body Tryz.f109)) 4229] (Ex.exit 2) (e1x2 ns al bk f x x45 x68)=some (Sum.inl (s0 ns al bk f x x45 (IntKind.wrap .i64 (x68+1)))):=by kernel_rfl
theorem behind0x0 {β:Type} (ns:List D) (al:List D) (bk:Int) (t:Bool) (f:Nat) (x:D) (x27:List D) (k:List TV→List TV→Option β):applyK X (finK Tryz.prog Tryz.f109 [.d true 0 (D.pt 4 (D.ag [D.sl 0 ns,D.sl 0 al,D.int .i64 bk])),.d true 0 (D.bool t),.d true 0 (D.fn f [D.pt 0 x])] k) [Kf.block 0 128,Kf.seq [] (sub [1,1,1] (body Tryz.f109)) 64] (Ex.exit 0) (e0x0 x27)=k [.own false 0 x27] []:=by kernel_rfl
end A1
namespace A2
noncomputable def X:Fx:=⟨Tryz.prog,WA,64,3⟩
def s0 (ns:List D) (al:List D) (bk:Int) (f:Nat) (x:D) (y:D) (x27:List D) (x31:Int):S:=⟨Tm.mk 35 [(0,.d true 0 (D.pt 4 (D.ag [D.sl 0 ns,D.sl 0 al,D.int .i64 bk]))),(2,.d true 0 (D.fn f [D.pt 0 x,D.pt 0 y])),(7,.own false 0 x27),(12,.d false 0 (D.int .i64 x31))],[]⟩
def s1 (ns:List D) (al:List D) (bk:Int) (f:Nat) (x:D) (y:D) (x20:List D) (x21:Int) (x54:Int):S:=⟨Tm.mk 35 [(0,.d true 0 (D.pt 4 (D.ag [D.sl 0 ns,D.sl 0 al,D.int .i64 bk]))),(2,.d true 0 (D.fn f [D.pt 0 x,D.pt 0 y])),(7,.own false 0 x20),(8,.d false 0 (D.int .i64 x21)),(12,.d false 0 (D.int .i64 x54))],[]⟩
def e1x2 (ns:List D) (al:List D) (bk:Int) (f:Nat) (x:D) (y:D) (x45:List D) (x68:Int):S:=⟨Tm.mk 35 [(0,.d true 0 (D.pt 4 (D.ag [D.sl 0 ns,D.sl 0 al,D.int .i64 bk]))),(2,.d true 0 (D.fn f [D.pt 0 x,D.pt 0 y])),(7,.own false 0 x45),(12,.d false 0 (D.int .i64 x68))],[]⟩
def e0x0 (x27:List D):S:=⟨Tm.mk 35 [(7,.own false 0 x27)],[]⟩
noncomputable abbrev L0:S→Option (S ⊕ (Ex×S)):=roundK X [(0,128)] (sub [1,1,0,1,0,0] (body Tryz.f109))
noncomputable abbrev L1:S→Option (S ⊕ (Ex×S)):=roundK X [(2,4229),(1,4229),(0,128)] (sub [1,1,0,1,0,0,1,1,0,0,1,0,0] (body Tryz.f109))
theorem start {β:Type} (ns:List D) (al:List D) (bk:Int) (t:Bool) (f:Nat) (x:D) (y:D) (k:List TV→List TV→Option β):evalF Tryz.prog WA Tryz.f109 [.d true 0 (D.pt 4 (D.ag [D.sl 0 ns,D.sl 0 al,D.int .i64 bk])),.d true 0 (D.bool t),.d true 0 (D.fn f [D.pt 0 x,D.pt 0 y])] k=if al.length≤34359738368 then match eachB 122 [.d true 0 (D.pt 0 (D.bool t))] al.length with
   |some bs73=>goLp X [(0,128)] (sub [1,1,0,1,0,0] (body Tryz.f109)) [Kf.block 0 128,Kf.seq [] (sub [1,1,1] (body Tryz.f109)) 64] (finK Tryz.prog Tryz.f109 [.d true 0 (D.pt 4 (D.ag [D.sl 0 ns,D.sl 0 al,D.int .i64 bk])),.d true 0 (D.bool t),.d true 0 (D.fn f [D.pt 0 x,D.pt 0 y])] k) (s0 ns al bk f x y (bD bs73) (0:Int))
   |none=>none else none:=by kernel_rfl
theorem round0 (ns:List D) (al:List D) (bk:Int) (f:Nat) (x:D) (y:D) (x27:List D) (x31:Int):roundK X [(0,128)] (sub [1,1,0,1,0,0] (body Tryz.f109)) (s0 ns al bk f x y x27 x31)=if decide (x31<2)=true then goLp X [(2,4229),(1,4229),(0,128)] (sub [1,1,0,1,0,0,1,1,0,0,1,0,0] (body Tryz.f109)) [Kf.block 2 4229,Kf.block 1 4229,Kf.seq [(0,128)] (sub [1,1,0,1,0,0,1,1,1] (body Tryz.f109)) 4229] (finR X [(0,128)] (sub [1,1,0,1,0,0] (body Tryz.f109))) (s1 ns al bk f x y x27 (IntKind.wrap .i64 ((x27.length:Int) - 1)) x31)else some (Sum.inr (Ex.exit 0,e0x0 x27)):=by kernel_rfl
theorem round1 (ns:List D) (al:List D) (bk:Int) (f:Nat) (x:D) (y:D) (x20:List D) (x21:Int) (x54:Int):roundK X [(2,4229),(1,4229),(0,128)] (sub [1,1,0,1,0,0,1,1,0,0,1,0,0] (body Tryz.f109)) (s1 ns al bk f x y x20 x21 x54)=if decide (x21≥0)=true then if 0≤nxt al.length bk x21∧nxt al.length bk x21<(x20.length:Int)then match x20[Int.toNat (nxt al.length bk x21)]? with
   |some x81=>match x81 with
    |D.bool b82=>match nowB f [.d true 0 (D.int .i64 x21),.d true 0 (D.bool b82),.d true 0 (D.pt 0 x),.d true 0 (D.pt 0 y)]with
     |some b83=>if 0≤x21∧x21<(x20.length:Int)then some (Sum.inl (s1 ns al bk f x y (List.set x20 x21.toNat (D.bool b83)) (IntKind.wrap .i64 (x21 - 1)) x54))else none
     |none=>none
    |x=>none
   |none=>none else none else some (Sum.inr (Ex.exit 2,e1x2 ns al bk f x y x20 x54)):=by kernel_rfl
theorem behind1x2 (ns:List D) (al:List D) (bk:Int) (f:Nat) (x:D) (y:D) (x45:List D) (x68:Int):applyK X (finR X [(0,128)] (sub [1,1,0,1,0,0] (body Tryz.f109))) [Kf.block 2 4229,Kf.block 1 4229,Kf.seq [(0,128)] (sub [1,1,0,1,0,0,1,1,1] (body Tryz.f109)) 4229] (Ex.exit 2) (e1x2 ns al bk f x y x45 x68)=some (Sum.inl (s0 ns al bk f x y x45 (IntKind.wrap .i64 (x68+1)))):=by kernel_rfl
theorem behind0x0 {β:Type} (ns:List D) (al:List D) (bk:Int) (t:Bool) (f:Nat) (x:D) (y:D) (x27:List D) (k:List TV→List TV→Option β):applyK X (finK Tryz.prog Tryz.f109 [.d true 0 (D.pt 4 (D.ag [D.sl 0 ns,D.sl 0 al,D.int .i64 bk])),.d true 0 (D.bool t),.d true 0 (D.fn f [D.pt 0 x,D.pt 0 y])] k) [Kf.block 0 128,Kf.seq [] (sub [1,1,1] (body Tryz.f109)) 64] (Ex.exit 0) (e0x0 x27)=k [.own false 0 x27] []:=by kernel_rfl
end A2
end Go.Sd
set_option maxRecDepth 100000
namespace Go.Sc
open Go Go.Cm
def passS (now:Int→Bool→Option Bool) (n:Nat) (bk:Int):Nat→List Bool→Option (List Bool)
 |0,l=>some l
 |m+1,l=>if 0≤nxt n bk m then(match l[(nxt n bk m).toNat]? with
  |some later=>match now m later with
   |some b=>passS now n bk m (l.set m b)
   |none=>none
  |none=>none)else none
def alongS (now:Int→Bool→Option Bool) (n:Nat) (bk:Int) (t:Bool):Option (List Bool):=(passS now n bk n (List.replicate n t)).bind (passS now n bk n)
def alongB (g:Nat) (cs:List TV) (n:Nat) (bk:Int) (t:Bool):Option (List Bool):=alongS (fun i l=>nowB g (.d true 0 (.int .i64 i)::.d true 0 (.bool l)::cs)) n bk t
theorem passS_len {now:Int→Bool→Option Bool} {n:Nat} {bk:Int}:∀{m:Nat} {l l':List Bool},passS now n bk m l=some l'→l'.length=l.length
 |0,l,l',h=>by simp[passS]at h;subst h;rfl
 |m+1,l,l',h=>by
  simp only[passS]at h
  split at h
  ·split at h
   ·split at h
    ·rw[passS_len h,List.length_set]
    ·cases h
   ·cases h
  ·cases h
theorem eachS_const (t:Bool):∀(m i:Nat),eachS (fun _=>some t) i m=some (List.replicate m t)
 |0,i=>rfl
 |m+1,i=>by simp[eachS,eachS_const t m (i+1),List.replicate_succ]
theorem eachB122 (t:Bool) (n:Nat):eachB 122 [.d true 0 (.pt 0 (.bool t))] n=some (List.replicate n t):=by
 have:(fun i:Int=>semB 122 (.d true 0 (.int .i64 i)::[.d true 0 (.pt 0 (.bool t))]))=fun _=>some t:=by funext i;simp[semB,sem1]
 unfold eachB;rw[this];exact eachS_const t n 0
end Go.Sc
namespace Go.Sd
open Go Go.Cm Go.Proofs Go.Sc
theorem pass_loop {L:S→Option (S ⊕ (Ex×S))} {s:List D→Int→S} {e:List D→S} {now:Int→Bool→Option Bool} {n:Nat} {bk:Int} (hn:n≤34359738368)
  (hr:∀(xs:List D) (i:Int),L (s xs i)=if decide (i≥0)=true then
   (if 0≤nxt n bk i∧nxt n bk i<(xs.length:Int)then(match xs[(nxt n bk i).toNat]? with
    |some x=>match x with
     |.bool b=>match now i b with
      |some c=>if 0≤i∧i<(xs.length:Int)then some (.inl (s (xs.set i.toNat (.bool c)) (IntKind.wrap .i64 (i - 1))))else none
      |none=>none
     |_=>none
    |none=>none)else none)
   else some (.inr (.exit 2,e xs))):
  ∀(m:Nat) (l l':List Bool),l.length=n→m≤n→passS now n bk m l=some l'→Lp L (s (bD l) ((m:Int) - 1))=some (.exit 2,e (bD l'))
 |0,l,l',h1,h2,h3=>by
  simp only[passS,Option.some.injEq]at h3
  subst h3
  have:=hr (bD l) ((0:Nat) - 1)
  rw[if_neg (by decide)]at this
  exact Lp_exit this
 |m+1,l,l',h1,h2,h3=>by
  simp only[passS]at h3
  split at h3
  ·rename_i hp
   split at h3
   ·rename_i later hl
    split at h3
    ·rename_i b hb
     have ih:=pass_loop hn hr m (l.set m b) l' (by simp[h1]) (by omega) h3
     have:=hr (bD l) m
     have hlt:=(List.getElem?_eq_some_iff.1 hl).1
     have hd:(bD l)[(nxt n bk m).toNat]? =some (.bool later):=by simp[bD,hl]
     rw[if_pos (by simp),if_pos ⟨hp,by rw[bD_len];omega⟩,hd]at this
     simp only[hb]at this
     rw[if_pos ⟨by omega,by rw[bD_len];omega⟩,wrap_id (by omega) (by omega)]at this
     have e1:(bD l).set (m:Int).toNat (.bool b)=bD (l.set m b):=by simp[bD,List.map_set]
     rw[e1]at this
     rw[show(((m+1:Nat):Int) - 1)=(m:Int)from by omega]
     exact Lp_step this ih
    ·cases h3
   ·cases h3
  ·cases h3
def cAlong {β:Type} (args:List TV) (k:List TV→List TV→Option β):Option β:=
 match args with
 |[.d true 0 (.pt 4 (.ag [.sl 0 ns,.sl 0 al,.int .i64 bk])),.d true 0 (.bool t),.d true 0 (.fn f caps)]=>
  match caps with
  |[.pt 0 x]=>chkK (al.length≤big) (match alongB f [.d true 0 (.pt 0 x)] al.length bk t with|some bs=>k [.own false 0 (bD bs)] []|none=>none)
  |[.pt 0 x,.pt 0 y]=>chkK (al.length≤big) (match alongB f [.d true 0 (.pt 0 x),.d true 0 (.pt 0 y)] al.length bk t with|some bs=>k [.own false 0 (bD bs)] []|none=>none)
  |_=>none
 |_=>none
theorem envwa:EnvOk glS Tryz.prog WA:=by
 intro β g args k r hr
 simp only[WA]at hr
 split at hr
 ·rename_i t sh q i rest
  unfold cNow at hr
  split at hr
  ·rename_i b hb
   exact⟨_,_,hr,nowB_ok hb⟩
  ·cases hr
 ·split at hr
  ·rename_i e
   rw[Cm.beq_true]at e;subst e
   exact envwe β 69 _ k r hr
  ·split at hr
   ·rename_i e
    rw[Cm.beq_true]at e;subst e
    exact envw3 β 102 _ k r hr
   ·cases hr
theorem along_outer {L0:S→Option (S ⊕ (Ex×S))} {s:List D→Int→S} {e:List D→S} {a b c:List D} (h0:L0 (s a 0)=some (.inl (s b (IntKind.wrap .i64 (0+1))))) (h1:L0 (s b 1)=some (.inl (s c (IntKind.wrap .i64 (1+1)))))
  (h2:L0 (s c 2)=some (.inr (.exit 0,e c))):Lp L0 (s a 0)=some (.exit 0,e c):=Lp_step h0 (Lp_step h1 (Lp_exit h2))
theorem enval:EnvOk glS Tryz.prog (WA.add 109 io0 cAlong):=envwa.fn mixed Tryz.func109 (by kernel_rfl) fun β args k r hr=>by
 unfold cAlong at hr
 have hbig:big=34359738368:=rfl
 split at hr
 ·rename_i ns al bk t f caps
  split at hr
  ·rename_i x
   obtain⟨h0,hr⟩:=chkK_ok hr
   rw[hbig]at h0
   split at hr
   ·rename_i bs hb
    refine⟨_,_,hr,fun q=>?_⟩
    unfold alongB alongS at hb
    cases hp:passS (fun i l=>nowB f (.d true 0 (.int .i64 i)::.d true 0 (.bool l)::[.d true 0 (.pt 0 x)])) al.length bk al.length (List.replicate al.length t)with
    |none=>rw[hp]at hb;cases hb
    |some l1=>
     rw[hp]at hb
     have hb:passS _ al.length bk al.length l1=some bs:=hb
     have hl1:=passS_len hp
     have hl2:=passS_len hb
     rw[List.length_replicate]at hl1
     have rnd:∀(l l':List Bool) (j:Int),l.length=al.length→decide (j<2)=true→passS (fun i l=>nowB f (.d true 0 (.int .i64 i)::.d true 0 (.bool l)::[.d true 0 (.pt 0 x)])) al.length bk al.length l=some l'→
       A1.L0 (A1.s0 ns al bk f x (bD l) j)=some (.inl (A1.s0 ns al bk f x (bD l') (IntKind.wrap .i64 (j+1)))):=by
      intro l l' j hl hj hp
      have hw:IntKind.wrap .i64 (((bD l).length:Int) - 1)=(al.length:Int) - 1:=by rw[bD_len,hl];exact wrap_id (by omega) (by omega)
      have:=pass_loop (L:=A1.L1) (s:=fun xs i=>A1.s1 ns al bk f x xs i j) (e:=fun xs=>A1.e1x2 ns al bk f x xs j) (n:=al.length) (bk:=bk)
       (now:=fun i l=>nowB f (.d true 0 (.int .i64 i)::.d true 0 (.bool l)::[.d true 0 (.pt 0 x)])) h0 (fun xs i=>A1.round1 ns al bk f x xs i j) al.length l l' hl (Nat.le_refl _) hp
      show roundK _ _ _ _=_
      rw[A1.round0,if_pos hj,hw,goLp_of this,A1.behind1x2]
     rw[A1.start,if_pos h0,eachB122]
     simp only
     have r2:=A1.round0 ns al bk f x (bD bs) 2
     rw[if_neg (by decide)]at r2
     rw[goLp_of (along_outer (s:=A1.s0 ns al bk f x) (e:=A1.e0x0) (rnd _ l1 0 (by simp) (by decide) hp) (rnd l1 bs 1 hl1 (by decide) hb) r2),A1.behind0x0]
   ·cases hr
  ·rename_i x y
   obtain⟨h0,hr⟩:=chkK_ok hr
   rw[hbig]at h0
   split at hr
   ·rename_i bs hb
    refine⟨_,_,hr,fun q=>?_⟩
    unfold alongB alongS at hb
    cases hp:passS (fun i l=>nowB f (.d true 0 (.int .i64 i)::.d true 0 (.bool l)::[.d true 0 (.pt 0 x),.d true 0 (.pt 0 y)])) al.length bk al.length (List.replicate al.length t)with
    |none=>rw[hp]at hb;cases hb
    |some l1=>
     rw[hp]at hb
     have hb:passS _ al.length bk al.length l1=some bs:=hb
     have hl1:=passS_len hp
     have hl2:=passS_len hb
     rw[List.length_replicate]at hl1
     have rnd:∀(l l':List Bool) (j:Int),l.length=al.length→decide (j<2)=true→passS (fun i l=>nowB f (.d true 0 (.int .i64 i)::.d true 0 (.bool l)::[.d true 0 (.pt 0 x),.d true 0 (.pt 0 y)])) al.length bk al.length l=some l'→
       A2.L0 (A2.s0 ns al bk f x y (bD l) j)=some (.inl (A2.s0 ns al bk f x y (bD l') (IntKind.wrap .i64 (j+1)))):=by
      intro l l' j hl hj hp
      have hw:IntKind.wrap .i64 (((bD l).length:Int) - 1)=(al.length:Int) - 1:=by rw[bD_len,hl];exact wrap_id (by omega) (by omega)
      have:=pass_loop (L:=A2.L1) (s:=fun xs i=>A2.s1 ns al bk f x y xs i j) (e:=fun xs=>A2.e1x2 ns al bk f x y xs j) (n:=al.length) (bk:=bk)
       (now:=fun i l=>nowB f (.d true 0 (.int .i64 i)::.d true 0 (.bool l)::[.d true 0 (.pt 0 x),.d true 0 (.pt 0 y)])) h0 (fun xs i=>A2.round1 ns al bk f x y xs i j) al.length l l' hl (Nat.le_refl _) hp
      show roundK _ _ _ _=_
      rw[A2.round0,if_pos hj,hw,goLp_of this,A2.behind1x2]
     rw[A2.start,if_pos h0,eachB122]
     simp only
     have r2:=A2.round0 ns al bk f x y (bD bs) 2
     rw[if_neg (by decide)]at r2
     rw[goLp_of (along_outer (s:=A2.s0 ns al bk f x y) (e:=A2.e0x0) (rnd _ l1 0 (by simp) (by decide) hp) (rnd l1 bs 1 hl1 (by decide) hb) r2),A2.behind0x0]
   ·cases hr
  ·cases hr
 ·cases hr
end Go.Sd

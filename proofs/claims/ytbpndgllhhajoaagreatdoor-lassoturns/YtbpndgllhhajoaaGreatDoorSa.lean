/- Plain Lean for the scan laws, part 0: texts as lists of bytes; what the small functions of the scanner answer. -/
import Derived.Test.YtbpndgllhhajoaaGreatDoorMd
import Derived.Lib.Bytealg
import Derived.Laws.Strings2
import Derived.KernelRfl
import Derived.Test.YtbpndgllhhajoaaGreatDoorProg
set_option linter.unusedVariables false
set_option linter.unusedSimpArgs false
namespace Go.Sc
open Go
abbrev T8:=List UInt8
def B (l:T8):ByteArray:=⟨l.toArray⟩
theorem B_of (s:ByteArray):s=B s.data.toList:=by cases s;simp[B]
theorem B_size (l:T8):(B l).size=l.length:=by simp[B,ByteArray.size]
theorem B_get (l:T8) (i:Nat):(B l)[i]? =l[i]? :=by
 by_cases h:i<l.length
 ·rw[ByteArray.getElem?_lt' _ _ (by rw[B_size];exact h)]
  rw[List.getElem?_eq_getElem h]
  rfl
 ·rw[ByteArray.getElem?_ge' _ _ (by rw[B_size];exact h)]
  rw[List.getElem?_eq_none (by omega)]
theorem B_list (l:T8):(B l).toList=l:=ByteArray.toList_mk l
theorem B_cut (l:T8) (a b:Nat):(B l).extract a b=B ((l.drop a).take (b - a)):=ByteArray.extract_mk l a b
def kindI (c:Int):Int:=
 if 97≤c∧c≤122∨65≤c∧c≤90∨c=95 then 1
 else if 48≤c∧c≤57 then 2
 else if c=34 then 3
 else if c∈[45,60,62,33,61,46,91,93,40,41,58,59,44,43,42,38,124,63,39]then 4
 else -1
theorem indexByte_mem (l:T8) (c:UInt8):(0≤Lib.indexByte l c)↔c∈l:=by
 induction l with
 |nil=>simp[Lib.indexByte]
 |cons b l ih=>
  have hg:=Lib.indexByte_ge l c
  unfold Lib.indexByte
  by_cases hb:b=c
  ·simp[hb]
  ·rw[if_neg (by simpa using hb)]
   by_cases h:Lib.indexByte l c= -1
   ·rw[if_pos (by simpa using h)]
    rw[h]at ih
    simp only[List.mem_cons,(Ne.symm hb:c≠b),false_or, ←ih]
   ·rw[if_neg (by simpa using h)]
    simp only[List.mem_cons,(Ne.symm hb:c≠b),false_or, ←ih]
    omega
theorem firstIdx_eq (l:T8) (c:UInt8):firstIdx (B l) c=Lib.indexByte l c:=by
 rw[←Lib.find_range l c 0]
 unfold firstIdx
 have e:(List.range l.length).map (· +0)=List.range l.length:=by simp
 rw[e,B_size]
 have:(List.range l.length).find? (fun i=>(B l)[i]! ==c)=(List.range l.length).find? (fun i=>l.getD (i - 0) 0==c):=by
  apply Lib.find_congr
  intro i hi
  have hi:=List.mem_range.1 hi
  have h1:(B l)[i]! =l[i]:=by
   simp only[B]
   rw[getElem!_pos _ i (by simpa[ByteArray.size]using hi)]
   rfl
  rw[h1,Nat.sub_zero]
  simp[hi]
 rw[this]
 cases (List.range l.length).find? (fun i=>l.getD (i - 0) 0==c)<;>simp
end Go.Sc
namespace Go.Sc
open Go
def idxS (s:ByteArray) (c:Int):Int:=firstIdx s c.toNat.toUInt8
def hasP (s p:ByteArray):Bool:=p.toList.isPrefixOf s.toList
def indexS (s:ByteArray) (c:UInt8):Int:=Lib.indexByte s.toList c
def valI:T8→Int→Option Int
 |[],n=>some n
 |c::r,n=>if n>(9223372036854775807 - ((c.toNat:Int) - 48)).tdiv 10 then none else valI r (10*n+((c.toNat:Int) - 48))
def runL (p:Int→Bool) (l:T8):Nat:=(l.takeWhile fun c=>p (kindI c.toNat)).length
def quotedL (l:T8):Nat:=
 match l with
 |[]=>0
 |_::r=>
  let n:=(r.takeWhile fun c=>c != 34).length
  if r.length≤n then 0 else
  if n<1∨32<n then 0 else
  if(r.take n).all (fun c=>32≤c.toNat&&c.toNat≤126)then n+2 else 0
def small (s:ByteArray):Prop:=s.size≤1152921504606846976
instance (s:ByteArray):Decidable (small s):=by unfold small;infer_instance
def inS (s:ByteArray) (at':Int):Prop:=small s∧0≤at'∧at'≤s.size
instance (s:ByteArray) (a:Int):Decidable (inS s a):=by unfold inS;infer_instance
def digitsL (l:T8):Prop:=∀c∈l,48≤c.toNat∧c.toNat≤57
instance (l:T8):Decidable (digitsL l):=by unfold digitsL;infer_instance
def may1 (k:Int):Bool:=k==1||k==2
def may2 (k:Int):Bool:=k==2
def marks:List T8:=[[45,62],[60,61],[62,61],[33,61],[61,62],[46,46]]
def markL (l:T8):Nat:=if marks.any (·.isPrefixOf l)then 2 else if l.head? =some 46 then 0 else 1
def isWs (c:UInt8):Bool:=c==32||c==9||c==10||c==13
def blankL (l:T8):Nat:=
 match l with
 |[]=>0
 |c::r=>
  if isWs c then 1+blankL r
  else match c,r with
   |47,47::q=>let n:=(q.takeWhile fun c=>c != 10).length;2+n+blankL (q.drop n)
   |_,_=>0
  termination_by l.length
  decreasing_by
 ·simp
 ·simp;omega
def oneL (l:T8):Int ⊕ (Int×T8×Nat):=
 match l with
 |[]=>.inl 20
 |c::_=>
  let t:=kindI c.toNat
  if t=1 then let n:=runL (fun k=>k==1||k==2) l;.inr (1,l.take n,n)
  else if t=2 then let n:=runL (fun k=>k==2) l;if(valI (l.take n) 0).isSome then .inr (2,l.take n,n)else .inl 10
  else if t=3 then let n:=quotedL l;if 0<n then .inr (3,(l.drop 1).take (n - 2),n)else .inl 20
  else if t=4 then let n:=markL l;if n=0 then .inl 20 else .inr (4,l.take n,n)
  else .inl 20
abbrev Tok:=Int×T8×Nat
def toksL (n:Nat) (l:T8) (p:Nat):(Int×Nat) ⊕ List Tok:=
 match n with
 |0=>.inl (20,p)
 |n+1=>match l with
  |[]=>.inr [(0,[],p)]
  |_=>match oneL l with
   |.inl e=>.inl (e,p)
   |.inr (k,t,m)=>
    let b:=blankL (l.drop m)
    match toksL n ((l.drop m).drop b) (p+m+b)with
    |.inl e=>.inl e
    |.inr r=>.inr ((k,t,p)::r)
def tokS (l:T8):(Int×Nat) ⊕ List Tok:=toksL (l.length+1) (l.drop (blankL l)) (blankL l)
def tokT (x:Tok):Cm.D:=.ag [.int .i64 x.1,.str (B x.2.1),.int .i64 x.2.2]
def signs:List T8:=[[45,62],[60,61],[62,61],[33,61],[61,62],[46,46],[91],[93],[40],[41],[58],[59],[44],[43],[45],[42],[38],[124],[33],[61],[60],[62],[63],[39]]
end Go.Sc
namespace Go.Sd
open Go Go.Cm Go.Proofs Go.Sc
set_option maxRecDepth 100000
theorem mixed:Tryz.prog.follows .mixedOrders=true:=by kernel_rfl
theorem idx_set (s:ByteArray) (c:Int) (w:World):(callFunc 143 #[.string s,.int .u8 c]).run Tryz.prog w=.ok (.value (.int .i64 (firstIdx s c.toNat.toUInt8))) w:=by
 rw[run_callFunc_extern (e:=Extern.BytealgIndexByte.indexByte) Tryz.func143 (by kernel_rfl) (by kernel_rfl) (by kernel_rfl) (by kernel_rfl),run_indexByte_string]
 rfl
def cIdx {β:Type} (args:List TV) (k:List TV→List TV→Option β):Option β:=
 match args with
 |[.d true 0 (.str s),.d true 0 (.int .u8 c)]=>k [.d false 0 (.int .i64 (idxS s c))] []
 |_=>none
def cHas {β:Type} (args:List TV) (k:List TV→List TV→Option β):Option β:=
 match args with
 |[.d true 0 (.str s),.d true 0 (.str p)]=>k [.d false 0 (.bool (hasP s p))] []
 |_=>none
def cIndex {β:Type} (args:List TV) (k:List TV→List TV→Option β):Option β:=
 match args with
 |[.d true 0 (.str s),.d true 0 (.str p)]=>match p.toList with
  |[c]=>k [.d false 0 (.int .i64 (indexS s c))] []
  |_=>none
 |_=>none
def cCut {β:Type} (args:List TV) (k:List TV→List TV→Option β):Option β:=
 match args with
 |[.d true 0 (.str s),.d true 0 (.str p)]=>match p.toList with
  |[c]=>chkK (small s) (match Nat.ble s.size (indexS s c).toNat||decide (indexS s c<0)with
   |true=>k [.d false 0 (.str s),.d false 0 (.str ⟨#[]⟩),.d false 0 (.bool false)] []
   |false=>k [.d false 0 (.str (s.extract 0 (indexS s c).toNat)),.d false 0 (.str (s.extract ((indexS s c).toNat+1) s.size)),.d false 0 (.bool true)] [])
  |_=>none
 |_=>none
def cKind {β:Type} (args:List TV) (k:List TV→List TV→Option β):Option β:=
 match args with
 |[.d true 0 (.int .u8 c)]=>chkK (0≤c∧c<256) (k [.d false 0 (.int .i64 (kindI c))] [])
 |_=>none
def cMay {β:Type} (p:Int→Bool) (args:List TV) (k:List TV→List TV→Option β):Option β:=
 match args with
 |[.d true 0 (.int .i64 c)]=>k [.d false 0 (.bool (p c))] []
 |_=>none
def cRun {β:Type} (args:List TV) (k:List TV→List TV→Option β):Option β:=
 match args with
 |[.d true 0 (.str s),.d true 0 (.int .i64 a),.d true 0 (.fn g [])]=>chkK (inS s a) (match Nat.beq g 128 with
  |true=>k [.d false 0 (.int .i64 (runL may1 (s.toList.drop a.toNat)))] []
  |false=>match Nat.beq g 129 with
   |true=>k [.d false 0 (.int .i64 (runL may2 (s.toList.drop a.toNat)))] []
   |false=>none)
 |_=>none
def cDigits {β:Type} (args:List TV) (k:List TV→List TV→Option β):Option β:=
 match args with
 |[.d true 0 (.str s)]=>chkK (small s∧digitsL s.toList) (match valI s.toList 0 with
  |some n=>k [.d false 0 (.int .i64 n),.d false 0 (.bool true)] []
  |none=>k [.d false 0 (.int .i64 0),.d false 0 (.bool false)] [])
 |_=>none
def cQuoted {β:Type} (args:List TV) (k:List TV→List TV→Option β):Option β:=
 match args with
 |[.d true 0 (.str s)]=>chkK (small s∧0<s.size) (k [.d false 0 (.int .i64 (quotedL s.toList))] [])
 |_=>none
def cMark {β:Type} (args:List TV) (k:List TV→List TV→Option β):Option β:=
 match args with
 |[.d true 0 (.str s)]=>chkK (0<s.size) (k [.d false 0 (.int .i64 (markL s.toList))] [])
 |_=>none
def cBlank {β:Type} (args:List TV) (k:List TV→List TV→Option β):Option β:=
 match args with
 |[.d true 0 (.str s),.d true 0 (.int .i64 a)]=>chkK (inS s a) (k [.d false 0 (.int .i64 (blankL (s.toList.drop a.toNat)))] [])
 |_=>none
def atD (p:Int) (e:D):D:=.ifc 114 (.pt 3 (.ag [.int .i64 p,e]))
def noD (n:Int):D:=.ifc 84 (.int .i64 n)
def cWrong {β:Type} (args:List TV) (k:List TV→List TV→Option β):Option β:=
 match args with
 |[.d true 0 (.int .i64 p),.d true 0 (.ifc 84 (.int .i64 n))]=>k [.d true 0 (atD p (noD n))] []
 |_=>none
def zTok:D:=.ag [.int .i64 0,.str ⟨#[]⟩,.int .i64 0]
def tokD (k:Int) (t:ByteArray) (p:Int):D:=.ag [.int .i64 k,.str t,.int .i64 p]
def cOne {β:Type} (args:List TV) (k:List TV→List TV→Option β):Option β:=
 match args with
 |[.d true 0 (.str s),.d true 0 (.int .i64 a)]=>chkK (inS s a∧a<s.size) (match oneL (s.toList.drop a.toNat)with
  |.inl n=>k [.d false 4 zTok,.d false 0 (.int .i64 0),.d false 0 (atD a (noD n))] []
  |.inr (c,t,n)=>k [.d true 4 (tokD c (B t) a),.d false 0 (.int .i64 n),.d false 0 .nili] [])
 |_=>none
def cTokens {β:Type} (args:List TV) (k:List TV→List TV→Option β):Option β:=
 match args with
 |[.d true 0 (.str s)]=>match Nat.ble s.size 65536 with
  |false=>k [.own false 4 [],.d false 0 (noD 2)] []
  |true=>match tokS s.toList with
   |.inl (n,p)=>k [.own false 4 [],.d false 0 (atD p (noD n))] []
   |.inr l=>k [.own false 4 (l.map tokT),.d false 0 .nili] []
 |_=>none
def cNew {β:Type} (args:List TV) (k:List TV→List TV→Option β):Option β:=
 match args with
 |[.d true 0 (.str s)]=>match Nat.ble s.size 65536 with
  |false=>k [.d false 0 .nilp,.d false 0 (noD 2)] []
  |true=>match tokS s.toList with
   |.inl (n,p)=>k [.d false 0 .nilp,.d false 0 (atD p (noD n))] []
   |.inr l=>k [.ob true [.own false 4 (l.map tokT),.d false 0 (.int .i64 0)],.d false 0 .nili] []
 |_=>none
def rdT (xs:List D) (a:Int):TV:=.ob true [.own true 4 xs,.d false 0 (.int .i64 a)]
def cPeek {β:Type} (args:List TV) (k:List TV→List TV→Option β):Option β:=
 match args with
 |[.ob true [.own true 4 xs,.d false 0 (.int .i64 a)]]=>chkK (0≤a) (match xs[a.toNat]? with
  |some (.ag [.int .i64 c,.str t,.int .i64 p])=>k [.d true 4 (tokD c t p)] [rdT xs a]
  |_=>none)
 |_=>none
def cTake {β:Type} (args:List TV) (k:List TV→List TV→Option β):Option β:=
 match args with
 |[.ob true [.own true 4 xs,.d false 0 (.int .i64 a)]]=>chkK (0≤a∧a<34359738368) (match xs[a.toNat]? with
  |some (.ag [.int .i64 c,.str t,.int .i64 p])=>if(!(c==0))=true then k [.d true 4 (tokD c t p)] [rdT xs (a+1)]else k [.d true 4 (tokD c t p)] [rdT xs a]
  |_=>none)
 |_=>none
def isB (c:Int) (t s:ByteArray):Bool:=(c==1||c==4)&&t.toList==s.toList
def cIs {β:Type} (args:List TV) (k:List TV→List TV→Option β):Option β:=
 match args with
 |[.ob true [.own true 4 xs,.d false 0 (.int .i64 a)],.d true 0 (.str s)]=>chkK (0≤a) (match xs[a.toNat]? with
  |some (.ag [.int .i64 c,.str t,.int .i64 _])=>k [.d false 0 (.bool (isB c t s))] [rdT xs a]
  |_=>none)
 |_=>none
def cSkip {β:Type} (args:List TV) (k:List TV→List TV→Option β):Option β:=
 match args with
 |[.ob true [.own true 4 xs,.d false 0 (.int .i64 a)],.d true 0 (.str s)]=>chkK (0≤a∧a<34359738368) (match xs[a.toNat]? with
  |some (.ag [.int .i64 c,.str t,.int .i64 _])=>if isB c t s=true then k [.d false 0 (.bool true)] [rdT xs (a+1)]else k [.d false 0 (.bool false)] [rdT xs a]
  |_=>none)
 |_=>none
def cBad {β:Type} (args:List TV) (k:List TV→List TV→Option β):Option β:=
 match args with
 |[.ob true [.own true 4 xs,.d false 0 (.int .i64 a)]]=>chkK (0≤a) (match xs[a.toNat]? with
  |some (.ag [.int .i64 _,.str _,.int .i64 p])=>k [.d false 0 (atD p (noD 20))] [rdT xs a]
  |_=>none)
 |_=>none
def cWant {β:Type} (args:List TV) (k:List TV→List TV→Option β):Option β:=
 match args with
 |[.ob true [.own true 4 xs,.d false 0 (.int .i64 a)],.d true 0 (.str s)]=>chkK (0≤a∧a<34359738368) (match xs[a.toNat]? with
  |some (.ag [.int .i64 c,.str t,.int .i64 p])=>if isB c t s=true then k [.d false 0 .nili] [rdT xs (a+1)]else k [.d false 0 (atD p (noD 20))] [rdT xs a]
  |_=>none)
 |_=>none
def cNum {β:Type} (args:List TV) (k:List TV→List TV→Option β):Option β:=
 match args with
 |[.d true 0 .nili]=>k [.d false 0 (.int .i64 0)] []
 |[.d true 0 (.ifc 84 (.int .i64 n))]=>k [.d false 0 (.int .i64 n)] []
 |[.d true 0 (.ifc 114 (.pt 3 (.ag [.int .i64 _,.ifc 84 (.int .i64 n)])))]=>k [.d false 0 (.int .i64 n)] []
 |_=>none
def io0:Nat→Bool:=fun _=>false
def E0:Env:=Env.none.add 143 io0 cIdx
def E1:Env:=E0.add 139 io0 cIdx
def E2:Env:=E1.add 137 io0 cIdx
def E3:Env:=E2.add 135 io0 cHas
def E4:Env:=E3.add 124 io0 cHas
def E5:Env:=E4.add 138 io0 cIndex
def E6:Env:=E5.add 136 io0 cCut
def E7:Env:=E6.add 125 io0 cCut
def E8:Env:=E7.add 126 io0 cKind
def E8b:Env:=E8.add 128 io0 (cMay may1)
def E9:Env:=E8b.add 129 io0 (cMay may2)
def E10:Env:=E9.add 127 io0 cRun
def E11:Env:=E10.add 130 io0 cDigits
def E12:Env:=E11.add 132 io0 cQuoted
def E13:Env:=E12.add 133 io0 cMark
def E14:Env:=E13.add 115 io0 cBlank
def E15:Env:=E14.add 131 io0 cWrong
def E16:Env:=E15.add 116 io0 cOne
def E17:Env:=E16.add 92 io0 cTokens
def E18:Env:=E17.add 61 io0 cNew
def io1:Nat→Bool:=fun j=>Nat.beq j 0
def E19:Env:=E18.add 41 io1 cPeek
def E20:Env:=E19.add 118 io1 cTake
def E21:Env:=E20.add 117 io1 cIs
def E22:Env:=E21.add 93 io1 cSkip
def E23:Env:=E22.add 134 io1 cBad
def E24:Env:=E23.add 119 io1 cWant
end Go.Sd

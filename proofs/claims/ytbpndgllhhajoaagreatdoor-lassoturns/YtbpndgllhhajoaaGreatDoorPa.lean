/- The pure parser of formulas: what the package prop's parser computes, over the tokens as they lie (data). -/
import Derived.Test.YtbpndgllhhajoaaGreatDoorSa
import Derived.Test.YtbpndgllhhajoaaGreatDoorMd
import Derived.Test.YtbpndgllhhajoaaGreatDoorSh
set_option linter.unusedVariables false
set_option linter.unusedSimpArgs false
namespace Go.Sc
open Go Go.Cm
inductive PR where
 |ok (op nm:ByteArray) (ks:List D) (p a:Int)
 |syn (p a:Int)
 |deep (p a:Int)
 |no
def fmD (op nm:ByteArray) (ks:List D) (p:Int):D:=.ag [.str op,.str nm,.sl 5 ks,.int .i64 p]
def tkD:Option D→Option (Int×ByteArray×Int)
 |some (.ag [.int .i64 c,.str t,.int .i64 p])=>some (c,t,p)
 |_=>none
def tk (xs:List D) (a:Int):Option (Int×ByteArray×Int):=tkD xs[a.toNat]?
def isT (c:Int) (t s:ByteArray):Bool:=(c==1||c==4)&&t.toList==s.toList
def deepP (xs:List D) (a:Int):PR:=match tk xs a with|some (_,_,p)=>.deep p a|none=>.no
def chainL (xs:List D) (op:ByteArray) (one:Int→PR):Nat→ByteArray→ByteArray→List D→Int→Int→PR
 |0,_,_,_,_,_=>.no
 |n+1,o,nm,ks,p,a=>match tk xs a with
  |none=>.no
  |some (c,t,_)=>if isT c t op=true then(match one (a+1)with
    |.ok o2 nm2 ks2 p2 a2=>chainL xs op one n op ⟨#[]⟩ [fmD o nm ks p,fmD o2 nm2 ks2 p2] p a2
    |.syn p a=>.syn p a
    |.deep p a=>.deep p a
    |.no=>.no)
   else .ok o nm ks p a
def chainP (xs:List D) (op:ByteArray) (one:Int→PR) (a:Int):PR:=
 match one a with
 |.ok o nm ks p a=>chainL xs op one (xs.length+1) o nm ks p a
 |.syn p a=>.syn p a
 |.deep p a=>.deep p a
 |.no=>.no
def rightP (xs:List D) (one:Int→PR) (o nm:ByteArray) (ks:List D) (p:Int):List ByteArray→Int→PR
 |[],a=>.ok o nm ks p a
 |op::ops,a=>match tk xs a with
  |none=>.no
  |some (c,t,_)=>if isT c t op=true then(match one (a+1)with
    |.ok o2 nm2 ks2 p2 a2=>.ok op ⟨#[]⟩ [fmD o nm ks p,fmD o2 nm2 ks2 p2] p a2
    |.syn p a=>.syn p a
    |.deep p a=>.deep p a
    |.no=>.no)
   else rightP xs one o nm ks p ops a
structure PF where
 single:Int→PR
 untl:Int→PR
 imply:Int→PR
def singleP (xs:List D) (P:PF) (a:Int):PR:=
 match tk xs a with
 |none=>.no
 |some (c,t,p)=>
  if c=3 then .ok ⟨#[108,97,98,101,108]⟩ t [] p (a+1)
  else if isT c t ⟨#[116,114,117,101]⟩=true∨isT c t ⟨#[102,97,108,115,101]⟩=true then .ok t ⟨#[]⟩ [] p (a+1)
  else if isT c t ⟨#[33]⟩=true∨isT c t ⟨#[88]⟩=true∨isT c t ⟨#[70]⟩=true∨isT c t ⟨#[71]⟩=true then(match P.single (a+1)with
   |.ok o nm ks q a=>.ok t ⟨#[]⟩ [fmD o nm ks q] p a
   |.syn p a=>.syn p a
   |.deep p a=>.deep p a
   |.no=>.no)
  else if isT c t ⟨#[40]⟩=true then(match P.imply (a+1)with
   |.ok o nm ks q a=>(match tk xs a with
    |none=>.no
    |some (c2,t2,p2)=>if isT c2 t2 ⟨#[41]⟩=true then .ok o nm ks p (a+1)else .syn p2 a)
   |.syn p a=>.syn p a
   |.deep p a=>.deep p a
   |.no=>.no)
  else .syn p a
def untlP (xs:List D) (single untl:Int→PR) (a:Int):PR:=
 match single a with
 |.ok o nm ks p a=>rightP xs untl o nm ks p [⟨#[85]⟩,⟨#[87]⟩,⟨#[82]⟩] a
 |.syn p a=>.syn p a
 |.deep p a=>.deep p a
 |.no=>.no
def kP (xs:List D) (untl:Int→PR) (a:Int):PR:=chainP xs ⟨#[38]⟩ untl a
def implyP (xs:List D) (untl imply:Int→PR) (a:Int):PR:=
 match chainP xs ⟨#[124]⟩ (kP xs untl) a with
 |.ok o nm ks p a=>rightP xs imply o nm ks p [⟨#[61,62]⟩] a
 |.syn p a=>.syn p a
 |.deep p a=>.deep p a
 |.no=>.no
def pf (xs:List D):Nat→PF
 |0=>⟨deepP xs,deepP xs,deepP xs⟩
 |n+1=>
  let s:=singleP xs (pf xs n)
  let u:=untlP xs s (pf xs n).untl
  ⟨s,u,implyP xs u (pf xs n).imply⟩
def pSingle (xs:List D) (n:Nat) (a:Int):PR:=(pf xs n).single a
def pUntl (xs:List D) (n:Nat) (a:Int):PR:=(pf xs n).untl a
def pImply (xs:List D) (n:Nat) (a:Int):PR:=(pf xs n).imply a
def pK (xs:List D) (n:Nat) (a:Int):PR:=kP xs (pUntl xs n) a
def pChain (xs:List D) (op:ByteArray) (n:Nat) (b:Bool) (a:Int):PR:=match b with|true=>chainP xs op (pUntl xs n) a|false=>chainP xs op (pK xs n) a
def pRight (xs:List D) (n:Nat) (b:Bool) (o nm:ByteArray) (ks:List D) (p:Int) (ops:List ByteArray) (a:Int):PR:=
 match b with|true=>rightP xs (pUntl xs n) o nm ks p ops a|false=>rightP xs (pImply xs n) o nm ks p ops a
def okP (xs:List D) (a d lv:Int) (n:Nat):Prop:=xs.length≤65537∧0≤a∧0≤lv∧lv≤1001∧d≤1000∧(d+1 - lv).toNat<n
instance (xs:List D) (a d lv:Int) (n:Nat):Decidable (okP xs a d lv n):=by unfold okP;infer_instance
structure Bd where
 (ns nu nk nck ncu nri nru ni:Nat)
end Go.Sc
namespace Go.Sc
open Go Go.Cm
theorem tk_some {xs:List D} {a:Int} {c p:Int} {t:ByteArray} (h:tk xs a=some (c,t,p)):xs[a.toNat]? =some (.ag [.int .i64 c,.str t,.int .i64 p]):=by
 unfold tk tkD at h
 split at h
 ·rename_i h2;cases h;exact h2
 ·cases h
theorem tk_lt {xs:List D} {a:Int} {r:Int×ByteArray×Int} (h:tk xs a=some r) (ha:0≤a):a<xs.length:=by
 obtain⟨c,t,p⟩:=r
 have:=(List.getElem?_eq_some_iff.1 (tk_some h)).1
 omega
def Adv (a:Int):PR→Prop
 |.ok _ _ _ _ b=>a<b
 |.syn _ b=>a≤b
 |.deep _ b=>a≤b
 |.no=>True
theorem adv_deep (xs:List D) (a:Int):Adv a (deepP xs a):=by
 unfold deepP;split<;>simp[Adv]
theorem adv_chainL (xs:List D) (op:ByteArray) (one:Int→PR) (h1:∀a,Adv a (one a)):∀(n:Nat) (o nm:ByteArray) (ks:List D) (p a b:Int),b<a→Adv b (chainL xs op one n o nm ks p a)
 |0,_,_,_,_,_,_,_=>trivial
 |n+1,o,nm,ks,p,a,b,hb=>by
  unfold chainL
  split
  ·trivial
  ·split
   ·have:=h1 (a+1)
    split
    ·rename_i e;rw[e]at this;simp only[Adv]at this
     exact adv_chainL xs op one h1 n _ _ _ _ _ _ (by omega)
    ·rename_i e;rw[e]at this;simp only[Adv]at this ⊢;omega
    ·rename_i e;rw[e]at this;simp only[Adv]at this ⊢;omega
    ·trivial
   ·exact hb
theorem adv_chainP (xs:List D) (op:ByteArray) (one:Int→PR) (h1:∀a,Adv a (one a)) (a:Int):Adv a (chainP xs op one a):=by
 have:=h1 a
 unfold chainP
 split
 ·rename_i e;rw[e]at this
  exact adv_chainL xs op one h1 _ _ _ _ _ _ _ this
 ·rename_i e;rw[e]at this;exact this
 ·rename_i e;rw[e]at this;exact this
 ·trivial
theorem adv_rightP (xs:List D) (one:Int→PR) (h1:∀a,Adv a (one a)) (o nm:ByteArray) (ks:List D) (p:Int):∀(ops:List ByteArray) (a b:Int),b<a→Adv b (rightP xs one o nm ks p ops a)
 |[],a,b,h=>h
 |op::ops,a,b,h=>by
  unfold rightP
  split
  ·trivial
  ·split
   ·have:=h1 (a+1)
    split
    ·rename_i e;rw[e]at this;simp only[Adv]at this ⊢;omega
    ·rename_i e;rw[e]at this;simp only[Adv]at this ⊢;omega
    ·rename_i e;rw[e]at this;simp only[Adv]at this ⊢;omega
    ·trivial
   ·exact adv_rightP xs one h1 o nm ks p ops a b h
theorem adv_singleP (xs:List D) (P:PF) (h1:∀a,Adv a (P.single a)) (h2:∀a,Adv a (P.imply a)) (a:Int):Adv a (singleP xs P a):=by
 unfold singleP
 split
 ·trivial
 ·split
  ·simp only[Adv];omega
  ·split
   ·simp only[Adv];omega
   ·split
    ·have:=h1 (a+1)
     split
     ·rename_i e;rw[e]at this;simp only[Adv]at this ⊢;omega
     ·rename_i e;rw[e]at this;simp only[Adv]at this ⊢;omega
     ·rename_i e;rw[e]at this;simp only[Adv]at this ⊢;omega
     ·trivial
    ·split
     ·have:=h2 (a+1)
      split
      ·rename_i e;rw[e]at this;simp only[Adv]at this
       split
       ·trivial
       ·split<;>simp only[Adv]<;>omega
      ·rename_i e;rw[e]at this;simp only[Adv]at this ⊢;omega
      ·rename_i e;rw[e]at this;simp only[Adv]at this ⊢;omega
      ·trivial
     ·simp only[Adv];omega
theorem adv_untlP (xs:List D) (s u:Int→PR) (h1:∀a,Adv a (s a)) (h2:∀a,Adv a (u a)) (a:Int):Adv a (untlP xs s u a):=by
 have:=h1 a
 unfold untlP
 split
 ·rename_i e;rw[e]at this
  exact adv_rightP xs u h2 _ _ _ _ _ _ _ this
 ·rename_i e;rw[e]at this;exact this
 ·rename_i e;rw[e]at this;exact this
 ·trivial
theorem adv_implyP (xs:List D) (u i:Int→PR) (h1:∀a,Adv a (u a)) (h2:∀a,Adv a (i a)) (a:Int):Adv a (implyP xs u i a):=by
 have:=adv_chainP xs ⟨#[124]⟩ (kP xs u) (fun a=>adv_chainP xs ⟨#[38]⟩ u h1 a) a
 unfold implyP
 split
 ·rename_i e;rw[e]at this
  exact adv_rightP xs i h2 _ _ _ _ _ _ _ this
 ·rename_i e;rw[e]at this;exact this
 ·rename_i e;rw[e]at this;exact this
 ·trivial
theorem adv_pf (xs:List D):∀n:Nat,(∀a,Adv a ((pf xs n).single a))∧(∀a,Adv a ((pf xs n).untl a))∧∀a,Adv a ((pf xs n).imply a)
 |0=>⟨adv_deep xs,adv_deep xs,adv_deep xs⟩
 |n+1=>by
  obtain⟨h1,h2,h3⟩:=adv_pf xs n
  have s:=adv_singleP xs (pf xs n) h1 h3
  have u:=adv_untlP xs _ _ s h2
  exact⟨s,u,adv_implyP xs _ _ u h3⟩
theorem adv_single (xs:List D) (n:Nat) (a:Int):Adv a (pSingle xs n a):=(adv_pf xs n).1 a
theorem adv_untl (xs:List D) (n:Nat) (a:Int):Adv a (pUntl xs n a):=(adv_pf xs n).2.1 a
theorem adv_imply (xs:List D) (n:Nat) (a:Int):Adv a (pImply xs n a):=(adv_pf xs n).2.2 a
theorem adv_k (xs:List D) (n:Nat) (a:Int):Adv a (pK xs n a):=adv_chainP xs _ _ (adv_untl xs n) a
theorem pSingle_0 (xs:List D) (a:Int):pSingle xs 0 a=deepP xs a:=rfl
theorem pUntl_0 (xs:List D) (a:Int):pUntl xs 0 a=deepP xs a:=rfl
theorem pImply_0 (xs:List D) (a:Int):pImply xs 0 a=deepP xs a:=rfl
end Go.Sc
namespace Go.Sc
open Go Go.Cm
inductive PA where
 |ok (op nm:ByteArray) (ks:List D) (p:Int)
 |no (n:Int)
 |er (p n:Int)
 |bad
def endP (xs:List D):PR→PA
 |.ok op nm ks p a=>match tk xs a with
  |some (c,_,q)=>if c=0 then .ok op nm ks p else .er q 20
  |none=>.bad
 |.syn p _=>.er p 20
 |.deep p _=>.er p 21
 |.no=>.bad
def parseP (s:ByteArray) (d:Int):PA:=
 if d<1∨d>64 then .no 1
 else match Nat.ble s.size 65536 with
  |false=>.no 2
  |true=>match tokS s.toList with
   |.inl (n,p)=>.er p n
   |.inr l=>endP (l.map tokT) (pImply (l.map tokT) d.toNat 0)
end Go.Sc
namespace Go.Sd
open Go Go.Cm Go.Proofs Go.Sc
set_option maxRecDepth 100000
def pars (xs:List D) (a d:Int):TV:=.ob true [.ob true [.own true 4 xs,.d false 0 (.int .i64 a)],.d false 0 (.int .i64 d)]
def zF:D:=.ag [.str ⟨#[]⟩,.str ⟨#[]⟩,.sl 5 [],.int .i64 0]
def ansP {β:Type} (o:Int→TV) (k:List TV→List TV→Option β):PR→Option β
 |.ok op nm ks p a=>k [.d true 5 (fmD op nm ks p),.d false 0 .nili] [o a]
 |.syn p a=>k [.d false 5 zF,.d false 0 (atD p (noD 20))] [o a]
 |.deep p a=>k [.d false 5 zF,.d true 0 (atD p (noD 21))] [o a]
 |.no=>none
def cAt {β:Type} (args:List TV) (k:List TV→List TV→Option β):Option β:=
 match args with
 |[.ob true [.ob true [.own true 4 xs,.d false 0 (.int .i64 a)],.d false 0 (.int .i64 d)],.d true 0 (.ifc 84 (.int .i64 n))]=>chkK (0≤a) (match xs[a.toNat]? with
  |some (.ag [.int .i64 _,.str _,.int .i64 p])=>k [.d true 0 (atD p (noD n))] [pars xs a d]
  |_=>none)
 |_=>none
def cTwo {β:Type} (args:List TV) (k:List TV→List TV→Option β):Option β:=
 match args with
 |[.d true 0 (.str op),.d true 5 (.ag [.str o1,.str n1,.sl 5 k1,.int .i64 p1]),.d true 5 (.ag [.str o2,.str n2,.sl 5 k2,.int .i64 p2])]=>
  k [.d true 5 (fmD op ⟨#[]⟩ [fmD o1 n1 k1 p1,fmD o2 n2 k2 p2] p1)] []
 |_=>none
def cSingle {β:Type} (n:Nat) (args:List TV) (k:List TV→List TV→Option β):Option β:=
 match args with
 |[.ob true [.ob true [.own true 4 xs,.d false 0 (.int .i64 a)],.d false 0 (.int .i64 d)],.d true 0 (.int .i64 lv)]=>
  chkK (okP xs a d lv n) (ansP (fun a=>pars xs a d) k (pSingle xs (d+1 - lv).toNat a))
 |_=>none
def cUntl {β:Type} (n:Nat) (args:List TV) (k:List TV→List TV→Option β):Option β:=
 match args with
 |[.ob true [.ob true [.own true 4 xs,.d false 0 (.int .i64 a)],.d false 0 (.int .i64 d)],.d true 0 (.int .i64 lv)]=>
  chkK (okP xs a d lv n) (ansP (fun a=>pars xs a d) k (pUntl xs (d+1 - lv).toNat a))
 |_=>none
def cImply {β:Type} (n:Nat) (args:List TV) (k:List TV→List TV→Option β):Option β:=
 match args with
 |[.ob true [.ob true [.own true 4 xs,.d false 0 (.int .i64 a)],.d false 0 (.int .i64 d)],.d true 0 (.int .i64 lv)]=>
  chkK (okP xs a d lv n) (ansP (fun a=>pars xs a d) k (pImply xs (d+1 - lv).toNat a))
 |_=>none
def cK {β:Type} (n:Nat) (args:List TV) (k:List TV→List TV→Option β):Option β:=
 match args with
 |[.d true 0 (.int .i64 lv),.cpo true (.ob true [.ob true [.own true 4 xs,.d false 0 (.int .i64 a)],.d false 0 (.int .i64 d)])]=>
  chkK (okP xs a d lv n) (ansP (fun a=>.cpo true (pars xs a d)) k (pK xs (d+1 - lv).toNat a))
 |_=>none
def cChain {β:Type} (nk nu:Nat) (args:List TV) (k:List TV→List TV→Option β):Option β:=
 match args with
 |[.ob true [.ob true [.own true 4 xs,.d false 0 (.int .i64 a)],.d false 0 (.int .i64 d)],.d true 0 (.str op),.d true 0 (.int .i64 lv),.fc true true 64 [(0,false)]]=>
  chkK (okP xs a d lv nu) (ansP (fun a=>pars xs a d) k (pChain xs op (d+1 - lv).toNat true a))
 |[.ob true [.ob true [.own true 4 xs,.d false 0 (.int .i64 a)],.d false 0 (.int .i64 d)],.d true 0 (.str op),.d true 0 (.int .i64 lv),.fc true false 63 [(0,true)]]=>
  chkK (okP xs a d lv nk) (ansP (fun a=>pars xs a d) k (pChain xs op (d+1 - lv).toNat false a))
 |_=>none
def cRight {β:Type} (ni nu:Nat) (args:List TV) (k:List TV→List TV→Option β):Option β:=
 match args with
 |[.ob true [.ob true [.own true 4 xs,.d false 0 (.int .i64 a)],.d false 0 (.int .i64 d)],.d true 0 (.int .i64 lv),.d true 5 (.ag [.str o,.str nm,.sl 5 ks,.int .i64 p]),.fc true true 64 [(0,false)],.d true 0 (.sl 0 [.str s1,.str s2,.str s3])]=>
  chkK (okP xs a d (lv+1) nu) (ansP (fun a=>pars xs a d) k (pRight xs (d - lv).toNat true o nm ks p [s1,s2,s3] a))
 |[.ob true [.ob true [.own true 4 xs,.d false 0 (.int .i64 a)],.d false 0 (.int .i64 d)],.d true 0 (.int .i64 lv),.d true 5 (.ag [.str o,.str nm,.sl 5 ks,.int .i64 p]),.fc true true 40 [(0,false)],.d true 0 (.sl 0 [.str s1])]=>
  chkK (okP xs a d (lv+1) ni) (ansP (fun a=>pars xs a d) k (pRight xs (d - lv).toNat false o nm ks p [s1] a))
 |_=>none
def io2:Nat→Bool:=fun j=>Nat.beq j 1
def Q0:Env:=E24.add 16 io0 cNum
def Q1:Env:=Q0.add 42 io1 cAt
def Q2:Env:=Q1.add 94 io0 cTwo
def QP (B:Bd):Env:=((((((Q2.add 95 io1 (cSingle B.ns)).add 64 io1 (cUntl B.nu)).add 63 io2 (cK B.nk)).add 62 io1 (cChain B.nck B.ncu)).add 65 io1 (cRight B.nri B.nru)).add 40 io1 (cImply B.ni))
end Go.Sd

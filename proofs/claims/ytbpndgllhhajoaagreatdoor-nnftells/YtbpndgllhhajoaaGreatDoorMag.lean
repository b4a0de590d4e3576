/- The pure parser of formulas: what the package prop's parser computes, over the tokens as they lie (data). -/
import Derived.Test.YtbpndgllhhajoaaGreatDoorMae
set_option linter.unusedVariables false
set_option linter.unusedSimpArgs false
namespace Go.Sc
open Go Go.Cm
inductive PR where
 |ok (op nm:ByteArray) (ks:List D) (p a:Int)
 |syn (p a:Int)
 |deep (p a:Int)
 |no
def fmD (op nm:ByteArray) (ks:List D) (p:Int):D:=.ag [.str op,.str nm,.sl 5 ks,.int .i64 p]
def tkD:Option D→Option (Int×ByteArray×Int)
 |some (.ag [.int .i64 c,.str t,.int .i64 p])=>some (c,t,p)
 |_=>none
def tk (xs:List D) (a:Int):Option (Int×ByteArray×Int):=tkD xs[a.toNat]?
def isT (c:Int) (t s:ByteArray):Bool:=(c==1||c==4)&&t.toList==s.toList
def deepP (xs:List D) (a:Int):PR:=match tk xs a with|some (_,_,p)=>.deep p a|none=>.no
def chainL (xs:List D) (op:ByteArray) (one:Int→PR):Nat→ByteArray→ByteArray→List D→Int→Int→PR
 |0,_,_,_,_,_=>.no
 |n+1,o,nm,ks,p,a=>match tk xs a with
  |none=>.no
  |some (c,t,_)=>if isT c t op=true then(match one (a+1)with
    |.ok o2 nm2 ks2 p2 a2=>chainL xs op one n op ⟨#[]⟩ [fmD o nm ks p,fmD o2 nm2 ks2 p2] p a2
    |.syn p a=>.syn p a
    |.deep p a=>.deep p a
    |.no=>.no)
   else .ok o nm ks p a
def chainP (xs:List D) (op:ByteArray) (one:Int→PR) (a:Int):PR:=
 match one a with
 |.ok o nm ks p a=>chainL xs op one (xs.length+1) o nm ks p a
 |.syn p a=>.syn p a
 |.deep p a=>.deep p a
 |.no=>.no
def rightP (xs:List D) (one:Int→PR) (o nm:ByteArray) (ks:List D) (p:Int):List ByteArray→Int→PR
 |[],a=>.ok o nm ks p a
 |op::ops,a=>match tk xs a with
  |none=>.no
  |some (c,t,_)=>if isT c t op=true then(match one (a+1)with
    |.ok o2 nm2 ks2 p2 a2=>.ok op ⟨#[]⟩ [fmD o nm ks p,fmD o2 nm2 ks2 p2] p a2
    |.syn p a=>.syn p a
    |.deep p a=>.deep p a
    |.no=>.no)
   else rightP xs one o nm ks p ops a
structure PF where
 single:Int→PR
 untl:Int→PR
 imply:Int→PR
def singleP (xs:List D) (P:PF) (a:Int):PR:=
 match tk xs a with
 |none=>.no
 |some (c,t,p)=>
  if c=3 then .ok ⟨#[108,97,98,101,108]⟩ t [] p (a+1)
  else if isT c t ⟨#[116,114,117,101]⟩=true∨isT c t ⟨#[102,97,108,115,101]⟩=true then .ok t ⟨#[]⟩ [] p (a+1)
  else if isT c t ⟨#[33]⟩=true∨isT c t ⟨#[88]⟩=true∨isT c t ⟨#[70]⟩=true∨isT c t ⟨#[71]⟩=true then(match P.single (a+1)with
   |.ok o nm ks q a=>.ok t ⟨#[]⟩ [fmD o nm ks q] p a
   |.syn p a=>.syn p a
   |.deep p a=>.deep p a
   |.no=>.no)
  else if isT c t ⟨#[40]⟩=true then(match P.imply (a+1)with
   |.ok o nm ks q a=>(match tk xs a with
    |none=>.no
    |some (c2,t2,p2)=>if isT c2 t2 ⟨#[41]⟩=true then .ok o nm ks p (a+1)else .syn p2 a)
   |.syn p a=>.syn p a
   |.deep p a=>.deep p a
   |.no=>.no)
  else .syn p a
def untlP (xs:List D) (single untl:Int→PR) (a:Int):PR:=
 match single a with
 |.ok o nm ks p a=>rightP xs untl o nm ks p [⟨#[85]⟩,⟨#[87]⟩,⟨#[82]⟩] a
 |.syn p a=>.syn p a
 |.deep p a=>.deep p a
 |.no=>.no
def kP (xs:List D) (untl:Int→PR) (a:Int):PR:=chainP xs ⟨#[38]⟩ untl a
def implyP (xs:List D) (untl imply:Int→PR) (a:Int):PR:=
 match chainP xs ⟨#[124]⟩ (kP xs untl) a with
 |.ok o nm ks p a=>rightP xs imply o nm ks p [⟨#[61,62]⟩] a
 |.syn p a=>.syn p a
 |.deep p a=>.deep p a
 |.no=>.no
def pf (xs:List D):Nat→PF
 |0=>⟨deepP xs,deepP xs,deepP xs⟩
 |n+1=>
  let s:=singleP xs (pf xs n)
  let u:=untlP xs s (pf xs n).untl
  ⟨s,u,implyP xs u (pf xs n).imply⟩
def pSingle (xs:List D) (n:Nat) (a:Int):PR:=(pf xs n).single a
def pUntl (xs:List D) (n:Nat) (a:Int):PR:=(pf xs n).untl a
def pImply (xs:List D) (n:Nat) (a:Int):PR:=(pf xs n).imply a
def pK (xs:List D) (n:Nat) (a:Int):PR:=kP xs (pUntl xs n) a
def pChain (xs:List D) (op:ByteArray) (n:Nat) (b:Bool) (a:Int):PR:=match b with|true=>chainP xs op (pUntl xs n) a|false=>chainP xs op (pK xs n) a
def pRight (xs:List D) (n:Nat) (b:Bool) (o nm:ByteArray) (ks:List D) (p:Int) (ops:List ByteArray) (a:Int):PR:=
 match b with|true=>rightP xs (pUntl xs n) o nm ks p ops a|false=>rightP xs (pImply xs n) o nm ks p ops a
def okP (xs:List D) (a d lv:Int) (n:Nat):Prop:=xs.length≤65537∧0≤a∧0≤lv∧lv≤1001∧d≤1000∧(d+1 - lv).toNat<n
instance (xs:List D) (a d lv:Int) (n:Nat):Decidable (okP xs a d lv n):=by unfold okP;infer_instance
structure Bd where
 (ns nu nk nck ncu nri nru ni:Nat)
end Go.Sc
namespace Go.Sc
open Go Go.Cm
theorem tk_some {xs:List D} {a:Int} {c p:Int} {t:ByteArray} (h:tk xs a=some (c,t,p)):xs[a.toNat]? =some (.ag [.int .i64 c,.str t,.int .i64 p]):=by
 unfold tk tkD at h
 split at h
 ·rename_i h2;cases h;exact h2
 ·cases h
theorem tk_lt {xs:List D} {a:Int} {r:Int×ByteArray×Int} (h:tk xs a=some r) (ha:0≤a):a<xs.length:=by
 obtain⟨c,t,p⟩:=r
 have:=(List.getElem?_eq_some_iff.1 (tk_some h)).1
 omega
def Adv (a:Int):PR→Prop
 |.ok _ _ _ _ b=>a<b
 |.syn _ b=>a≤b
 |.deep _ b=>a≤b
 |.no=>True
theorem adv_deep (xs:List D) (a:Int):Adv a (deepP xs a):=by
 unfold deepP;split<;>simp[Adv]
theorem adv_chainL (xs:List D) (op:ByteArray) (one:Int→PR) (h1:∀a,Adv a (one a)):∀(n:Nat) (o nm:ByteArray) (ks:List D) (p a b:Int),b<a→Adv b (chainL xs op one n o nm ks p a)
 |0,_,_,_,_,_,_,_=>trivial
 |n+1,o,nm,ks,p,a,b,hb=>by
  unfold chainL
  split
  ·trivial
  ·split
   ·have:=h1 (a+1)
    split
    ·rename_i e;rw[e]at this;simp only[Adv]at this
     exact adv_chainL xs op one h1 n _ _ _ _ _ _ (by omega)
    ·rename_i e;rw[e]at this;simp only[Adv]at this ⊢;omega
    ·rename_i e;rw[e]at this;simp only[Adv]at this ⊢;omega
    ·trivial
   ·exact hb
theorem adv_chainP (xs:List D) (op:ByteArray) (one:Int→PR) (h1:∀a,Adv a (one a)) (a:Int):Adv a (chainP xs op one a):=by
 have:=h1 a
 unfold chainP
 split
 ·rename_i e;rw[e]at this
  exact adv_chainL xs op one h1 _ _ _ _ _ _ _ this
 ·rename_i e;rw[e]at this;exact this
 ·rename_i e;rw[e]at this;exact this
 ·trivial
theorem adv_rightP (xs:List D) (one:Int→PR) (h1:∀a,Adv a (one a)) (o nm:ByteArray) (ks:List D) (p:Int):∀(ops:List ByteArray) (a b:Int),b<a→Adv b (rightP xs one o nm ks p ops a)
 |[],a,b,h=>h
 |op::ops,a,b,h=>by
  unfold rightP
  split
  ·trivial
  ·split
   ·have:=h1 (a+1)
    split
    ·rename_i e;rw[e]at this;simp only[Adv]at this ⊢;omega
    ·rename_i e;rw[e]at this;simp only[Adv]at this ⊢;omega
    ·rename_i e;rw[e]at this;simp only[Adv]at this ⊢;omega
    ·trivial
   ·exact adv_rightP xs one h1 o nm ks p ops a b h
theorem adv_singleP (xs:List D) (P:PF) (h1:∀a,Adv a (P.single a)) (h2:∀a,Adv a (P.imply a)) (a:Int):Adv a (singleP xs P a):=by
 unfold singleP
 split
 ·trivial
 ·split
  ·simp only[Adv];omega
  ·split
   ·simp only[Adv];omega
   ·split
    ·have:=h1 (a+1)
     split
     ·rename_i e;rw[e]at this;simp only[Adv]at this ⊢;omega
     ·rename_i e;rw[e]at this;simp only[Adv]at this ⊢;omega
     ·rename_i e;rw[e]at this;simp only[Adv]at this ⊢;omega
     ·trivial
    ·split
     ·have:=h2 (a+1)
      split
      ·rename_i e;rw[e]at this;simp only[Adv]at this
       split
       ·trivial
       ·split<;>simp only[Adv]<;>omega
      ·rename_i e;rw[e]at this;simp only[Adv]at this ⊢;omega
      ·rename_i e;rw[e]at this;simp only[Adv]at this ⊢;omega
      ·trivial
     ·simp only[Adv];omega
theorem adv_untlP (xs:List D) (s u:Int→PR) (h1:∀a,Adv a (s a)) (h2:∀a,Adv a (u a)) (a:Int):Adv a (untlP xs s u a):=by
 have:=h1 a
 unfold untlP
 split
 ·rename_i e;rw[e]at this
  exact adv_rightP xs u h2 _ _ _ _ _ _ _ this
 ·rename_i e;rw[e]at this;exact this
 ·rename_i e;rw[e]at this;exact this
 ·trivial
theorem adv_implyP (xs:List D) (u i:Int→PR) (h1:∀a,Adv a (u a)) (h2:∀a,Adv a (i a)) (a:Int):Adv a (implyP xs u i a):=by
 have:=adv_chainP xs ⟨#[124]⟩ (kP xs u) (fun a=>adv_chainP xs ⟨#[38]⟩ u h1 a) a
 unfold implyP
 split
 ·rename_i e;rw[e]at this
  exact adv_rightP xs i h2 _ _ _ _ _ _ _ this
 ·rename_i e;rw[e]at this;exact this
 ·rename_i e;rw[e]at this;exact this
 ·trivial
theorem adv_pf (xs:List D):∀n:Nat,(∀a,Adv a ((pf xs n).single a))∧(∀a,Adv a ((pf xs n).untl a))∧∀a,Adv a ((pf xs n).imply a)
 |0=>⟨adv_deep xs,adv_deep xs,adv_deep xs⟩
 |n+1=>by
  obtain⟨h1,h2,h3⟩:=adv_pf xs n
  have s:=adv_singleP xs (pf xs n) h1 h3
  have u:=adv_untlP xs _ _ s h2
  exact⟨s,u,adv_implyP xs _ _ u h3⟩
theorem adv_single (xs:List D) (n:Nat) (a:Int):Adv a (pSingle xs n a):=(adv_pf xs n).1 a
theorem adv_untl (xs:List D) (n:Nat) (a:Int):Adv a (pUntl xs n a):=(adv_pf xs n).2.1 a
theorem adv_imply (xs:List D) (n:Nat) (a:Int):Adv a (pImply xs n a):=(adv_pf xs n).2.2 a
theorem adv_k (xs:List D) (n:Nat) (a:Int):Adv a (pK xs n a):=adv_chainP xs _ _ (adv_untl xs n) a
theorem pSingle_0 (xs:List D) (a:Int):pSingle xs 0 a=deepP xs a:=rfl
theorem pUntl_0 (xs:List D) (a:Int):pUntl xs 0 a=deepP xs a:=rfl
theorem pImply_0 (xs:List D) (a:Int):pImply xs 0 a=deepP xs a:=rfl
theorem pSingle_s (xs:List D) (n:Nat) (a:Int):pSingle xs (n+1) a=singleP xs (pf xs n) a:=rfl
theorem pUntl_s (xs:List D) (n:Nat) (a:Int):pUntl xs (n+1) a=untlP xs (pSingle xs (n+1)) (pUntl xs n) a:=rfl
theorem pImply_s (xs:List D) (n:Nat) (a:Int):pImply xs (n+1) a=implyP xs (pUntl xs (n+1)) (pImply xs n) a:=rfl
end Go.Sc
namespace Go.Sc
open Go Go.Cm
inductive PA where
 |ok (op nm:ByteArray) (ks:List D) (p:Int)
 |no (n:Int)
 |er (p n:Int)
 |bad
def endP (xs:List D):PR→PA
 |.ok op nm ks p a=>match tk xs a with
  |some (c,_,q)=>if c=0 then .ok op nm ks p else .er q 20
  |none=>.bad
 |.syn p _=>.er p 20
 |.deep p _=>.er p 21
 |.no=>.bad
def parseP (s:ByteArray) (d:Int):PA:=
 if d<1∨d>64 then .no 1
 else match Nat.ble s.size 65536 with
  |false=>.no 2
  |true=>match tokS s.toList with
   |.inl (n,p)=>.er p n
   |.inr l=>endP (l.map tokT) (pImply (l.map tokT) d.toNat 0)
end Go.Sc
namespace Go.Sc
open Go Go.Cm
inductive Fm where
 |mk (op nm:ByteArray) (ks:List Fm) (p:Int)
 deriving Inhabited
mutual
def Fm.d:Fm→D
 |.mk op nm ks p=>.ag [.str op,.str nm,.sl 5 (Fm.dL ks),.int .i64 p]
def Fm.dL:List Fm→List D
 |[]=>[]
 |f::fs=>f.d::Fm.dL fs
end
mutual
def Fm.dep:Fm→Nat
 |.mk _ _ ks _=>Fm.depL ks+1
def Fm.depL:List Fm→Nat
 |[]=>0
 |f::fs=>max f.dep (Fm.depL fs)
end
mutual
def ofD:D→Option Fm
 |.ag [.str op,.str nm,.sl 5 ks,.int .i64 p]=>match ofDL ks with|some fs=>some (.mk op nm fs p)|none=>none
 |_=>none
def ofDL:List D→Option (List Fm)
 |[]=>some []
 |x::xs=>match ofD x,ofDL xs with|some f,some fs=>some (f::fs)|_,_=>none
end
mutual
theorem ofD_d:∀f:Fm,ofD f.d=some f
 |.mk op nm ks p=>by simp only[Fm.d,ofD,ofDL_d ks]
theorem ofDL_d:∀fs:List Fm,ofDL (Fm.dL fs)=some fs
 |[]=>by simp only[Fm.dL,ofDL]
 |f::fs=>by simp only[Fm.dL,ofDL,ofD_d f,ofDL_d fs]
end
mutual
theorem d_ofD:∀(x:D) (f:Fm),ofD x=some f→x=f.d
 |.ag [.str op,.str nm,.sl 5 ks,.int .i64 p],f,h=>by
  simp only[ofD]at h
  split at h
  ·rename_i fs hk
   cases h
   rw[Fm.d,dL_ofDL ks fs hk]
  ·cases h
 |x,f,h=>by
  unfold ofD at h
  split at h
  ·rename_i op nm ks p
   split at h
   ·rename_i fs hk
    cases h
    rw[Fm.d,dL_ofDL ks fs hk]
   ·cases h
  ·cases h
theorem dL_ofDL:∀(xs:List D) (fs:List Fm),ofDL xs=some fs→xs=Fm.dL fs
 |[],fs,h=>by simp only[ofDL]at h;cases h;rfl
 |x::xs,fs,h=>by
  simp only[ofDL]at h
  split at h
  ·rename_i f fs' h1 h2
   cases h
   rw[Fm.dL, ←d_ofD x f h1, ←dL_ofDL xs fs' h2]
  ·cases h
end
theorem dL_eq:∀fs:List Fm,Fm.dL fs=fs.map Fm.d
 |[]=>rfl
 |f::fs=>by simp only[Fm.dL,List.map_cons,dL_eq fs]
theorem dep_mem:∀{fs:List Fm} {f:Fm},f∈fs→f.dep≤Fm.depL fs
 |g::gs,f,h=>by
  simp only[Fm.depL]
  rcases List.mem_cons.1 h with rfl|h
  ·omega
  ·have:=dep_mem h;omega
mutual
def Fm.sm:Fm→Bool
 |.mk _ _ ks _=>Nat.ble ks.length 4096&&Fm.smL ks
def Fm.smL:List Fm→Bool
 |[]=>true
 |f::fs=>f.sm&&Fm.smL fs
end
theorem sm_mem:∀{fs:List Fm} {f:Fm},Fm.smL fs=true→f∈fs→f.sm=true
 |g::gs,f,h,hm=>by
  simp only[Fm.smL,Bool.and_eq_true]at h
  rcases List.mem_cons.1 hm with rfl|hm
  ·exact h.1
  ·exact sm_mem h.2 hm
theorem dL_get {fs:List Fm} {i:Nat} (h:i<fs.length):(Fm.dL fs)[i]? =some (fs[i].d):=by rw[dL_eq,List.getElem?_map,List.getElem?_eq_getElem h];rfl
theorem dL_len (fs:List Fm):(Fm.dL fs).length=fs.length:=by rw[dL_eq,List.length_map]
def bd (b:Option Nat) (f:Fm):Prop:=f.sm=true∧match b with|none=>True|some n=>f.dep<n
instance (b:Option Nat) (f:Fm):Decidable (bd b f):=by unfold bd;cases b<;>infer_instance
def bdL (b:Option Nat) (fs:List Fm):Prop:=Nat.ble fs.length 4096=true∧Fm.smL fs=true∧match b with|none=>True|some n=>Fm.depL fs<n
instance (b:Option Nat) (f:List Fm):Decidable (bdL b f):=by unfold bdL;cases b<;>infer_instance
theorem bd_none {b:Option Nat} {f:Fm} (h:bd none f) (hb:∀n,b=some n→f.dep<n):bd b f:=by
 cases b with
 |none=>exact h
 |some n=>exact⟨h.1,hb n rfl⟩
theorem bd_all {b:Option Nat} {f:Fm} (h:bd b f):bd none f:=⟨h.1,trivial⟩
theorem bd_at {f:Fm} (h:bd none f):bd (some (f.dep+1)) f:=⟨h.1,Nat.lt_succ_self _⟩
mutual
def sizeF:Fm→Int
 |.mk _ _ ks _=>sizeL ks 1
def sizeL:List Fm→Int→Int
 |[],n=>n
 |f::fs,n=>sizeL fs (if n≤4096 then min (n+sizeF f) 4097 else n)
end
mutual
def sameF:Fm→Fm→Bool
 |.mk o1 n1 k1 _,.mk o2 n2 k2 _=>o1.toList==o2.toList&&n1.toList==n2.toList&&sameL k1 k2
def sameL:List Fm→List Fm→Bool
 |[],[]=>true
 |f::fs,g::gs=>sameF f g&&sameL fs gs
 |_,_=>false
end
theorem sizeL_le:∀(fs:List Fm) (n:Int),n≤4097→1≤n→(∀f∈fs,1≤sizeF f∧sizeF f≤4097)→1≤sizeL fs n∧sizeL fs n≤4097
 |[],n,h,h1,_=>by simp only[sizeL];omega
 |f::fs,n,h,h1,hf=>by
  simp only[sizeL]
  have:=hf f (.head _)
  exact sizeL_le fs _ (by split<;>omega) (by split<;>omega) fun g hg=>hf g (.tail _ hg)
mutual
theorem sizeF_le:∀f:Fm,1≤sizeF f∧sizeF f≤4097
 |.mk _ _ ks _=>by
  simp only[sizeF]
  exact sizeL_le ks 1 (by omega) (by omega) (sizeF_leL ks)
theorem sizeF_leL:∀(fs:List Fm),∀f∈fs,1≤sizeF f∧sizeF f≤4097
 |[],f,h=>by cases h
 |g::gs,f,h=>by
  rcases List.mem_cons.1 h with e|h
  ·rw[e];exact sizeF_le g
  ·exact sizeF_leL gs f h
end
end Go.Sc
namespace Go.Sc
open Go Go.Cm
def oTrue:T8:=[116,114,117,101]
def oFalse:T8:=[102,97,108,115,101]
def oLabel:T8:=[108,97,98,101,108]
def kidsN (op:ByteArray):Int:=
 if(op.toList==[116,114,117,101])=true then 0 else if(op.toList==[102,97,108,115,101])=true then 0 else if(op.toList==[108,97,98,101,108])=true then 0
 else if(op.toList==[33])=true then 1 else if(op.toList==[88])=true then 1 else if(op.toList==[70])=true then 1 else if(op.toList==[71])=true then 1
 else if(op.toList==[38])=true then 2 else if(op.toList==[124])=true then 2 else if(op.toList==[61,62])=true then 2
 else if(op.toList==[85])=true then 2 else if(op.toList==[87])=true then 2 else if(op.toList==[82])=true then 2 else -1
def dualB (op:ByteArray):ByteArray:=
 if(op.toList==[116,114,117,101])=true then⟨#[102,97,108,115,101]⟩else if(op.toList==[102,97,108,115,101])=true then⟨#[116,114,117,101]⟩
 else if(op.toList==[38])=true then⟨#[124]⟩else if(op.toList==[124])=true then⟨#[38]⟩
 else if(op.toList==[85])=true then⟨#[82]⟩else if(op.toList==[82])=true then⟨#[85]⟩else op
def constB (op:ByteArray):Bool:=op.toList==[116,114,117,101]||op.toList==[102,97,108,115,101]
mutual
def formF:Fm→Bool
 |.mk op _ ks _=>kidsN op==(ks.length:Int)&&formL ks
def formL:List Fm→Bool
 |[]=>true
 |f::fs=>formF f&&formL fs
end
mutual
def isF:Fm→Bool
 |.mk op _ ks _=>
  if(op.toList==[70])=true then false else if(op.toList==[71])=true then false else if(op.toList==[87])=true then false else if(op.toList==[61,62])=true then false
  else if(op.toList==[33])=true then(match ks with|[.mk o2 _ k2 _]=>o2.toList==[108,97,98,101,108]&&k2.isEmpty|_=>false)
  else kidsN op==(ks.length:Int)&&isL ks
def isL:List Fm→Bool
 |[]=>true
 |f::fs=>isF f&&isL fs
end
end Go.Sc
namespace Go.Sc
open Go Go.Cm
def zeroF:Fm:=.mk ⟨#[]⟩ ⟨#[]⟩ [] 0
def nd (op:ByteArray) (ks:List Fm):Fm:=.mk op ⟨#[]⟩ ks 0
def labF (nm:ByteArray):Fm:=.mk ⟨#[108,97,98,101,108]⟩ nm [] 0
def opN (op:ByteArray) (not:Bool):ByteArray:=match not with|true=>dualB op|false=>op
def both4 (op:ByteArray):Bool:=op.toList==[38]||op.toList==[124]||op.toList==[85]||op.toList==[82]
def makeF:Fm→Bool→Int→Option (Fm×Int)
 |.mk op nm ks p,not,l=>
  if l - 1<0 then some (zeroF,l - 1)
  else if(op.toList==[108,97,98,101,108])=true then(match not with
   |true=>if l - 1 - 1<0 then some (labF nm,l - 1 - 1)else some (nd ⟨#[33]⟩ [labF nm],l - 1 - 1)
   |false=>some (labF nm,l - 1))
  else if(op.toList==[33])=true then(match ks with|k::_=>makeF k (!not) (l - 1+1)|[]=>none)
  else if(op.toList==[88])=true then(match ks with|k::_=>(match makeF k not (l - 1)with|some (x,l2)=>some (nd ⟨#[88]⟩ [x],l2)|none=>none)|[]=>none)
  else if both4 op=true then(match ks with
   |a::b::_=>(match makeF a not (l - 1)with|some (x,l2)=>(match makeF b not l2 with|some (y,l3)=>some (nd (opN op not) [x,y],l3)|none=>none)|none=>none)
   |_=>none)
  else if(op.toList==[61,62])=true then(match not with
   |true=>(match ks with
    |a::b::_=>(match makeF a false (l - 1)with|some (x,l2)=>(match makeF b true l2 with|some (y,l3)=>some (nd ⟨#[38]⟩ [x,y],l3)|none=>none)|none=>none)
    |_=>none)
   |false=>(match ks with
    |a::b::_=>(match makeF a true (l - 1)with|some (x,l2)=>(match makeF b false l2 with|some (y,l3)=>some (nd ⟨#[124]⟩ [x,y],l3)|none=>none)|none=>none)
    |_=>none))
  else if(op.toList==[70]||op.toList==[71])=true then(match ks with
   |k::_=>(match makeF k not (l - 1 - 1)with
    |some (x,l2)=>(match(op.toList==[70]) != not with
     |true=>some (nd ⟨#[85]⟩ [nd ⟨#[116,114,117,101]⟩ [],x],l2)
     |false=>some (nd ⟨#[82]⟩ [nd ⟨#[102,97,108,115,101]⟩ [],x],l2))
    |none=>none)
   |[]=>none)
  else if(op.toList==[87])=true then(match ks with
   |a::b::_=>(match makeF b not (l - 1 - 1)with
    |some (g,l2)=>(match makeF a not l2 with
     |some (x,l3)=>(match makeF b not l3 with
      |some (y,l4)=>(match not with
       |true=>some (nd ⟨#[85]⟩ [g,nd ⟨#[38]⟩ [x,y]],l4)
       |false=>some (nd ⟨#[82]⟩ [g,nd ⟨#[124]⟩ [x,y]],l4))
      |none=>none)
     |none=>none)
    |none=>none)
   |_=>none)
  else some (nd (opN op not) [],l - 1)
def bothF (op:ByteArray) (f:Fm) (i j:Bool) (l:Int):Option (Fm×Int):=
 match f with
 |.mk _ _ ks _=>match ks with
  |a::b::_=>(match makeF a i l with|some (x,l2)=>(match makeF b j l2 with|some (y,l3)=>some (nd op [x,y],l3)|none=>none)|none=>none)
  |_=>none
def everF (f:Fm) (not:Bool) (l:Int):Option (Fm×Int):=
 match f with
 |.mk op _ ks _=>match ks with
  |k::_=>(match makeF k not (l - 1)with
   |some (x,l2)=>(match(op.toList==[70]) != not with
    |true=>some (nd ⟨#[85]⟩ [nd ⟨#[116,114,117,101]⟩ [],x],l2)
    |false=>some (nd ⟨#[82]⟩ [nd ⟨#[102,97,108,115,101]⟩ [],x],l2))
   |none=>none)
  |[]=>none
def weakF (f:Fm) (not:Bool) (l:Int):Option (Fm×Int):=
 match f with
 |.mk op _ ks _=>match ks with
  |a::b::_=>(match makeF b not (l - 1)with
   |some (g,l2)=>(match makeF a not l2 with
    |some (x,l3)=>(match makeF b not l3 with
     |some (y,l4)=>(match not with
      |true=>some (nd ⟨#[85]⟩ [g,nd ⟨#[38]⟩ [x,y]],l4)
      |false=>some (nd ⟨#[82]⟩ [g,nd ⟨#[124]⟩ [x,y]],l4))
     |none=>none)
    |none=>none)
   |none=>none)
  |_=>none
def mok (lo:Int) (b:Option Nat) (f:Fm) (l:Int):Prop:=bd b f∧f.dep≤1073741824∧lo≤l∧l≤17179869184
instance (lo:Int) (b:Option Nat) (f:Fm) (l:Int):Decidable (mok lo b f l):=by unfold mok;infer_instance
end Go.Sc
namespace Go.Sc
open Go Go.Cm
def Lft (d:Nat) (l l':Int):Prop:=l'≤l∧(l≤0→l'=l - 1)∧(0≤l→ -(4*d:Int)≤l')
theorem lft_one {f:Fm} {not:Bool} {l:Int} (h:l - 1<0) {r:Fm×Int} (e:makeF f not l=some r):r=(zeroF,l - 1):=by
 cases f;unfold makeF at e;rw[if_pos h]at e;exact(Option.some.inj e).symm
theorem makeF_lft:∀(n:Nat) (f:Fm) (not:Bool) (l:Int) (r:Fm×Int),f.dep≤n→makeF f not l=some r→Lft n l r.2
 |0,f,not,l,r,hd,h=>by cases f;simp only[Fm.dep]at hd;omega
 |n+1,f,not,l,r,hd,h=>by
  by_cases hl:l - 1<0
  ·rw[lft_one hl h];exact⟨by show l - 1≤l;omega,fun _=>rfl,fun _=>by show _≤l - 1;omega⟩
  have kid:∀{op nm:ByteArray} {ks:List Fm} {p:Int} (g:Fm),f=.mk op nm ks p→g∈ks→∀(i:Bool) (m:Int) (x:Fm×Int),makeF g i m=some x→Lft n m x.2:=fun{op nm ks p} g e hg i m x hx=>by
   refine makeF_lft n g i m x ?_ hx
   have:=dep_mem hg
   subst e
   simp only[Fm.dep]at hd
   omega
  cases f with
  |mk op nm ks p=>
   unfold makeF at h
   rw[if_neg hl]at h
   have two:∀(a b:Fm) (rs:List Fm),ks=a::b::rs→∀(i j:Bool) (m:Int) (x y:Fm×Int),makeF a i m=some x→makeF b j x.2=some y→y.2≤m∧(0≤m→ -(4*n:Int) - 1≤y.2)∧(m≤0→y.2=m - 2):=fun a b rs e i j m x y hx hy=>by
    have h1:=kid a rfl (by rw[e];exact .head _) i m x hx
    have h2:=kid b rfl (by rw[e];exact .tail _ (.head _)) j x.2 y hy
    obtain⟨a1,a2,a3⟩:=h1
    obtain⟨b1,b2,b3⟩:=h2
    refine⟨by omega,fun h0=>?_,fun h0=>by have:=a2 h0;have:=b2 (by omega);omega⟩
    by_cases hx0:0≤x.2
    ·have:=b3 hx0;omega
    ·have:=b2 (by omega);have:=a3 h0;omega
   split at h
   ·split at h
    ·split at h<;>cases h<;>simp only[Lft]<;>omega
    ·cases h;simp only[Lft];omega
   ·split at h
    ·split at h
     ·rename_i k rs
      obtain⟨a1,a2,a3⟩:=kid k rfl (.head _) _ _ _ h
      simp only[Lft]
      have:=a3 (by omega)
      omega
     ·cases h
    ·split at h
     ·split at h
      ·rename_i k rs
       split at h
       ·rename_i x l2 hx
        cases h
        obtain⟨a1,a2,a3⟩:=kid k rfl (.head _) _ _ _ hx
        simp only at a1 a2 a3
        simp only[Lft]
        have:=a3 (by omega)
        omega
       ·cases h
      ·cases h
     ·split at h
      ·split at h
       ·rename_i a b rs
        split at h
        ·rename_i x l2 hx
         split at h
         ·rename_i y l3 hy
          cases h
          obtain⟨c1,c2,c3⟩:=two a b rs rfl _ _ _ _ _ hx hy
          simp only at c1 c2 c3
          simp only[Lft]
          have:=c2 (by omega)
          omega
         ·cases h
        ·cases h
       ·cases h
      ·split at h
       ·split at h
        ·split at h
         ·rename_i a b rs
          split at h
          ·rename_i x l2 hx
           split at h
           ·rename_i y l3 hy
            cases h
            obtain⟨c1,c2,c3⟩:=two a b rs rfl _ _ _ _ _ hx hy
            simp only at c1 c2 c3
            simp only[Lft]
            have:=c2 (by omega)
            omega
           ·cases h
          ·cases h
         ·cases h
        ·split at h
         ·rename_i a b rs
          split at h
          ·rename_i x l2 hx
           split at h
           ·rename_i y l3 hy
            cases h
            obtain⟨c1,c2,c3⟩:=two a b rs rfl _ _ _ _ _ hx hy
            simp only at c1 c2 c3
            simp only[Lft]
            have:=c2 (by omega)
            omega
           ·cases h
          ·cases h
         ·cases h
       ·split at h
        ·split at h
         ·rename_i k rs
          split at h
          ·rename_i x l2 hx
           obtain⟨a1,a2,a3⟩:=kid k rfl (.head _) _ _ _ hx
           simp only at a1 a2 a3
           have e:r.2=l2:=by split at h<;>cases h<;>rfl
           simp only[Lft]
           rw[e]
           by_cases h0:0≤l - 1 - 1
           ·have:=a3 h0;omega
           ·have:=a2 (by omega);omega
          ·cases h
         ·cases h
        ·split at h
         ·split at h
          ·rename_i a b rs
           split at h
           ·rename_i g l2 hg
            split at h
            ·rename_i x l3 hx
             split at h
             ·rename_i y l4 hy
              have e:r.2=l4:=by split at h<;>cases h<;>rfl
              obtain⟨a1,a2,a3⟩:=kid b rfl (.tail _ (.head _)) _ _ _ hg
              obtain⟨c1,c2,c3⟩:=two a b rs rfl _ _ _ _ _ hx hy
              simp only at a1 a2 a3 c1 c2 c3
              simp only[Lft]
              rw[e]
              by_cases h1:0≤l2
              ·have:=c2 h1;omega
              ·have:=c3 (by omega)
               by_cases h0:0≤l - 1 - 1
               ·have:=a3 h0;omega
               ·have:=a2 (by omega);omega
             ·cases h
            ·cases h
           ·cases h
          ·cases h
         ·cases h;simp only[Lft];omega
end Go.Sc
namespace Go.Sc
open Go Go.Cm
def Fm.op:Fm→ByteArray
 |.mk o _ _ _=>o
def bTrue:ByteArray:=⟨#[116,114,117,101]⟩
def bFalse:ByteArray:=⟨#[102,97,108,115,101]⟩
def sameE (x a b:Fm):Fm:=match sameF a b with|true=>a|false=>x
def pairAnd (u z:ByteArray) (x a b:Fm):Fm:=
 if(a.op.toList==u.toList)=true then b else if(b.op.toList==u.toList)=true then a
 else if(a.op.toList==z.toList)=true then nd z []else if(b.op.toList==z.toList)=true then nd z []else sameE x a b
def pairU (u:ByteArray) (x a b:Fm):Fm:=
 if constB b.op=true then b else if(a.op.toList==u.toList)=true then b else sameE x a b
def pairF (x a b:Fm):Fm:=
 if(x.op.toList==[124])=true then pairAnd bFalse bTrue x a b
 else if(x.op.toList==[38])=true then pairAnd bTrue bFalse x a b
 else if(x.op.toList==[85])=true then pairU bFalse x a b
 else if(x.op.toList==[82])=true then pairU bTrue x a b
 else sameE x a b
def endS (op nm:ByteArray) (ks:List Fm):Fm:=
 match ks with
 |[k]=>if(op.toList==[88])=true then(if constB k.op=true then k else .mk op nm ks 0)else .mk op nm ks 0
 |[a,b]=>pairF (.mk op nm ks 0) a b
 |_=>.mk op nm ks 0
mutual
def simpleF:Fm→Fm
 |.mk op nm ks _=>endS op nm (simpleL ks)
def simpleL:List Fm→List Fm
 |[]=>[]
 |f::fs=>simpleF f::simpleL fs
end
def bindsN (op:ByteArray):Int:=
 if(op.toList==[61,62])=true then 1 else if(op.toList==[124])=true then 2 else if(op.toList==[38])=true then 3
 else if(op.toList==[85])=true then 4 else if(op.toList==[87])=true then 4 else if(op.toList==[82])=true then 4
 else if(op.toList==[33])=true then 5 else if(op.toList==[88])=true then 5 else if(op.toList==[70])=true then 5 else if(op.toList==[71])=true then 5 else 6
def parB (b:Int) (t:Int) (s:ByteArray):ByteArray:=if b<t then(⟨#[40]⟩:ByteArray)++s++⟨#[41]⟩else s
def prB (op nm:ByteArray) (l r:Int→ByteArray):ByteArray:=
 if bindsN op=6 then(if(op.toList==[108,97,98,101,108])=true then(⟨#[34]⟩:ByteArray)++nm++⟨#[34]⟩else op)
 else if bindsN op=5 then(if(op.toList==[33])=true then(⟨#[33]⟩:ByteArray)++l 5 else op++⟨#[32]⟩++l 5)
 else if bindsN op=1∨bindsN op=4 then l (bindsN op+1)++⟨#[32]⟩++op++⟨#[32]⟩++r (bindsN op)
 else l (bindsN op)++⟨#[32]⟩++op++⟨#[32]⟩++r (bindsN op+1)
def printF:Fm→ByteArray
 |.mk op nm ks _=>match ks with
  |[]=>prB op nm (fun _=>⟨#[]⟩) (fun _=>⟨#[]⟩)
  |[a]=>prB op nm (fun t=>parB (bindsN a.op) t (printF a)) (fun _=>⟨#[]⟩)
  |a::b::_=>prB op nm (fun t=>parB (bindsN a.op) t (printF a)) (fun t=>parB (bindsN b.op) t (printF b))
def kidP (f:Fm) (i t:Int):ByteArray:=
 match f with
 |.mk _ _ ks _=>match ks[i.toNat]? with
  |some g=>parB (bindsN g.op) t (printF g)
  |none=>⟨#[]⟩
end Go.Sc
namespace Go.Sc
open Go Go.Cm
theorem sm_nd (z:ByteArray):(nd z []).sm=true:=rfl
theorem sm_sameE {x a b:Fm} (hx:x.sm=true) (ha:a.sm=true):(sameE x a b).sm=true:=by
 unfold sameE;split<;>assumption
theorem sm_pair {x a b:Fm} (hx:x.sm=true) (ha:a.sm=true) (hb:b.sm=true):(pairF x a b).sm=true:=by
 have e:=sm_sameE (x:=x) (a:=a) (b:=b) hx ha
 unfold pairF pairAnd pairU
 repeat' split
 all_goals first|exact hb|exact ha|exact sm_nd _|exact e
theorem sm_mk {op nm:ByteArray} {ks:List Fm} {p:Int} (h1:ks.length≤4096) (h2:Fm.smL ks=true):(Fm.mk op nm ks p).sm=true:=by
 simp only[Fm.sm,h2,Bool.and_true,Nat.ble_eq];exact h1
theorem sm_endS {op nm:ByteArray} {ks:List Fm} (h1:ks.length≤4096) (h2:Fm.smL ks=true):(endS op nm ks).sm=true:=by
 have hm:=sm_mk (op:=op) (nm:=nm) (p:=0) h1 h2
 unfold endS
 split
 ·rename_i k
  have hk:=sm_mem h2 (show k∈[k]from .head _)
  split
  ·split
   ·exact hk
   ·exact hm
  ·exact hm
 ·rename_i a b
  exact sm_pair hm (sm_mem h2 (.head _)) (sm_mem h2 (.tail _ (.head _)))
 ·exact hm
theorem simpleL_len:∀fs:List Fm,(simpleL fs).length=fs.length
 |[]=>rfl
 |f::fs=>by simp only[simpleL,List.length_cons,simpleL_len fs]
mutual
theorem sm_simple:∀f:Fm,f.sm=true→(simpleF f).sm=true
 |.mk op nm ks p,h=>by
  simp only[Fm.sm,Bool.and_eq_true,Nat.ble_eq]at h
  simp only[simpleF]
  exact sm_endS (by rw[simpleL_len];exact h.1) (sm_simpleL ks h.2)
theorem sm_simpleL:∀fs:List Fm,Fm.smL fs=true→Fm.smL (simpleL fs)=true
 |[],_=>rfl
 |f::fs,h=>by
  simp only[Fm.smL,Bool.and_eq_true]at h
  simp only[simpleL,Fm.smL,sm_simple f h.1,sm_simpleL fs h.2,Bool.and_true]
end
theorem dL_append (us vs:List Fm):Fm.dL (us++vs)=Fm.dL us++Fm.dL vs:=by simp only[dL_eq,List.map_append]
end Go.Sc
namespace Go.Sc
open Go Go.Cm
inductive U1 where
 |no|X|F|G
 deriving DecidableEq
inductive B2 where
 |and|or|imp|U|W|R
 deriving DecidableEq
inductive Pr where
 |tt|ff
 |lab (s:ByteArray)
 |un (o:U1) (a:Pr)
 |bi (o:B2) (a b:Pr)
 deriving DecidableEq
def U1.b:U1→ByteArray
 |.no=>⟨#[33]⟩|.X=>⟨#[88]⟩|.F=>⟨#[70]⟩|.G=>⟨#[71]⟩
def B2.b:B2→ByteArray
 |.and=>⟨#[38]⟩|.or=>⟨#[124]⟩|.imp=>⟨#[61,62]⟩|.U=>⟨#[85]⟩|.W=>⟨#[87]⟩|.R=>⟨#[82]⟩
def U1.s:U1→T8
 |.no=>[33]|.X=>[88]|.F=>[70]|.G=>[71]
def B2.s:B2→T8
 |.and=>[38]|.or=>[124]|.imp=>[61,62]|.U=>[85]|.W=>[87]|.R=>[82]
def u1? (l:T8):Option U1:=if l==[33]then some .no else if l==[88]then some .X else if l==[70]then some .F else if l==[71]then some .G else none
def b2? (l:T8):Option B2:=if l==[38]then some .and else if l==[124]then some .or else if l==[61,62]then some .imp else if l==[85]then some .U else if l==[87]then some .W else if l==[82]then some .R else none
def u1A (l:T8) (x:Option Pr):Option Pr:=match u1? l,x with|some o,some x=>some (.un o x)|_,_=>none
def b2A (l:T8) (x y:Option Pr):Option Pr:=match b2? l,x,y with|some o,some x,some y=>some (.bi o x y)|_,_,_=>none
def Fm.abs:Fm→Option Pr
 |.mk op nm ks _=>match ks with
  |[]=>if op.toList==oTrue then some .tt else if op.toList==oFalse then some .ff else if op.toList==oLabel then some (.lab nm)else none
  |[a]=>u1A op.toList a.abs
  |[a,b]=>b2A op.toList a.abs b.abs
  |_=>none
def Pr.fm:Pr→Fm
 |.tt=>nd bTrue []
 |.ff=>nd bFalse []
 |.lab s=>labF s
 |.un o a=>nd o.b [a.fm]
 |.bi o a b=>nd o.b [a.fm,b.fm]
theorem B_lit (l:T8):ByteArray.toList ⟨l.toArray⟩=l:=by rw[ByteArray.toList_eq]
theorem U1.b_s (o:U1):o.b.toList=o.s:=by cases o<;>exact B_lit _
theorem B2.b_s (o:B2):o.b.toList=o.s:=by cases o<;>exact B_lit _
theorem u1_s {l:T8} {o:U1} (h:u1? l=some o):l=o.s:=by
 unfold u1? at h
 repeat' split at h
 all_goals first|(cases h;done)|(rename_i e;cases h;exact eq_of_beq e)
theorem b2_s {l:T8} {o:B2} (h:b2? l=some o):l=o.s:=by
 unfold b2? at h
 repeat' split at h
 all_goals first|(cases h;done)|(rename_i e;cases h;exact eq_of_beq e)
theorem u1_of (o:U1):u1? o.s=some o:=by cases o<;>rfl
theorem b2_of (o:B2):b2? o.s=some o:=by cases o<;>rfl
theorem u1A_some {l:T8} {x:Option Pr} {t:Pr} (h:u1A l x=some t):∃o a,l=U1.s o∧x=some a∧t=.un o a:=by
 unfold u1A at h
 cases e:u1? l with
 |none=>simp[e]at h
 |some o=>
  cases x with
  |none=>simp[e]at h
  |some a=>simp only[e,Option.some.injEq]at h;exact⟨o,a,u1_s e,rfl,h.symm⟩
theorem b2A_some {l:T8} {x y:Option Pr} {t:Pr} (h:b2A l x y=some t):∃o a b,l=B2.s o∧x=some a∧y=some b∧t=.bi o a b:=by
 unfold b2A at h
 cases e:b2? l with
 |none=>simp[e]at h
 |some o=>
  cases x with
  |none=>simp[e]at h
  |some a=>
   cases y with
   |none=>simp[e]at h
   |some b=>simp only[e,Option.some.injEq]at h;exact⟨o,a,b,b2_s e,rfl,rfl,h.symm⟩
theorem abs_inv {f:Fm} {t:Pr} (h:f.abs=some t):
  (∃op nm p,f=.mk op nm [] p∧((op.toList=oTrue∧t=.tt)∨(op.toList=oFalse∧t=.ff)∨(op.toList=oLabel∧t=.lab nm)))∨
  (∃op nm a p o x,f=.mk op nm [a] p∧op.toList=U1.s o∧a.abs=some x∧t=.un o x)∨
  (∃op nm a b p o x y,f=.mk op nm [a,b] p∧op.toList=B2.s o∧a.abs=some x∧b.abs=some y∧t=.bi o x y):=by
 cases f with
 |mk op nm ks p=>
  unfold Fm.abs at h
  split at h
  ·left
   refine⟨op,nm,p,rfl,?_⟩
   repeat' split at h
   ·rename_i e;cases h;exact .inl ⟨by simpa using e,rfl⟩
   ·rename_i e;cases h;exact .inr (.inl ⟨by simpa using e,rfl⟩)
   ·rename_i e;cases h;exact .inr (.inr ⟨by simpa using e,rfl⟩)
   ·cases h
  ·rename_i a
   obtain⟨o,x,h1,h2,h3⟩:=u1A_some h
   exact .inr (.inl ⟨op,nm,a,p,o,x,rfl,h1,h2,h3⟩)
  ·rename_i a b
   obtain⟨o,x,y,h1,h2,h3,h4⟩:=b2A_some h
   exact .inr (.inr ⟨op,nm,a,b,p,o,x,y,rfl,h1,h2,h3,h4⟩)
  ·cases h
theorem abs_fm:∀t:Pr,t.fm.abs=some t
 |.tt=>by simp only[Pr.fm,nd,bTrue,Fm.abs,show ByteArray.toList ⟨#[116,114,117,101]⟩=oTrue from B_lit oTrue];rfl
 |.ff=>by simp only[Pr.fm,nd,bFalse,Fm.abs,show ByteArray.toList ⟨#[102,97,108,115,101]⟩=oFalse from B_lit oFalse];rfl
 |.lab s=>by
  simp only[Pr.fm,labF,Fm.abs,show ByteArray.toList ⟨#[108,97,98,101,108]⟩=oLabel from B_lit oLabel];rfl
 |.un o a=>by
  simp only[Pr.fm,nd,Fm.abs,u1A,U1.b_s,u1_of,abs_fm a]
 |.bi o a b=>by
  simp only[Pr.fm,nd,Fm.abs,b2A,B2.b_s,b2_of,abs_fm a,abs_fm b]
theorem kidsN_u (op:ByteArray) (o:U1) (h:op.toList=o.s):kidsN op=1:=by unfold kidsN;rw[h];cases o<;>rfl
theorem kidsN_b (op:ByteArray) (o:B2) (h:op.toList=o.s):kidsN op=2:=by unfold kidsN;rw[h];cases o<;>rfl
theorem formF_abs:∀(t:Pr) (f:Fm),f.abs=some t→formF f=true
 |t,f,h=>by
  rcases abs_inv h with⟨op,nm,p,rfl,h1⟩|⟨op,nm,a,p,o,x,rfl,h1,h2,rfl⟩|⟨op,nm,a,b,p,o,x,y,rfl,h1,h2,h3,rfl⟩
  ·simp only[formF,formL,Bool.and_true]
   unfold kidsN
   rcases h1 with⟨h1,rfl⟩|⟨h1,rfl⟩|⟨h1,rfl⟩<;>rw[h1]<;>rfl
  ·simp only[formF,formL,formF_abs x a h2,kidsN_u op o h1];rfl
  ·simp only[formF,formL,formF_abs x a h2,formF_abs y b h3,kidsN_b op o h1];rfl
end Go.Sc
namespace Go.Sc
open Go Go.Cm
def B2.dual:B2→B2
 |.and=>.or|.or=>.and|.U=>.R|.R=>.U|o=>o
def B2.nt (o:B2) (n:Bool):B2:=match n with|true=>o.dual|false=>o
def Pr.nf:Pr→Bool→Pr
 |.tt,n=>match n with|true=>.ff|false=>.tt
 |.ff,n=>match n with|true=>.tt|false=>.ff
 |.lab s,n=>match n with|true=>.un .no (.lab s)|false=>.lab s
 |.un .no a,n=>a.nf (!n)
 |.un .X a,n=>.un .X (a.nf n)
 |.un .F a,n=>match n with|true=>.bi .R .ff (a.nf n)|false=>.bi .U .tt (a.nf n)
 |.un .G a,n=>match n with|true=>.bi .U .tt (a.nf n)|false=>.bi .R .ff (a.nf n)
 |.bi .imp a b,n=>match n with|true=>.bi .and (a.nf false) (b.nf true)|false=>.bi .or (a.nf true) (b.nf false)
 |.bi .W a b,n=>match n with|true=>.bi .U (b.nf n) (.bi .and (a.nf n) (b.nf n))|false=>.bi .R (b.nf n) (.bi .or (a.nf n) (b.nf n))
 |.bi o a b,n=>.bi (o.nt n) (a.nf n) (b.nf n)
def Pr.sz:Pr→Nat
 |.un _ a=>a.sz+1
 |.bi _ a b=>a.sz+b.sz+1
 |_=>1
theorem Pr.sz_pos (t:Pr):1≤t.sz:=by cases t<;>simp only[Pr.sz]<;>omega
def Pr.ok:Pr→Bool
 |.un .no (.lab _)=>true
 |.un .X a=>a.ok
 |.un _ _=>false
 |.bi .imp _ _=>false
 |.bi .W _ _=>false
 |.bi _ a b=>a.ok&&b.ok
 |_=>true
theorem Pr.nf_ok:∀(t:Pr) (n:Bool),(t.nf n).ok=true
 |.tt,n=>by cases n<;>rfl
 |.ff,n=>by cases n<;>rfl
 |.lab s,n=>by cases n<;>rfl
 |.un .no a,n=>by simp only[Pr.nf];exact nf_ok a _
 |.un .X a,n=>by simp only[Pr.nf,Pr.ok];exact nf_ok a _
 |.un .F a,n=>by cases n<;>simp only[Pr.nf,Pr.ok,nf_ok a,Bool.and_true]
 |.un .G a,n=>by cases n<;>simp only[Pr.nf,Pr.ok,nf_ok a,Bool.and_true]
 |.bi .imp a b,n=>by cases n<;>simp only[Pr.nf,Pr.ok,nf_ok a,nf_ok b,Bool.and_true]
 |.bi .W a b,n=>by cases n<;>simp only[Pr.nf,Pr.ok,nf_ok a,nf_ok b,Bool.and_true]
 |.bi .and a b,n=>by cases n<;>simp only[Pr.nf,B2.nt,B2.dual,Pr.ok,nf_ok a,nf_ok b,Bool.and_true]
 |.bi .or a b,n=>by cases n<;>simp only[Pr.nf,B2.nt,B2.dual,Pr.ok,nf_ok a,nf_ok b,Bool.and_true]
 |.bi .U a b,n=>by cases n<;>simp only[Pr.nf,B2.nt,B2.dual,Pr.ok,nf_ok a,nf_ok b,Bool.and_true]
 |.bi .R a b,n=>by cases n<;>simp only[Pr.nf,B2.nt,B2.dual,Pr.ok,nf_ok a,nf_ok b,Bool.and_true]
def MK (t:Pr) (n:Bool) (l:Int) (r:Option (Fm×Int)):Prop:=
 (((t.nf n).sz:Int)≤l→r=some ((t.nf n).fm,l - (t.nf n).sz))∧(l<((t.nf n).sz:Int)→∃x l',r=some (x,l')∧l'<0)
theorem mk_neg {t:Pr} {n:Bool} {l:Int} (h:l - 1<0):MK t n l (some (zeroF,l - 1)):=
 ⟨fun h1=>by have:=(t.nf n).sz_pos;omega,fun _=>⟨_,_,rfl,h⟩⟩
theorem mk_two {a b:Fm} {x y:Pr} {i j:Bool} {l:Int} {c:Fm→Fm→Fm} (ha:∀n l,MK x n l (makeF a n l)) (hb:∀n l,MK y n l (makeF b n l)):
  (((x.nf i).sz+(y.nf j).sz:Nat)≤l→(match makeF a i l with|some (u,l2)=>(match makeF b j l2 with|some (v,l3)=>some (c u v,l3)|none=>none)|none=>none)=some (c (x.nf i).fm (y.nf j).fm,l - ((x.nf i).sz+(y.nf j).sz:Nat)))∧
  (l<((x.nf i).sz+(y.nf j).sz:Nat)→∃z l',(match makeF a i l with|some (u,l2)=>(match makeF b j l2 with|some (v,l3)=>some (c u v,l3)|none=>none)|none=>none)=some (z,l')∧l'<0):=by
 have h1:=ha i l
 have hp:=(y.nf j).sz_pos
 refine⟨fun h=>?_,fun h=>?_⟩
 ·rw[h1.1 (by omega)]
  simp only
  rw[(hb j _).1 (by omega)]
  simp only[Option.some.injEq,Prod.mk.injEq,true_and]
  omega
 ·by_cases hx:((x.nf i).sz:Int)≤l
  ·rw[h1.1 hx]
   simp only
   obtain⟨z,l',e,hl⟩:=(hb j (l - (x.nf i).sz)).2 (by omega)
   rw[e]
   exact⟨_,_,rfl,hl⟩
  ·obtain⟨z,l',e,hl⟩:=h1.2 (by omega)
   rw[e]
   simp only
   obtain⟨z2,l2,e2,hl2⟩:=(hb j l').2 (by omega)
   rw[e2]
   exact⟨_,_,rfl,hl2⟩
theorem B_toList (op:ByteArray):(⟨op.toList.toArray⟩:ByteArray)=op:=by
 cases op;rw[ByteArray.toList_eq]
end Go.Sc
namespace Go.Sc
open Go Go.Cm
theorem makeF_nf:∀(t:Pr) (f:Fm),f.abs=some t→∀(n:Bool) (l:Int),MK t n l (makeF f n l)
 |t,f,h,n,l=>by
  rcases abs_inv h with⟨op,nm,p,rfl,h1⟩|⟨op,nm,a,p,o,x,rfl,h1,h2,rfl⟩|⟨op,nm,a,b,p,o,x,y,rfl,h1,h2,h3,rfl⟩
  all_goals
   unfold makeF
   by_cases hl:l - 1<0
   ·rw[if_pos hl];exact mk_neg hl
   rw[if_neg hl]
   unfold both4
  ·have leaf:∀(u:Pr) (m:ByteArray),u.sz=1→nd m []=u.fm→t.nf n=u→MK t n l (some (nd m [],l - 1)):=fun u m e1 e2 e3=>by
    unfold MK
    rw[e3,e1]
    exact⟨fun _=>by rw[e2];rfl,fun h=>by omega⟩
   have bt:(⟨#[102,97,108,115,101]⟩:ByteArray)=bFalse:=rfl
   rcases h1 with⟨h1,rfl⟩|⟨h1,rfl⟩|⟨h1,rfl⟩<;>rw[h1]
   ·rw[if_neg (show ¬(oTrue==[108,97,98,101,108])=true by decide)]
    rw[if_neg (show ¬(oTrue==[33])=true by decide)]
    rw[if_neg (show ¬(oTrue==[88])=true by decide)]
    rw[if_neg (show ¬(oTrue==[38]||oTrue==[124]||oTrue==[85]||oTrue==[82])=true by decide)]
    rw[if_neg (show ¬(oTrue==[61,62])=true by decide)]
    rw[if_neg (show ¬(oTrue==[70]||oTrue==[71])=true by decide)]
    rw[if_neg (show ¬(oTrue==[87])=true by decide)]
    cases n with
    |true=>
     have e:opN op true=bFalse:=by
      unfold opN dualB;simp only[h1];rfl
     rw[e];exact leaf .ff _ rfl rfl rfl
    |false=>
     have e:opN op false=bTrue:=by
      show op=_;rw[←B_toList op,h1];rfl
     rw[e];exact leaf .tt _ rfl rfl rfl
   ·rw[if_neg (show ¬(oFalse==[108,97,98,101,108])=true by decide)]
    rw[if_neg (show ¬(oFalse==[33])=true by decide)]
    rw[if_neg (show ¬(oFalse==[88])=true by decide)]
    rw[if_neg (show ¬(oFalse==[38]||oFalse==[124]||oFalse==[85]||oFalse==[82])=true by decide)]
    rw[if_neg (show ¬(oFalse==[61,62])=true by decide)]
    rw[if_neg (show ¬(oFalse==[70]||oFalse==[71])=true by decide)]
    rw[if_neg (show ¬(oFalse==[87])=true by decide)]
    cases n with
    |true=>
     have e:opN op true=bTrue:=by
      unfold opN dualB;simp only[h1];rfl
     rw[e];exact leaf .tt _ rfl rfl rfl
    |false=>
     have e:opN op false=bFalse:=by
      show op=_;rw[←B_toList op,h1];rfl
     rw[e];exact leaf .ff _ rfl rfl rfl
   ·rw[if_pos (show(oLabel==[108,97,98,101,108])=true by decide)]
    cases n with
    |true=>
     simp only
     by_cases h2:l - 1 - 1<0
     ·rw[if_pos h2]
      exact⟨fun h=>by simp only[Pr.nf,Pr.sz]at h;omega,fun _=>⟨_,_,rfl,h2⟩⟩
     ·rw[if_neg h2]
      refine⟨fun h=>?_,fun h=>by simp only[Pr.nf,Pr.sz]at h;omega⟩
      simp only[Pr.nf,Pr.sz,Pr.fm,U1.b,Option.some.injEq,Prod.mk.injEq,true_and]
      omega
    |false=>
     refine⟨fun h=>?_,fun h=>by simp only[Pr.nf,Pr.sz]at h;omega⟩
     simp only[Pr.nf,Pr.sz,Pr.fm,Option.some.injEq,Prod.mk.injEq,true_and]
     omega
  ·have ih:=makeF_nf x a h2
   rw[h1]
   cases o
   ·rw[if_neg (show ¬(U1.no.s==[108,97,98,101,108])=true by decide)]
    rw[if_pos (show(U1.no.s==[33])=true by decide)]
    rw[show l - 1+1=l by omega]
    exact ih (!n) l
   ·rw[if_neg (show ¬(U1.X.s==[108,97,98,101,108])=true by decide)]
    rw[if_neg (show ¬(U1.X.s==[33])=true by decide)]
    rw[if_pos (show(U1.X.s==[88])=true by decide)]
    have h:=ih n (l - 1)
    refine⟨fun hs=>?_,fun hs=>?_⟩
    ·simp only[Pr.nf,Pr.sz]at hs ⊢
     rw[h.1 (by omega)]
     simp only[Pr.fm,U1.b,Option.some.injEq,Prod.mk.injEq,true_and]
     omega
    ·simp only[Pr.nf,Pr.sz]at hs
     obtain⟨z,l',e,hl'⟩:=h.2 (by omega)
     simp only[e]
     exact⟨_,_,rfl,hl'⟩
   ·rw[if_neg (show ¬(U1.F.s==[108,97,98,101,108])=true by decide)]
    rw[if_neg (show ¬(U1.F.s==[33])=true by decide)]
    rw[if_neg (show ¬(U1.F.s==[88])=true by decide)]
    rw[if_neg (show ¬(U1.F.s==[38]||U1.F.s==[124]||U1.F.s==[85]||U1.F.s==[82])=true by decide)]
    rw[if_neg (show ¬(U1.F.s==[61,62])=true by decide)]
    rw[if_pos (show(U1.F.s==[70]||U1.F.s==[71])=true by decide)]
    have h:=ih n (l - 1 - 1)
    cases n with
    |true=>
     refine⟨fun hs=>?_,fun hs=>?_⟩
     ·simp only[Pr.nf,Pr.sz]at hs ⊢
      rw[h.1 (by omega)]
      simp only[show((U1.F.s==[70]) != true)=false from by decide,Pr.fm,B2.b,bTrue,bFalse,Option.some.injEq,Prod.mk.injEq,true_and]
      omega
     ·simp only[Pr.nf,Pr.sz]at hs
      obtain⟨z,l',e,hl'⟩:=h.2 (by omega)
      simp only[e]
      exact⟨_,_,rfl,hl'⟩
    |false=>
     refine⟨fun hs=>?_,fun hs=>?_⟩
     ·simp only[Pr.nf,Pr.sz]at hs ⊢
      rw[h.1 (by omega)]
      simp only[show((U1.F.s==[70]) != false)=true from by decide,Pr.fm,B2.b,bTrue,bFalse,Option.some.injEq,Prod.mk.injEq,true_and]
      omega
     ·simp only[Pr.nf,Pr.sz]at hs
      obtain⟨z,l',e,hl'⟩:=h.2 (by omega)
      simp only[e]
      exact⟨_,_,rfl,hl'⟩
   ·rw[if_neg (show ¬(U1.G.s==[108,97,98,101,108])=true by decide)]
    rw[if_neg (show ¬(U1.G.s==[33])=true by decide)]
    rw[if_neg (show ¬(U1.G.s==[88])=true by decide)]
    rw[if_neg (show ¬(U1.G.s==[38]||U1.G.s==[124]||U1.G.s==[85]||U1.G.s==[82])=true by decide)]
    rw[if_neg (show ¬(U1.G.s==[61,62])=true by decide)]
    rw[if_pos (show(U1.G.s==[70]||U1.G.s==[71])=true by decide)]
    have h:=ih n (l - 1 - 1)
    cases n with
    |true=>
     refine⟨fun hs=>?_,fun hs=>?_⟩
     ·simp only[Pr.nf,Pr.sz]at hs ⊢
      rw[h.1 (by omega)]
      simp only[show((U1.G.s==[70]) != true)=true from by decide,Pr.fm,B2.b,bTrue,bFalse,Option.some.injEq,Prod.mk.injEq,true_and]
      omega
     ·simp only[Pr.nf,Pr.sz]at hs
      obtain⟨z,l',e,hl'⟩:=h.2 (by omega)
      simp only[e]
      exact⟨_,_,rfl,hl'⟩
    |false=>
     refine⟨fun hs=>?_,fun hs=>?_⟩
     ·simp only[Pr.nf,Pr.sz]at hs ⊢
      rw[h.1 (by omega)]
      simp only[show((U1.G.s==[70]) != false)=false from by decide,Pr.fm,B2.b,bTrue,bFalse,Option.some.injEq,Prod.mk.injEq,true_and]
      omega
     ·simp only[Pr.nf,Pr.sz]at hs
      obtain⟨z,l',e,hl'⟩:=h.2 (by omega)
      simp only[e]
      exact⟨_,_,rfl,hl'⟩
  ·have iha:=makeF_nf x a h2
   have ihb:=makeF_nf y b h3
   rw[h1]
   cases o
   ·rw[if_neg (show ¬(B2.and.s==[108,97,98,101,108])=true by decide)]
    rw[if_neg (show ¬(B2.and.s==[33])=true by decide)]
    rw[if_neg (show ¬(B2.and.s==[88])=true by decide)]
    rw[if_pos (show(B2.and.s==[38]||B2.and.s==[124]||B2.and.s==[85]||B2.and.s==[82])=true by decide)]
    cases n with
    |true=>
     have e:opN op true=B2.or.b:=by unfold opN dualB;simp only[h1];rfl
     rw[e]
     obtain⟨c1,c2⟩:=mk_two (c:=fun u v=>nd B2.or.b [u,v]) iha ihb (i:=true) (j:=true) (l:=l - 1)
     refine⟨fun hs=>?_,fun hs=>?_⟩
     ·simp only[Pr.nf,B2.nt,B2.dual,Pr.sz]at hs
      refine(c1 (by omega)).trans ?_
      simp only[Pr.nf,B2.nt,B2.dual,Pr.sz,Pr.fm,B2.b,Option.some.injEq,Prod.mk.injEq,true_and]
      omega
     ·simp only[Pr.nf,B2.nt,B2.dual,Pr.sz]at hs
      exact c2 (by omega)
    |false=>
     have e:opN op false=B2.and.b:=by show op=_;rw[←B_toList op,h1];rfl
     rw[e]
     obtain⟨c1,c2⟩:=mk_two (c:=fun u v=>nd B2.and.b [u,v]) iha ihb (i:=false) (j:=false) (l:=l - 1)
     refine⟨fun hs=>?_,fun hs=>?_⟩
     ·simp only[Pr.nf,B2.nt,B2.dual,Pr.sz]at hs
      refine(c1 (by omega)).trans ?_
      simp only[Pr.nf,B2.nt,B2.dual,Pr.sz,Pr.fm,B2.b,Option.some.injEq,Prod.mk.injEq,true_and]
      omega
     ·simp only[Pr.nf,B2.nt,B2.dual,Pr.sz]at hs
      exact c2 (by omega)
   ·rw[if_neg (show ¬(B2.or.s==[108,97,98,101,108])=true by decide)]
    rw[if_neg (show ¬(B2.or.s==[33])=true by decide)]
    rw[if_neg (show ¬(B2.or.s==[88])=true by decide)]
    rw[if_pos (show(B2.or.s==[38]||B2.or.s==[124]||B2.or.s==[85]||B2.or.s==[82])=true by decide)]
    cases n with
    |true=>
     have e:opN op true=B2.and.b:=by unfold opN dualB;simp only[h1];rfl
     rw[e]
     obtain⟨c1,c2⟩:=mk_two (c:=fun u v=>nd B2.and.b [u,v]) iha ihb (i:=true) (j:=true) (l:=l - 1)
     refine⟨fun hs=>?_,fun hs=>?_⟩
     ·simp only[Pr.nf,B2.nt,B2.dual,Pr.sz]at hs
      refine(c1 (by omega)).trans ?_
      simp only[Pr.nf,B2.nt,B2.dual,Pr.sz,Pr.fm,B2.b,Option.some.injEq,Prod.mk.injEq,true_and]
      omega
     ·simp only[Pr.nf,B2.nt,B2.dual,Pr.sz]at hs
      exact c2 (by omega)
    |false=>
     have e:opN op false=B2.or.b:=by show op=_;rw[←B_toList op,h1];rfl
     rw[e]
     obtain⟨c1,c2⟩:=mk_two (c:=fun u v=>nd B2.or.b [u,v]) iha ihb (i:=false) (j:=false) (l:=l - 1)
     refine⟨fun hs=>?_,fun hs=>?_⟩
     ·simp only[Pr.nf,B2.nt,B2.dual,Pr.sz]at hs
      refine(c1 (by omega)).trans ?_
      simp only[Pr.nf,B2.nt,B2.dual,Pr.sz,Pr.fm,B2.b,Option.some.injEq,Prod.mk.injEq,true_and]
      omega
     ·simp only[Pr.nf,B2.nt,B2.dual,Pr.sz]at hs
      exact c2 (by omega)
   ·rw[if_neg (show ¬(B2.imp.s==[108,97,98,101,108])=true by decide)]
    rw[if_neg (show ¬(B2.imp.s==[33])=true by decide)]
    rw[if_neg (show ¬(B2.imp.s==[88])=true by decide)]
    rw[if_neg (show ¬(B2.imp.s==[38]||B2.imp.s==[124]||B2.imp.s==[85]||B2.imp.s==[82])=true by decide)]
    rw[if_pos (show(B2.imp.s==[61,62])=true by decide)]
    cases n with
    |true=>
     obtain⟨c1,c2⟩:=mk_two (c:=fun u v=>nd ⟨#[38]⟩ [u,v]) iha ihb (i:=false) (j:=true) (l:=l - 1)
     refine⟨fun hs=>?_,fun hs=>?_⟩
     ·simp only[Pr.nf,B2.nt,B2.dual,Pr.sz]at hs
      refine(c1 (by omega)).trans ?_
      simp only[Pr.nf,B2.nt,B2.dual,Pr.sz,Pr.fm,B2.b,Option.some.injEq,Prod.mk.injEq,true_and]
      omega
     ·simp only[Pr.nf,B2.nt,B2.dual,Pr.sz]at hs
      exact c2 (by omega)
    |false=>
     obtain⟨c1,c2⟩:=mk_two (c:=fun u v=>nd ⟨#[124]⟩ [u,v]) iha ihb (i:=true) (j:=false) (l:=l - 1)
     refine⟨fun hs=>?_,fun hs=>?_⟩
     ·simp only[Pr.nf,B2.nt,B2.dual,Pr.sz]at hs
      refine(c1 (by omega)).trans ?_
      simp only[Pr.nf,B2.nt,B2.dual,Pr.sz,Pr.fm,B2.b,Option.some.injEq,Prod.mk.injEq,true_and]
      omega
     ·simp only[Pr.nf,B2.nt,B2.dual,Pr.sz]at hs
      exact c2 (by omega)
   ·rw[if_neg (show ¬(B2.U.s==[108,97,98,101,108])=true by decide)]
    rw[if_neg (show ¬(B2.U.s==[33])=true by decide)]
    rw[if_neg (show ¬(B2.U.s==[88])=true by decide)]
    rw[if_pos (show(B2.U.s==[38]||B2.U.s==[124]||B2.U.s==[85]||B2.U.s==[82])=true by decide)]
    cases n with
    |true=>
     have e:opN op true=B2.R.b:=by unfold opN dualB;simp only[h1];rfl
     rw[e]
     obtain⟨c1,c2⟩:=mk_two (c:=fun u v=>nd B2.R.b [u,v]) iha ihb (i:=true) (j:=true) (l:=l - 1)
     refine⟨fun hs=>?_,fun hs=>?_⟩
     ·simp only[Pr.nf,B2.nt,B2.dual,Pr.sz]at hs
      refine(c1 (by omega)).trans ?_
      simp only[Pr.nf,B2.nt,B2.dual,Pr.sz,Pr.fm,B2.b,Option.some.injEq,Prod.mk.injEq,true_and]
      omega
     ·simp only[Pr.nf,B2.nt,B2.dual,Pr.sz]at hs
      exact c2 (by omega)
    |false=>
     have e:opN op false=B2.U.b:=by show op=_;rw[←B_toList op,h1];rfl
     rw[e]
     obtain⟨c1,c2⟩:=mk_two (c:=fun u v=>nd B2.U.b [u,v]) iha ihb (i:=false) (j:=false) (l:=l - 1)
     refine⟨fun hs=>?_,fun hs=>?_⟩
     ·simp only[Pr.nf,B2.nt,B2.dual,Pr.sz]at hs
      refine(c1 (by omega)).trans ?_
      simp only[Pr.nf,B2.nt,B2.dual,Pr.sz,Pr.fm,B2.b,Option.some.injEq,Prod.mk.injEq,true_and]
      omega
     ·simp only[Pr.nf,B2.nt,B2.dual,Pr.sz]at hs
      exact c2 (by omega)
   ·rw[if_neg (show ¬(B2.W.s==[108,97,98,101,108])=true by decide)]
    rw[if_neg (show ¬(B2.W.s==[33])=true by decide)]
    rw[if_neg (show ¬(B2.W.s==[88])=true by decide)]
    rw[if_neg (show ¬(B2.W.s==[38]||B2.W.s==[124]||B2.W.s==[85]||B2.W.s==[82])=true by decide)]
    rw[if_neg (show ¬(B2.W.s==[61,62])=true by decide)]
    rw[if_neg (show ¬(B2.W.s==[70]||B2.W.s==[71])=true by decide)]
    rw[if_pos (show(B2.W.s==[87])=true by decide)]
    have hb:=ihb n (l - 1 - 1)
    have pa:=(x.nf n).sz_pos
    have pb:=(y.nf n).sz_pos
    refine⟨fun hs=>?_,fun hs=>?_⟩
    ·have hs':((y.nf n).sz+((x.nf n).sz+(y.nf n).sz+1)+1:Nat)≤l:=by cases n<;>simpa only[Pr.nf,Pr.sz]using hs
     simp only
     rw[hb.1 (by omega)]
     simp only
     rw[(iha n _).1 (by omega)]
     simp only
     rw[(ihb n _).1 (by omega)]
     cases n<;>(simp only[Pr.nf,Pr.sz,Pr.fm,B2.b,Option.some.injEq,Prod.mk.injEq,true_and];omega)
    ·have hs':l<((y.nf n).sz+((x.nf n).sz+(y.nf n).sz+1)+1:Nat):=by cases n<;>simpa only[Pr.nf,Pr.sz]using hs
     have key:∀(g:Fm) (l2:Int),(l2<((x.nf n).sz+(y.nf n).sz:Nat))→∃z l',(match makeF a n l2 with
      |some (u,l3)=>(match makeF b n l3 with
       |some (v,l4)=>(match n with
        |true=>some (nd ⟨#[85]⟩ [g,nd ⟨#[38]⟩ [u,v]],l4)
        |false=>some (nd ⟨#[82]⟩ [g,nd ⟨#[124]⟩ [u,v]],l4))
       |none=>none)
      |none=>none)=some (z,l')∧l'<0:=fun g l2 h2=>by
      by_cases hx:((x.nf n).sz:Int)≤l2
      ·rw[(iha n l2).1 hx]
       simp only
       obtain⟨z,l',e,hl⟩:=(ihb n (l2 - (x.nf n).sz)).2 (by omega)
       rw[e]
       cases n<;>exact⟨_,_,rfl,hl⟩
      ·obtain⟨z,l',e,hl⟩:=(iha n l2).2 (by omega)
       rw[e]
       simp only
       obtain⟨z2,l3,e2,hl2⟩:=(ihb n l').2 (by omega)
       rw[e2]
       cases n<;>exact⟨_,_,rfl,hl2⟩
     by_cases hg:((y.nf n).sz:Int)≤l - 1 - 1
     ·simp only
      rw[hb.1 hg]
      refine key _ _ ?_;omega
     ·obtain⟨z,l',e,hl'⟩:=hb.2 (by omega)
      simp only
      rw[e]
      refine key _ _ ?_;omega
   ·rw[if_neg (show ¬(B2.R.s==[108,97,98,101,108])=true by decide)]
    rw[if_neg (show ¬(B2.R.s==[33])=true by decide)]
    rw[if_neg (show ¬(B2.R.s==[88])=true by decide)]
    rw[if_pos (show(B2.R.s==[38]||B2.R.s==[124]||B2.R.s==[85]||B2.R.s==[82])=true by decide)]
    cases n with
    |true=>
     have e:opN op true=B2.U.b:=by unfold opN dualB;simp only[h1];rfl
     rw[e]
     obtain⟨c1,c2⟩:=mk_two (c:=fun u v=>nd B2.U.b [u,v]) iha ihb (i:=true) (j:=true) (l:=l - 1)
     refine⟨fun hs=>?_,fun hs=>?_⟩
     ·simp only[Pr.nf,B2.nt,B2.dual,Pr.sz]at hs
      refine(c1 (by omega)).trans ?_
      simp only[Pr.nf,B2.nt,B2.dual,Pr.sz,Pr.fm,B2.b,Option.some.injEq,Prod.mk.injEq,true_and]
      omega
     ·simp only[Pr.nf,B2.nt,B2.dual,Pr.sz]at hs
      exact c2 (by omega)
    |false=>
     have e:opN op false=B2.R.b:=by show op=_;rw[←B_toList op,h1];rfl
     rw[e]
     obtain⟨c1,c2⟩:=mk_two (c:=fun u v=>nd B2.R.b [u,v]) iha ihb (i:=false) (j:=false) (l:=l - 1)
     refine⟨fun hs=>?_,fun hs=>?_⟩
     ·simp only[Pr.nf,B2.nt,B2.dual,Pr.sz]at hs
      refine(c1 (by omega)).trans ?_
      simp only[Pr.nf,B2.nt,B2.dual,Pr.sz,Pr.fm,B2.b,Option.some.injEq,Prod.mk.injEq,true_and]
      omega
     ·simp only[Pr.nf,B2.nt,B2.dual,Pr.sz]at hs
      exact c2 (by omega)
  termination_by t=>SizeOf.sizeOf t
end Go.Sc
namespace Go.Sd
open Go Go.Cm Go.Proofs Go.Sc
set_option maxRecDepth 100000
namespace F51
theorem start {β:Type} (s:ByteArray) (c:Int) (k:List TV→List TV→Option β):evalF Tryz.prog E0 Tryz.f139 [.d true 0 (.str s),.d true 0 (.int .u8 c)] k=k [.d false 0 (.int .i64 (idxS s c))] []:=by kernel_rfl
end F51
namespace F46
theorem start {β:Type} (s:ByteArray) (c:Int) (k:List TV→List TV→Option β):evalF Tryz.prog E1 Tryz.f137 [.d true 0 (.str s),.d true 0 (.int .u8 c)] k=k [.d false 0 (.int .i64 (idxS s c))] []:=by kernel_rfl
end F46
namespace F44
theorem start {β:Type} (s:ByteArray) (p:ByteArray) (k:List TV→List TV→Option β):evalF Tryz.prog E2 Tryz.f135 [.d true 0 (.str s),.d true 0 (.str p)] k=if decide ((↑(ByteArray.size s):Int)≥(↑(ByteArray.size p):Int))=true then if(0:Int)≤(↑(ByteArray.size p):Int)∧(↑(ByteArray.size p):Int)≤(↑(ByteArray.size s):Int)∧(0:Int)≤0∧(0:Int)≤(↑(ByteArray.size p):Int)then k [.d false 0 (.bool (ByteArray.toList (ByteArray.extract s 0 (Int.toNat (↑(ByteArray.size p):Int)))==p.toList))] []else none else k [.d false 0 (.bool false)] []:=by kernel_rfl
end F44
namespace F31
theorem start {β:Type} (s:ByteArray) (p:ByteArray) (k:List TV→List TV→Option β):evalF Tryz.prog E3 Tryz.f124 [.d true 0 (.str s),.d true 0 (.str p)] k=k [.d false 0 (.bool (hasP s p))] []:=by kernel_rfl
end F31
namespace F50
theorem start {β:Type} (s:ByteArray) (p:ByteArray) (k:List TV→List TV→Option β):evalF Tryz.prog E4 Tryz.f138 [.d true 0 (.str s),.d true 0 (.str p)] k=if((↑(ByteArray.size p):Int)==0)=true then k [.d false 0 (.int .i64 0)] []else if(p.toList==s.toList)=true then k [.d false 0 (.int .i64 0)] []else if((↑(ByteArray.size p):Int)==1)=true then match p[0]? with
   |some c10=>k [.d false 0 (.int .i64 (idxS s (↑(UInt8.toNat c10):Int)))] []
   |none=>none else if decide ((↑(ByteArray.size p):Int)≥(↑(ByteArray.size s):Int))=true then k [.d false 0 (.int .i64 (-1:Int))] []else none:=by kernel_rfl
end F50
namespace F45
theorem start {β:Type} (s:ByteArray) (p:ByteArray) (k:List TV→List TV→Option β):evalF Tryz.prog E5 Tryz.f136 [.d true 0 (.str s),.d true 0 (.str p)] k=match p.toList with
   |[c2]=>if decide (indexS s c2≥0)=true then if 0≤indexS s c2∧indexS s c2≤(↑(ByteArray.size s):Int)∧(0:Int)≤0∧0≤indexS s c2 then if(0:Int)≤(↑(ByteArray.size s):Int)∧(↑(ByteArray.size s):Int)≤(↑(ByteArray.size s):Int)∧0≤IntKind.wrap .i64 (indexS s c2+(↑(ByteArray.size p):Int))∧IntKind.wrap .i64 (indexS s c2+(↑(ByteArray.size p):Int))≤(↑(ByteArray.size s):Int)then k [.d false 0 (.str (ByteArray.extract s 0 (Int.toNat (indexS s c2)))),.d false 0 (.str (ByteArray.extract s (Int.toNat (IntKind.wrap .i64 (indexS s c2+(↑(ByteArray.size p):Int)))) (Int.toNat (↑(ByteArray.size s):Int)))),.d false 0 (.bool true)] []else none else none else k [.d false 0 (.str s),.d false 0 (.str (ByteArray.mk #[])),.d false 0 (.bool false)] []
   |x=>none:=by kernel_rfl
end F45
namespace F32
theorem start {β:Type} (s:ByteArray) (p:ByteArray) (k:List TV→List TV→Option β):evalF Tryz.prog E6 Tryz.f125 [.d true 0 (.str s),.d true 0 (.str p)] k=match p.toList with
   |[c2]=>if small s then match Nat.ble (ByteArray.size s) (Int.toNat (indexS s c2))||decide (indexS s c2<0)with
    |true=>k [.d false 0 (.str s),.d false 0 (.str (ByteArray.mk #[])),.d false 0 (.bool false)] []
    |false=>k [.d false 0 (.str (ByteArray.extract s 0 (Int.toNat (indexS s c2)))),.d false 0 (.str (ByteArray.extract s (Int.toNat (indexS s c2)+1) (ByteArray.size s))),.d false 0 (.bool true)] []else none
   |x=>none:=by kernel_rfl
end F32
namespace F33
theorem start {β:Type} (c:Int) (k:List TV→List TV→Option β):evalF Tryz.prog E7 Tryz.f126 [.d true 0 (.int .u8 c)] k=if decide (c≥97)=true then if decide (c≤122)=true then k [.d false 0 (.int .i64 1)] []else if decide (c≥65)=true then if decide (c≤90)=true then k [.d false 0 (.int .i64 1)] []else if(c==95)=true then k [.d false 0 (.int .i64 1)] []else if decide (c≥48)=true then if decide (c≤57)=true then k [.d false 0 (.int .i64 2)] []else if(c==34)=true then k [.d false 0 (.int .i64 3)] []else if decide (idxS (ByteArray.mk #[45,60,62,33,61,46,91,93,40,41,58,59,44,43,42,38,124,63,39]) c≥0)=true then k [.d false 0 (.int .i64 4)] []else k [.d false 0 (.int .i64 (-1:Int))] []else if(c==34)=true then k [.d false 0 (.int .i64 3)] []else if decide (idxS (ByteArray.mk #[45,60,62,33,61,46,91,93,40,41,58,59,44,43,42,38,124,63,39]) c≥0)=true then k [.d false 0 (.int .i64 4)] []else k [.d false 0 (.int .i64 (-1:Int))] []else if(c==95)=true then k [.d false 0 (.int .i64 1)] []else if decide (c≥48)=true then if decide (c≤57)=true then k [.d false 0 (.int .i64 2)] []else if(c==34)=true then k [.d false 0 (.int .i64 3)] []else if decide (idxS (ByteArray.mk #[45,60,62,33,61,46,91,93,40,41,58,59,44,43,42,38,124,63,39]) c≥0)=true then k [.d false 0 (.int .i64 4)] []else k [.d false 0 (.int .i64 (-1:Int))] []else if(c==34)=true then k [.d false 0 (.int .i64 3)] []else if decide (idxS (ByteArray.mk #[45,60,62,33,61,46,91,93,40,41,58,59,44,43,42,38,124,63,39]) c≥0)=true then k [.d false 0 (.int .i64 4)] []else k [.d false 0 (.int .i64 (-1:Int))] []else if decide (c≥65)=true then if decide (c≤90)=true then k [.d false 0 (.int .i64 1)] []else if(c==95)=true then k [.d false 0 (.int .i64 1)] []else if decide (c≥48)=true then if decide (c≤57)=true then k [.d false 0 (.int .i64 2)] []else if(c==34)=true then k [.d false 0 (.int .i64 3)] []else if decide (idxS (ByteArray.mk #[45,60,62,33,61,46,91,93,40,41,58,59,44,43,42,38,124,63,39]) c≥0)=true then k [.d false 0 (.int .i64 4)] []else k [.d false 0 (.int .i64 (-1:Int))] []else if(c==34)=true then k [.d false 0 (.int .i64 3)] []else if decide (idxS (ByteArray.mk #[45,60,62,33,61,46,91,93,40,41,58,59,44,43,42,38,124,63,39]) c≥0)=true then k [.d false 0 (.int .i64 4)] []else k [.d false 0 (.int .i64 (-1:Int))] []else if(c==95)=true then k [.d false 0 (.int .i64 1)] []else if decide (c≥48)=true then if decide (c≤57)=true then k [.d false 0 (.int .i64 2)] []else if(c==34)=true then k [.d false 0 (.int .i64 3)] []else if decide (idxS (ByteArray.mk #[45,60,62,33,61,46,91,93,40,41,58,59,44,43,42,38,124,63,39]) c≥0)=true then k [.d false 0 (.int .i64 4)] []else k [.d false 0 (.int .i64 (-1:Int))] []else if(c==34)=true then k [.d false 0 (.int .i64 3)] []else if decide (idxS (ByteArray.mk #[45,60,62,33,61,46,91,93,40,41,58,59,44,43,42,38,124,63,39]) c≥0)=true then k [.d false 0 (.int .i64 4)] []else k [.d false 0 (.int .i64 (-1:Int))] []:=by kernel_rfl
end F33
namespace F35
theorem start {β:Type} (c:Int) (k:List TV→List TV→Option β):evalF Tryz.prog E8 Tryz.f128 [.d true 0 (.int .i64 c)] k=if(c==1)=true then k [.d false 0 (.bool true)] []else k [.d false 0 (.bool (c==2))] []:=by kernel_rfl
end F35
namespace F36
theorem start {β:Type} (c:Int) (k:List TV→List TV→Option β):evalF Tryz.prog E8b Tryz.f129 [.d true 0 (.int .i64 c)] k=k [.d false 0 (.bool (c==2))] []:=by kernel_rfl
end F36
namespace F34a
noncomputable def X:Fx:=⟨Tryz.prog,E9,64,3⟩
def s0 (s:ByteArray) (a:Int) (x9:Int):S:=⟨Tm.mk 27 [(0,.d true 0 (.str s)),(1,.d true 0 (.int .i64 a)),(2,.d true 0 (.fn 128 [])),(7,.d false 0 (.int .i64 x9))],[]⟩
def e0x0 (x20:Int):S:=⟨Tm.mk 27 [(7,.d false 0 (.int .i64 x20))],[]⟩
noncomputable abbrev L0:S→Option (S ⊕ (Ex×S)):=roundK X [(0,128)] (sub [1,1,0,0,0] (body Tryz.f127))
theorem start {β:Type} (s:ByteArray) (a:Int) (k:List TV→List TV→Option β):evalF Tryz.prog E9 Tryz.f127 [.d true 0 (.str s),.d true 0 (.int .i64 a),.d true 0 (.fn (128:FuncId) [])] k=goLp X [(0,128)] (sub [1,1,0,0,0] (body Tryz.f127)) [Kf.block 0 128,Kf.seq [] (sub [1,1,1] (body Tryz.f127)) 64] (finK Tryz.prog Tryz.f127 [.d true 0 (.str s),.d true 0 (.int .i64 a),.d true 0 (.fn (128:FuncId) [])] k) (s0 s a (0:Int)):=by kernel_rfl
theorem round0 (s:ByteArray) (a:Int) (x9:Int):roundK X [(0,128)] (sub [1,1,0,0,0] (body Tryz.f127)) (s0 s a x9)=if decide (IntKind.wrap .i64 (a+x9)<(↑(ByteArray.size s):Int))=true then if 0≤IntKind.wrap .i64 (a+x9)then match s[Int.toNat (IntKind.wrap .i64 (a+x9))]? with
   |some c25=>if(0:Int)≤(↑(UInt8.toNat c25):Int)∧(↑(UInt8.toNat c25):Int)<256 then if may1 (kindI (↑(UInt8.toNat c25):Int))=true then some (Sum.inl (s0 s a (IntKind.wrap .i64 (x9+1))))else some (Sum.inr (Ex.exit 0,e0x0 x9))else none
   |none=>none else none else some (Sum.inr (Ex.exit 0,e0x0 x9)):=by kernel_rfl
theorem behind0x0 {β:Type} (s:ByteArray) (a:Int) (x20:Int) (k:List TV→List TV→Option β):applyK X (finK Tryz.prog Tryz.f127 [.d true 0 (.str s),.d true 0 (.int .i64 a),.d true 0 (.fn (128:FuncId) [])] k) [Kf.block 0 128,Kf.seq [] (sub [1,1,1] (body Tryz.f127)) 64] (Ex.exit 0) (e0x0 x20)=k [.d false 0 (.int .i64 x20)] []:=by kernel_rfl
end F34a
namespace F34b
noncomputable def X:Fx:=⟨Tryz.prog,E9,64,3⟩
def s0 (s:ByteArray) (a:Int) (x9:Int):S:=⟨Tm.mk 27 [(0,.d true 0 (.str s)),(1,.d true 0 (.int .i64 a)),(2,.d true 0 (.fn 129 [])),(7,.d false 0 (.int .i64 x9))],[]⟩
def e0x0 (x20:Int):S:=⟨Tm.mk 27 [(7,.d false 0 (.int .i64 x20))],[]⟩
noncomputable abbrev L0:S→Option (S ⊕ (Ex×S)):=roundK X [(0,128)] (sub [1,1,0,0,0] (body Tryz.f127))
theorem start {β:Type} (s:ByteArray) (a:Int) (k:List TV→List TV→Option β):evalF Tryz.prog E9 Tryz.f127 [.d true 0 (.str s),.d true 0 (.int .i64 a),.d true 0 (.fn (129:FuncId) [])] k=goLp X [(0,128)] (sub [1,1,0,0,0] (body Tryz.f127)) [Kf.block 0 128,Kf.seq [] (sub [1,1,1] (body Tryz.f127)) 64] (finK Tryz.prog Tryz.f127 [.d true 0 (.str s),.d true 0 (.int .i64 a),.d true 0 (.fn (129:FuncId) [])] k) (s0 s a (0:Int)):=by kernel_rfl
theorem round0 (s:ByteArray) (a:Int) (x9:Int):roundK X [(0,128)] (sub [1,1,0,0,0] (body Tryz.f127)) (s0 s a x9)=if decide (IntKind.wrap .i64 (a+x9)<(↑(ByteArray.size s):Int))=true then if 0≤IntKind.wrap .i64 (a+x9)then match s[Int.toNat (IntKind.wrap .i64 (a+x9))]? with
   |some c25=>if(0:Int)≤(↑(UInt8.toNat c25):Int)∧(↑(UInt8.toNat c25):Int)<256 then if may2 (kindI (↑(UInt8.toNat c25):Int))=true then some (Sum.inl (s0 s a (IntKind.wrap .i64 (x9+1))))else some (Sum.inr (Ex.exit 0,e0x0 x9))else none
   |none=>none else none else some (Sum.inr (Ex.exit 0,e0x0 x9)):=by kernel_rfl
theorem behind0x0 {β:Type} (s:ByteArray) (a:Int) (x20:Int) (k:List TV→List TV→Option β):applyK X (finK Tryz.prog Tryz.f127 [.d true 0 (.str s),.d true 0 (.int .i64 a),.d true 0 (.fn (129:FuncId) [])] k) [Kf.block 0 128,Kf.seq [] (sub [1,1,1] (body Tryz.f127)) 64] (Ex.exit 0) (e0x0 x20)=k [.d false 0 (.int .i64 x20)] []:=by kernel_rfl
end F34b
namespace F30
noncomputable def X:Fx:=⟨Tryz.prog,E10,12,1⟩
def s0 (s:ByteArray) (x15:Int) (x16:Int):S:=⟨Tm.mk 28 [(0,.d true 0 (.str s)),(4,.d false 0 (.int .i64 x15)),(8,.d false 0 (.int .i64 (↑(ByteArray.size s):Int))),(9,.d false 0 (.int .i64 x16))],[]⟩
def e0r:S:=⟨Tm.mk 28 [(2,.d false 0 (.int .i64 0)),(3,.d false 0 (.bool false))],[]⟩
def e0x0 (x33:Int):S:=⟨Tm.mk 28 [(4,.d false 0 (.int .i64 x33))],[]⟩
noncomputable abbrev L0:S→Option (S ⊕ (Ex×S)):=roundK X [(0,16)] (sub [1,1,0,1,0,0] (body Tryz.f130))
theorem start {β:Type} (s:ByteArray) (k:List TV→List TV→Option β):evalF Tryz.prog E10 Tryz.f130 [.d true 0 (.str s)] k=goLp X [(0,16)] (sub [1,1,0,1,0,0] (body Tryz.f130)) [Kf.block 0 16,Kf.seq [] (sub [1,1,1] (body Tryz.f130)) 12] (finK Tryz.prog Tryz.f130 [.d true 0 (.str s)] k) (s0 s (0:Int) (0:Int)):=by kernel_rfl
theorem round0 (s:ByteArray) (x15:Int) (x16:Int):roundK X [(0,16)] (sub [1,1,0,1,0,0] (body Tryz.f130)) (s0 s x15 x16)=if decide (x16<(↑(ByteArray.size s):Int))=true then if 0≤x16 then match s[x16.toNat]? with
   |some c42=>if decide (x15>IntKind.wrap .i64 (Int.tdiv (IntKind.wrap .i64 ((9223372036854775807:Int) - IntKind.wrap .i64 (IntKind.wrap IntKind.u8 ((↑(UInt8.toNat c42):Int) - 48)))) (10:Int)))=true then some (Sum.inr (Ex.ret,e0r))else some (Sum.inl (s0 s (IntKind.wrap .i64 (IntKind.wrap .i64 ((10:Int)*x15)+IntKind.wrap .i64 (IntKind.wrap IntKind.u8 ((↑(UInt8.toNat c42):Int) - 48)))) (IntKind.wrap .i64 (x16+1))))
   |none=>none else none else some (Sum.inr (Ex.exit 0,e0x0 x15)):=by kernel_rfl
theorem behind0r {β:Type} (s:ByteArray) (k:List TV→List TV→Option β):applyK X (finK Tryz.prog Tryz.f130 [.d true 0 (.str s)] k) [Kf.block 0 16,Kf.seq [] (sub [1,1,1] (body Tryz.f130)) 12] Ex.ret e0r=k [.d false 0 (.int .i64 0),.d false 0 (.bool false)] []:=by kernel_rfl
theorem behind0x0 {β:Type} (s:ByteArray) (x33:Int) (k:List TV→List TV→Option β):applyK X (finK Tryz.prog Tryz.f130 [.d true 0 (.str s)] k) [Kf.block 0 16,Kf.seq [] (sub [1,1,1] (body Tryz.f130)) 12] (Ex.exit 0) (e0x0 x33)=k [.d false 0 (.int .i64 x33),.d false 0 (.bool true)] []:=by kernel_rfl
end F30
namespace F38
noncomputable def X:Fx:=⟨Tryz.prog,E11,4,1⟩
def s0 (s:ByteArray) (x22:Int):S:=⟨Tm.mk 31 [(0,.d true 0 (.str s)),(3,.d false 0 (.int .i64 (idxS (ByteArray.extract s 1 (Int.toNat (↑(ByteArray.size s):Int))) (34:Int)))),(4,.d false 0 (.int .i64 x22))],[]⟩
def e0r:S:=⟨Tm.mk 31 [(2,.d false 0 (.int .i64 0))],[]⟩
def e0x0 (s:ByteArray):S:=⟨Tm.mk 31 [(3,.d false 0 (.int .i64 (idxS (ByteArray.extract s 1 (Int.toNat (↑(ByteArray.size s):Int))) (34:Int))))],[]⟩
noncomputable abbrev L0:S→Option (S ⊕ (Ex×S)):=roundK X [(0,8)] (sub [1,1,1,0,1,0,0] (body Tryz.f132))
theorem start {β:Type} (s:ByteArray) (k:List TV→List TV→Option β):evalF Tryz.prog E11 Tryz.f132 [.d true 0 (.str s)] k=if(0:Int)≤(↑(ByteArray.size s):Int)∧(↑(ByteArray.size s):Int)≤(↑(ByteArray.size s):Int)∧(0:Int)≤1∧(1:Int)≤(↑(ByteArray.size s):Int)then if decide (idxS (ByteArray.extract s 1 (Int.toNat (↑(ByteArray.size s):Int))) (34:Int)<1)=true then k [.d false 0 (.int .i64 0)] []else if decide (idxS (ByteArray.extract s 1 (Int.toNat (↑(ByteArray.size s):Int))) (34:Int)>32)=true then k [.d false 0 (.int .i64 0)] []else goLp X [(0,8)] (sub [1,1,1,0,1,0,0] (body Tryz.f132)) [Kf.block 0 8,Kf.seq [] (sub [1,1,1,1] (body Tryz.f132)) 4] (finK Tryz.prog Tryz.f132 [.d true 0 (.str s)] k) (s0 s (1:Int))else none:=by kernel_rfl
theorem round0 (s:ByteArray) (x22:Int):roundK X [(0,8)] (sub [1,1,1,0,1,0,0] (body Tryz.f132)) (s0 s x22)=if decide (x22≤idxS (ByteArray.extract s 1 (Int.toNat (↑(ByteArray.size s):Int))) (34:Int))=true then if 0≤x22 then match s[x22.toNat]? with
   |some c35=>if decide ((↑(UInt8.toNat c35):Int)<32)=true then some (Sum.inr (Ex.ret,e0r))else if 0≤x22 then match s[x22.toNat]? with
    |some c38=>if decide ((↑(UInt8.toNat c38):Int)>126)=true then some (Sum.inr (Ex.ret,e0r))else some (Sum.inl (s0 s (IntKind.wrap .i64 (x22+1))))
    |none=>none else none
   |none=>none else none else some (Sum.inr (Ex.exit 0,e0x0 s)):=by kernel_rfl
theorem behind0r {β:Type} (s:ByteArray) (k:List TV→List TV→Option β):applyK X (finK Tryz.prog Tryz.f132 [.d true 0 (.str s)] k) [Kf.block 0 8,Kf.seq [] (sub [1,1,1,1] (body Tryz.f132)) 4] Ex.ret e0r=k [.d false 0 (.int .i64 0)] []:=by kernel_rfl
theorem behind0x0 {β:Type} (s:ByteArray) (k:List TV→List TV→Option β):applyK X (finK Tryz.prog Tryz.f132 [.d true 0 (.str s)] k) [Kf.block 0 8,Kf.seq [] (sub [1,1,1,1] (body Tryz.f132)) 4] (Ex.exit 0) (e0x0 s)=k [.d false 0 (.int .i64 (IntKind.wrap .i64 (idxS (ByteArray.extract s 1 (Int.toNat (↑(ByteArray.size s):Int))) (34:Int)+2)))] []:=by kernel_rfl
end F38
namespace F39
noncomputable def X:Fx:=⟨Tryz.prog,E12,4,1⟩
def s0 (s:ByteArray) (x9:Int):S:=⟨Tm.mk 18 [(0,.d true 0 (.str s)),(5,.ag [.d false 0 (.str (ByteArray.mk #[45,62])),.d false 0 (.str (ByteArray.mk #[60,61])),.d false 0 (.str (ByteArray.mk #[62,61])),.d false 0 (.str (ByteArray.mk #[33,61])),.d false 0 (.str (ByteArray.mk #[61,62])),.d false 0 (.str (ByteArray.mk #[46,46]))]),(6,.d false 0 (.int .i64 x9))],[]⟩
def e0r:S:=⟨Tm.mk 18 [(2,.d false 0 (.int .i64 2))],[]⟩
def e0x0 (s:ByteArray):S:=⟨Tm.mk 18 [(0,.d true 0 (.str s))],[]⟩
noncomputable abbrev L0:S→Option (S ⊕ (Ex×S)):=roundK X [(0,1)] (sub [1,0,1,0,0] (body Tryz.f133))
theorem start {β:Type} (s:ByteArray) (k:List TV→List TV→Option β):evalF Tryz.prog E12 Tryz.f133 [.d true 0 (.str s)] k=goLp X [(0,1)] (sub [1,0,1,0,0] (body Tryz.f133)) [Kf.block 0 1,Kf.seq [] (sub [1,1] (body Tryz.f133)) 4] (finK Tryz.prog Tryz.f133 [.d true 0 (.str s)] k) (s0 s (0:Int)):=by kernel_rfl
theorem round0_0 (s:ByteArray):roundK X [(0,1)] (sub [1,0,1,0,0] (body Tryz.f133)) (s0 s (0:Int))=if hasP s (ByteArray.mk #[45,62])=true then some (Sum.inr (Ex.ret,e0r))else some (Sum.inl (s0 s (1:Int))):=by kernel_rfl
theorem round0_1 (s:ByteArray):roundK X [(0,1)] (sub [1,0,1,0,0] (body Tryz.f133)) (s0 s (1:Int))=if hasP s (ByteArray.mk #[60,61])=true then some (Sum.inr (Ex.ret,e0r))else some (Sum.inl (s0 s (2:Int))):=by kernel_rfl
theorem round0_2 (s:ByteArray):roundK X [(0,1)] (sub [1,0,1,0,0] (body Tryz.f133)) (s0 s (2:Int))=if hasP s (ByteArray.mk #[62,61])=true then some (Sum.inr (Ex.ret,e0r))else some (Sum.inl (s0 s (3:Int))):=by kernel_rfl
theorem round0_3 (s:ByteArray):roundK X [(0,1)] (sub [1,0,1,0,0] (body Tryz.f133)) (s0 s (3:Int))=if hasP s (ByteArray.mk #[33,61])=true then some (Sum.inr (Ex.ret,e0r))else some (Sum.inl (s0 s (4:Int))):=by kernel_rfl
theorem round0_4 (s:ByteArray):roundK X [(0,1)] (sub [1,0,1,0,0] (body Tryz.f133)) (s0 s (4:Int))=if hasP s (ByteArray.mk #[61,62])=true then some (Sum.inr (Ex.ret,e0r))else some (Sum.inl (s0 s (5:Int))):=by kernel_rfl
theorem round0_5 (s:ByteArray):roundK X [(0,1)] (sub [1,0,1,0,0] (body Tryz.f133)) (s0 s (5:Int))=if hasP s (ByteArray.mk #[46,46])=true then some (Sum.inr (Ex.ret,e0r))else some (Sum.inl (s0 s (6:Int))):=by kernel_rfl
theorem round0_6 (s:ByteArray):roundK X [(0,1)] (sub [1,0,1,0,0] (body Tryz.f133)) (s0 s (6:Int))=some (Sum.inr (Ex.exit 0,e0x0 s)):=by kernel_rfl
theorem behind0r {β:Type} (s:ByteArray) (k:List TV→List TV→Option β):applyK X (finK Tryz.prog Tryz.f133 [.d true 0 (.str s)] k) [Kf.block 0 1,Kf.seq [] (sub [1,1] (body Tryz.f133)) 4] Ex.ret e0r=k [.d false 0 (.int .i64 2)] []:=by kernel_rfl
theorem behind0x0 {β:Type} (s:ByteArray) (k:List TV→List TV→Option β):applyK X (finK Tryz.prog Tryz.f133 [.d true 0 (.str s)] k) [Kf.block 0 1,Kf.seq [] (sub [1,1] (body Tryz.f133)) 4] (Ex.exit 0) (e0x0 s)=match s[0]? with
   |some c99=>if((↑(UInt8.toNat c99):Int)==46)=true then k [.d false 0 (.int .i64 0)] []else k [.d false 0 (.int .i64 1)] []
   |none=>none:=by kernel_rfl
end F39
namespace F23
noncomputable def X:Fx:=⟨Tryz.prog,E13,16,2⟩
def s0 (s:ByteArray) (a:Int) (x35:Bool) (x36:Int):S:=⟨Tm.mk 53 [(0,.d true 0 (.str s)),(1,.d true 0 (.int .i64 a)),(5,.d x35 0 (.int .i64 x36))],[]⟩
def e0x0 (a:Int) (x74:Bool) (x75:Int):S:=⟨Tm.mk 53 [(1,.d true 0 (.int .i64 a)),(5,.d x74 0 (.int .i64 x75))],[]⟩
def j0 (s:ByteArray) (a:Int) (x22:Bool) (x54:Bool) (x55:Int):S:=⟨Tm.mk 53 [(0,.d true 0 (.str s)),(1,.d true 0 (.int .i64 a)),(5,.d x54 0 (.int .i64 x55)),(14,.d false 0 (.bool x22))],[]⟩
noncomputable abbrev L0:S→Option (S ⊕ (Ex×S)):=roundK X [(0,34)] (sub [1,1,0,0,0] (body Tryz.f115))
theorem start {β:Type} (s:ByteArray) (a:Int) (k:List TV→List TV→Option β):evalF Tryz.prog E13 Tryz.f115 [.d true 0 (.str s),.d true 0 (.int .i64 a)] k=goLp X [(0,34)] (sub [1,1,0,0,0] (body Tryz.f115)) [Kf.block 0 34,Kf.seq [] (sub [1,1,1] (body Tryz.f115)) 16] (finK Tryz.prog Tryz.f115 [.d true 0 (.str s),.d true 0 (.int .i64 a)] k) (s0 s a true a):=by kernel_rfl
theorem round0 (s:ByteArray) (a:Int) (x35:Bool) (x36:Int):roundK X [(0,34)] (sub [1,1,0,0,0] (body Tryz.f115)) (s0 s a x35 x36)=if decide (x36<(↑(ByteArray.size s):Int))=true then if 0≤x36 then match s[x36.toNat]? with
   |some c91=>if((↑(UInt8.toNat c91):Int)==32)=true then applyK X (finR X [(0,34)] (sub [1,1,0,0,0] (body Tryz.f115))) [Kf.seq [(2,34),(1,35),(0,34)] (sub [1,1,0,0,0,1,0,0,0,1] (body Tryz.f115)) 34,Kf.block 2 34,Kf.seq [(1,35),(0,34)] (sub [1,1,0,0,0,1,0,1] (body Tryz.f115)) 35,Kf.block 1 35] Ex.norm (j0 s a ((↑(UInt8.toNat c91):Int)==32) x35 x36)else if 0≤x36 then match s[x36.toNat]? with
    |some c94=>if((↑(UInt8.toNat c94):Int)==9)=true then applyK X (finR X [(0,34)] (sub [1,1,0,0,0] (body Tryz.f115))) [Kf.seq [(2,34),(1,35),(0,34)] (sub [1,1,0,0,0,1,0,0,0,1] (body Tryz.f115)) 34,Kf.block 2 34,Kf.seq [(1,35),(0,34)] (sub [1,1,0,0,0,1,0,1] (body Tryz.f115)) 35,Kf.block 1 35] Ex.norm (j0 s a ((↑(UInt8.toNat c94):Int)==9) x35 x36)else if 0≤x36 then match s[x36.toNat]? with
     |some c97=>if((↑(UInt8.toNat c97):Int)==10)=true then applyK X (finR X [(0,34)] (sub [1,1,0,0,0] (body Tryz.f115))) [Kf.seq [(2,34),(1,35),(0,34)] (sub [1,1,0,0,0,1,0,0,0,1] (body Tryz.f115)) 34,Kf.block 2 34,Kf.seq [(1,35),(0,34)] (sub [1,1,0,0,0,1,0,1] (body Tryz.f115)) 35,Kf.block 1 35] Ex.norm (j0 s a ((↑(UInt8.toNat c97):Int)==10) x35 x36)else if 0≤x36 then match s[x36.toNat]? with
      |some c100=>applyK X (finR X [(0,34)] (sub [1,1,0,0,0] (body Tryz.f115))) [Kf.seq [(2,34),(1,35),(0,34)] (sub [1,1,0,0,0,1,0,0,0,1] (body Tryz.f115)) 34,Kf.block 2 34,Kf.seq [(1,35),(0,34)] (sub [1,1,0,0,0,1,0,1] (body Tryz.f115)) 35,Kf.block 1 35] Ex.norm (j0 s a ((↑(UInt8.toNat c100):Int)==13) x35 x36)
      |none=>none else none
     |none=>none else none
    |none=>none else none
   |none=>none else none else some (Sum.inr (Ex.exit 0,e0x0 a x35 x36)):=by kernel_rfl
theorem behind0x0 {β:Type} (s:ByteArray) (a:Int) (x74:Bool) (x75:Int) (k:List TV→List TV→Option β):applyK X (finK Tryz.prog Tryz.f115 [.d true 0 (.str s),.d true 0 (.int .i64 a)] k) [Kf.block 0 34,Kf.seq [] (sub [1,1,1] (body Tryz.f115)) 16] (Ex.exit 0) (e0x0 a x74 x75)=k [.d false 0 (.int .i64 (IntKind.wrap .i64 (x75 - a)))] []:=by kernel_rfl
theorem j0_eq (s:ByteArray) (a:Int) (x22:Bool) (x54:Bool) (x55:Int):applyK X (finR X [(0,34)] (sub [1,1,0,0,0] (body Tryz.f115))) [Kf.seq [(2,34),(1,35),(0,34)] (sub [1,1,0,0,0,1,0,0,0,1] (body Tryz.f115)) 34,Kf.block 2 34,Kf.seq [(1,35),(0,34)] (sub [1,1,0,0,0,1,0,1] (body Tryz.f115)) 35,Kf.block 1 35] Ex.norm (j0 s a x22 x54 x55)=if x22=true then some (Sum.inl (s0 s a false (IntKind.wrap .i64 (x55+1))))else if(0:Int)≤(↑(ByteArray.size s):Int)∧(↑(ByteArray.size s):Int)≤(↑(ByteArray.size s):Int)∧0≤x55∧x55≤(↑(ByteArray.size s):Int)then if hasP (ByteArray.extract s x55.toNat (Int.toNat (↑(ByteArray.size s):Int))) (ByteArray.mk #[47,47])=true then if(0:Int)≤(↑(ByteArray.size s):Int)∧(↑(ByteArray.size s):Int)≤(↑(ByteArray.size s):Int)∧0≤x55∧x55≤(↑(ByteArray.size s):Int)then if small (ByteArray.extract s x55.toNat (Int.toNat (↑(ByteArray.size s):Int)))then match Nat.ble (ByteArray.size (ByteArray.extract s x55.toNat (Int.toNat (↑(ByteArray.size s):Int)))) (Int.toNat (indexS (ByteArray.extract s x55.toNat (Int.toNat (↑(ByteArray.size s):Int))) (UInt8.ofNat (nat_lit 10))))||decide (indexS (ByteArray.extract s x55.toNat (Int.toNat (↑(ByteArray.size s):Int))) (UInt8.ofNat (nat_lit 10))<0)with
   |true=>some (Sum.inl (s0 s a false (IntKind.wrap .i64 (x55+(↑(ByteArray.size (ByteArray.extract s x55.toNat (Int.toNat (↑(ByteArray.size s):Int)))):Int)))))
   |false=>some (Sum.inl (s0 s a false (IntKind.wrap .i64 (x55+(↑(ByteArray.size (ByteArray.extract (ByteArray.extract s x55.toNat (Int.toNat (↑(ByteArray.size s):Int))) 0 (Int.toNat (indexS (ByteArray.extract s x55.toNat (Int.toNat (↑(ByteArray.size s):Int))) (UInt8.ofNat (nat_lit 10)))))):Int)))))else none else none else some (Sum.inr (Ex.exit 0,e0x0 a x54 x55))else none:=by kernel_rfl
end F23
namespace F37
theorem start {β:Type} (p:Int) (n:Int) (k:List TV→List TV→Option β):evalF Tryz.prog E14 Tryz.f131 [.d true 0 (.int .i64 p),.d true 0 (.ifc (84:TypeId) (.int .i64 n))] k=k [.d true 0 (.ifc 114 (.pt 3 (.ag [D.int .i64 p,D.ifc 84 (.int .i64 n)])))] []:=by kernel_rfl
end F37
namespace F24
theorem start {β:Type} (s:ByteArray) (a:Int) (k:List TV→List TV→Option β):evalF Tryz.prog E15 Tryz.f116 [.d true 0 (.str s),.d true 0 (.int .i64 a)] k=if 0≤a then match s[a.toNat]? with
   |some c2=>if(0:Int)≤(↑(UInt8.toNat c2):Int)∧(↑(UInt8.toNat c2):Int)<256 then if(kindI (↑(UInt8.toNat c2):Int)==1)=true then if inS s a then if((↑(runL may1 (List.drop a.toNat s.toList)):Int)==0)=true then k [.d false 4 (.ag [D.int .i64 0,D.str (ByteArray.mk #[]),D.int .i64 0]),.d false 0 (.int .i64 0),.d false 0 (.ifc 114 (.pt 3 (.ag [D.int .i64 a,D.ifc 84 (.int .i64 20)])))] []else if 0≤IntKind.wrap .i64 (a+(↑(runL may1 (List.drop a.toNat s.toList)):Int))∧IntKind.wrap .i64 (a+(↑(runL may1 (List.drop a.toNat s.toList)):Int))≤(↑(ByteArray.size s):Int)∧0≤a∧a≤IntKind.wrap .i64 (a+(↑(runL may1 (List.drop a.toNat s.toList)):Int))then k [.d true 4 (.ag [D.int .i64 (kindI (↑(UInt8.toNat c2):Int)),D.str (ByteArray.extract s a.toNat (Int.toNat (IntKind.wrap .i64 (a+(↑(runL may1 (List.drop a.toNat s.toList)):Int))))),D.int .i64 a]),.d false 0 (.int .i64 (↑(runL may1 (List.drop a.toNat s.toList)):Int)),.d false 0 D.nili] []else none else none else if(kindI (↑(UInt8.toNat c2):Int)==2)=true then if inS s a then if 0≤IntKind.wrap .i64 (a+(↑(runL may2 (List.drop a.toNat s.toList)):Int))∧IntKind.wrap .i64 (a+(↑(runL may2 (List.drop a.toNat s.toList)):Int))≤(↑(ByteArray.size s):Int)∧0≤a∧a≤IntKind.wrap .i64 (a+(↑(runL may2 (List.drop a.toNat s.toList)):Int))then if small (ByteArray.extract s a.toNat (Int.toNat (IntKind.wrap .i64 (a+(↑(runL may2 (List.drop a.toNat s.toList)):Int)))))∧digitsL (ByteArray.toList (ByteArray.extract s a.toNat (Int.toNat (IntKind.wrap .i64 (a+(↑(runL may2 (List.drop a.toNat s.toList)):Int))))))then match valI (ByteArray.toList (ByteArray.extract s a.toNat (Int.toNat (IntKind.wrap .i64 (a+(↑(runL may2 (List.drop a.toNat s.toList)):Int)))))) (0:Int)with
    |some n17=>if((↑(runL may2 (List.drop a.toNat s.toList)):Int)==0)=true then k [.d false 4 (.ag [D.int .i64 0,D.str (ByteArray.mk #[]),D.int .i64 0]),.d false 0 (.int .i64 0),.d false 0 (.ifc 114 (.pt 3 (.ag [D.int .i64 a,D.ifc 84 (.int .i64 20)])))] []else if 0≤IntKind.wrap .i64 (a+(↑(runL may2 (List.drop a.toNat s.toList)):Int))∧IntKind.wrap .i64 (a+(↑(runL may2 (List.drop a.toNat s.toList)):Int))≤(↑(ByteArray.size s):Int)∧0≤a∧a≤IntKind.wrap .i64 (a+(↑(runL may2 (List.drop a.toNat s.toList)):Int))then k [.d true 4 (.ag [D.int .i64 (kindI (↑(UInt8.toNat c2):Int)),D.str (ByteArray.extract s a.toNat (Int.toNat (IntKind.wrap .i64 (a+(↑(runL may2 (List.drop a.toNat s.toList)):Int))))),D.int .i64 a]),.d false 0 (.int .i64 (↑(runL may2 (List.drop a.toNat s.toList)):Int)),.d false 0 D.nili] []else none
    |none=>k [.d false 4 (.ag [D.int .i64 0,D.str (ByteArray.mk #[]),D.int .i64 0]),.d false 0 (.int .i64 0),.d false 0 (.ifc 114 (.pt 3 (.ag [D.int .i64 a,D.ifc 84 (.int .i64 10)])))] []else none else none else none else if(kindI (↑(UInt8.toNat c2):Int)==3)=true then if(0:Int)≤(↑(ByteArray.size s):Int)∧(↑(ByteArray.size s):Int)≤(↑(ByteArray.size s):Int)∧0≤a∧a≤(↑(ByteArray.size s):Int)then if small (ByteArray.extract s a.toNat (Int.toNat (↑(ByteArray.size s):Int)))∧0<ByteArray.size (ByteArray.extract s a.toNat (Int.toNat (↑(ByteArray.size s):Int)))then if decide ((↑(quotedL (ByteArray.toList (ByteArray.extract s a.toNat (Int.toNat (↑(ByteArray.size s):Int))))):Int)>0)=true then if 0≤IntKind.wrap .i64 (IntKind.wrap .i64 (a+(↑(quotedL (ByteArray.toList (ByteArray.extract s a.toNat (Int.toNat (↑(ByteArray.size s):Int))))):Int)) - 1)∧IntKind.wrap .i64 (IntKind.wrap .i64 (a+(↑(quotedL (ByteArray.toList (ByteArray.extract s a.toNat (Int.toNat (↑(ByteArray.size s):Int))))):Int)) - 1)≤(↑(ByteArray.size s):Int)∧0≤IntKind.wrap .i64 (a+1)∧IntKind.wrap .i64 (a+1)≤IntKind.wrap .i64 (IntKind.wrap .i64 (a+(↑(quotedL (ByteArray.toList (ByteArray.extract s a.toNat (Int.toNat (↑(ByteArray.size s):Int))))):Int)) - 1)then k [.d true 4 (.ag [D.int .i64 (kindI (↑(UInt8.toNat c2):Int)),D.str (ByteArray.extract s (Int.toNat (IntKind.wrap .i64 (a+1))) (Int.toNat (IntKind.wrap .i64 (IntKind.wrap .i64 (a+(↑(quotedL (ByteArray.toList (ByteArray.extract s a.toNat (Int.toNat (↑(ByteArray.size s):Int))))):Int)) - 1)))),D.int .i64 a]),.d false 0 (.int .i64 (↑(quotedL (ByteArray.toList (ByteArray.extract s a.toNat (Int.toNat (↑(ByteArray.size s):Int))))):Int)),.d false 0 D.nili] []else none else if((↑(quotedL (ByteArray.toList (ByteArray.extract s a.toNat (Int.toNat (↑(ByteArray.size s):Int))))):Int)==0)=true then k [.d false 4 (.ag [D.int .i64 0,D.str (ByteArray.mk #[]),D.int .i64 0]),.d false 0 (.int .i64 0),.d false 0 (.ifc 114 (.pt 3 (.ag [D.int .i64 a,D.ifc 84 (.int .i64 20)])))] []else if 0≤IntKind.wrap .i64 (a+(↑(quotedL (ByteArray.toList (ByteArray.extract s a.toNat (Int.toNat (↑(ByteArray.size s):Int))))):Int))∧IntKind.wrap .i64 (a+(↑(quotedL (ByteArray.toList (ByteArray.extract s a.toNat (Int.toNat (↑(ByteArray.size s):Int))))):Int))≤(↑(ByteArray.size s):Int)∧0≤a∧a≤IntKind.wrap .i64 (a+(↑(quotedL (ByteArray.toList (ByteArray.extract s a.toNat (Int.toNat (↑(ByteArray.size s):Int))))):Int))then k [.d true 4 (.ag [D.int .i64 (kindI (↑(UInt8.toNat c2):Int)),D.str (ByteArray.extract s a.toNat (Int.toNat (IntKind.wrap .i64 (a+(↑(quotedL (ByteArray.toList (ByteArray.extract s a.toNat (Int.toNat (↑(ByteArray.size s):Int))))):Int))))),D.int .i64 a]),.d false 0 (.int .i64 (↑(quotedL (ByteArray.toList (ByteArray.extract s a.toNat (Int.toNat (↑(ByteArray.size s):Int))))):Int)),.d false 0 D.nili] []else none else none else none else if(kindI (↑(UInt8.toNat c2):Int)==4)=true then if(0:Int)≤(↑(ByteArray.size s):Int)∧(↑(ByteArray.size s):Int)≤(↑(ByteArray.size s):Int)∧0≤a∧a≤(↑(ByteArray.size s):Int)then if 0<ByteArray.size (ByteArray.extract s a.toNat (Int.toNat (↑(ByteArray.size s):Int)))then if((↑(markL (ByteArray.toList (ByteArray.extract s a.toNat (Int.toNat (↑(ByteArray.size s):Int))))):Int)==0)=true then k [.d false 4 (.ag [D.int .i64 0,D.str (ByteArray.mk #[]),D.int .i64 0]),.d false 0 (.int .i64 0),.d false 0 (.ifc 114 (.pt 3 (.ag [D.int .i64 a,D.ifc 84 (.int .i64 20)])))] []else if 0≤IntKind.wrap .i64 (a+(↑(markL (ByteArray.toList (ByteArray.extract s a.toNat (Int.toNat (↑(ByteArray.size s):Int))))):Int))∧IntKind.wrap .i64 (a+(↑(markL (ByteArray.toList (ByteArray.extract s a.toNat (Int.toNat (↑(ByteArray.size s):Int))))):Int))≤(↑(ByteArray.size s):Int)∧0≤a∧a≤IntKind.wrap .i64 (a+(↑(markL (ByteArray.toList (ByteArray.extract s a.toNat (Int.toNat (↑(ByteArray.size s):Int))))):Int))then k [.d true 4 (.ag [D.int .i64 (kindI (↑(UInt8.toNat c2):Int)),D.str (ByteArray.extract s a.toNat (Int.toNat (IntKind.wrap .i64 (a+(↑(markL (ByteArray.toList (ByteArray.extract s a.toNat (Int.toNat (↑(ByteArray.size s):Int))))):Int))))),D.int .i64 a]),.d false 0 (.int .i64 (↑(markL (ByteArray.toList (ByteArray.extract s a.toNat (Int.toNat (↑(ByteArray.size s):Int))))):Int)),.d false 0 D.nili] []else none else none else none else k [.d false 4 (.ag [D.int .i64 0,D.str (ByteArray.mk #[]),D.int .i64 0]),.d false 0 (.int .i64 0),.d false 0 (.ifc 114 (.pt 3 (.ag [D.int .i64 a,D.ifc 84 (.int .i64 20)])))] []else none
   |none=>none else none:=by kernel_rfl
end F24
namespace F10
noncomputable def X:Fx:=⟨Tryz.prog,E16,12,1⟩
def s0 (s:ByteArray) (x25:List D) (x26:Int):S:=⟨Tm.mk 47 [(0,.d true 0 (.str s)),(4,.own false 4 x25),(5,.d false 0 (.int .i64 x26))],[]⟩
def e0r (x53:Int) (x54:Int):S:=⟨Tm.mk 47 [(2,.own false 4 []),(3,.d false 0 (.ifc 114 (.pt 3 (.ag [D.int .i64 x53,D.ifc 84 (.int .i64 x54)]))))],[]⟩
def e0x0 (s:ByteArray) (x55:List D):S:=⟨Tm.mk 47 [(0,.d true 0 (.str s)),(4,.own false 4 x55)],[]⟩
noncomputable abbrev L0:S→Option (S ⊕ (Ex×S)):=roundK X [(0,17)] (sub [1,1,1,1,0,0,0] (body Tryz.f92))
theorem start {β:Type} (s:ByteArray) (k:List TV→List TV→Option β):evalF Tryz.prog E16 Tryz.f92 [.d true 0 (.str s)] k=if decide ((↑(ByteArray.size s):Int)>65536)=true then k [.own false 4 [],.d false 0 (.ifc 84 (.int .i64 2))] []else if inS s (0:Int)then goLp X [(0,17)] (sub [1,1,1,1,0,0,0] (body Tryz.f92)) [Kf.block 0 17,Kf.seq [] (sub [1,1,1,1,1] (body Tryz.f92)) 12] (finK Tryz.prog Tryz.f92 [.d true 0 (.str s)] k) (s0 s [] (↑(blankL (List.drop 0 s.toList)):Int))else none:=by kernel_rfl
theorem round0 (s:ByteArray) (x25:List D) (x26:Int):roundK X [(0,17)] (sub [1,1,1,1,0,0,0] (body Tryz.f92)) (s0 s x25 x26)=if decide (x26<(↑(ByteArray.size s):Int))=true then if inS s x26∧x26<(↑(ByteArray.size s):Int)then match oneL (List.drop x26.toNat s.toList)with
   |Sum.inl n66=>some (Sum.inr (Ex.ret,e0r x26 n66))
   |Sum.inr (c70,t71,n72)=>if x25.length+1≤34359738368 then if inS s (IntKind.wrap .i64 (x26+(↑n72:Int)))then some (Sum.inl (s0 s (x25++[D.ag [D.int .i64 c70,D.str (B t71),D.int .i64 x26]]) (IntKind.wrap .i64 (IntKind.wrap .i64 (x26+(↑n72:Int))+(↑(blankL (List.drop (Int.toNat (IntKind.wrap .i64 (x26+(↑n72:Int)))) s.toList)):Int)))))else none else none else none else some (Sum.inr (Ex.exit 0,e0x0 s x25)):=by kernel_rfl
theorem behind0r {β:Type} (s:ByteArray) (x53:Int) (x54:Int) (k:List TV→List TV→Option β):applyK X (finK Tryz.prog Tryz.f92 [.d true 0 (.str s)] k) [Kf.block 0 17,Kf.seq [] (sub [1,1,1,1,1] (body Tryz.f92)) 12] Ex.ret (e0r x53 x54)=k [.own false 4 [],.d false 0 (.ifc 114 (.pt 3 (.ag [D.int .i64 x53,D.ifc 84 (.int .i64 x54)])))] []:=by kernel_rfl
theorem behind0x0 {β:Type} (s:ByteArray) (x55:List D) (k:List TV→List TV→Option β):applyK X (finK Tryz.prog Tryz.f92 [.d true 0 (.str s)] k) [Kf.block 0 17,Kf.seq [] (sub [1,1,1,1,1] (body Tryz.f92)) 12] (Ex.exit 0) (e0x0 s x55)=if x55.length+1≤34359738368 then k [.own false 4 (x55++[D.ag [D.int .i64 0,D.str (ByteArray.mk #[]),D.int .i64 (↑(ByteArray.size s):Int)]]),.d false 0 D.nili] []else none:=by kernel_rfl
end F10
end Go.Sd

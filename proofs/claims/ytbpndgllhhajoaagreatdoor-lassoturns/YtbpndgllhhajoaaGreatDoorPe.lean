/- The normal form of formulas, purely (the package nnf). -/
import Derived.Test.YtbpndgllhhajoaaGreatDoorPd
set_option linter.unusedVariables false
set_option linter.unusedSimpArgs false
namespace Go.Sc
open Go Go.Cm
def oTrue:T8:=[116,114,117,101]
def oFalse:T8:=[102,97,108,115,101]
def oLabel:T8:=[108,97,98,101,108]
end Go.Sc
namespace Go.Sc
open Go Go.Cm
def nd (op:ByteArray) (ks:List Fm):Fm:=.mk op ⟨#[]⟩ ks 0
def labF (nm:ByteArray):Fm:=.mk ⟨#[108,97,98,101,108]⟩ nm [] 0
def mok (lo:Int) (b:Option Nat) (f:Fm) (l:Int):Prop:=bd b f∧f.dep≤1073741824∧lo≤l∧l≤17179869184
instance (lo:Int) (b:Option Nat) (f:Fm) (l:Int):Decidable (mok lo b f l):=by unfold mok;infer_instance
end Go.Sc
namespace Go.Sc
open Go Go.Cm
end Go.Sc
namespace Go.Sc
open Go Go.Cm
def bTrue:ByteArray:=⟨#[116,114,117,101]⟩
def bFalse:ByteArray:=⟨#[102,97,108,115,101]⟩
end Go.Sc
namespace Go.Sc
open Go Go.Cm
end Go.Sc
namespace Go.Sc
open Go Go.Cm
inductive U1 where
 |no|X|F|G
 deriving DecidableEq
inductive B2 where
 |and|or|imp|U|W|R
 deriving DecidableEq
inductive Pr where
 |tt|ff
 |lab (s:ByteArray)
 |un (o:U1) (a:Pr)
 |bi (o:B2) (a b:Pr)
 deriving DecidableEq
def U1.b:U1→ByteArray
 |.no=>⟨#[33]⟩|.X=>⟨#[88]⟩|.F=>⟨#[70]⟩|.G=>⟨#[71]⟩
def B2.b:B2→ByteArray
 |.and=>⟨#[38]⟩|.or=>⟨#[124]⟩|.imp=>⟨#[61,62]⟩|.U=>⟨#[85]⟩|.W=>⟨#[87]⟩|.R=>⟨#[82]⟩
def U1.s:U1→T8
 |.no=>[33]|.X=>[88]|.F=>[70]|.G=>[71]
def B2.s:B2→T8
 |.and=>[38]|.or=>[124]|.imp=>[61,62]|.U=>[85]|.W=>[87]|.R=>[82]
def u1? (l:T8):Option U1:=if l==[33]then some .no else if l==[88]then some .X else if l==[70]then some .F else if l==[71]then some .G else none
def b2? (l:T8):Option B2:=if l==[38]then some .and else if l==[124]then some .or else if l==[61,62]then some .imp else if l==[85]then some .U else if l==[87]then some .W else if l==[82]then some .R else none
def u1A (l:T8) (x:Option Pr):Option Pr:=match u1? l,x with|some o,some x=>some (.un o x)|_,_=>none
def b2A (l:T8) (x y:Option Pr):Option Pr:=match b2? l,x,y with|some o,some x,some y=>some (.bi o x y)|_,_,_=>none
def Fm.abs:Fm→Option Pr
 |.mk op nm ks _=>match ks with
  |[]=>if op.toList==oTrue then some .tt else if op.toList==oFalse then some .ff else if op.toList==oLabel then some (.lab nm)else none
  |[a]=>u1A op.toList a.abs
  |[a,b]=>b2A op.toList a.abs b.abs
  |_=>none
def Pr.fm:Pr→Fm
 |.tt=>nd bTrue []
 |.ff=>nd bFalse []
 |.lab s=>labF s
 |.un o a=>nd o.b [a.fm]
 |.bi o a b=>nd o.b [a.fm,b.fm]
theorem B_lit (l:T8):ByteArray.toList ⟨l.toArray⟩=l:=by rw[ByteArray.toList_eq]
theorem U1.b_s (o:U1):o.b.toList=o.s:=by cases o<;>exact B_lit _
theorem B2.b_s (o:B2):o.b.toList=o.s:=by cases o<;>exact B_lit _
theorem u1_s {l:T8} {o:U1} (h:u1? l=some o):l=o.s:=by
 unfold u1? at h
 repeat' split at h
 all_goals first|(cases h;done)|(rename_i e;cases h;exact eq_of_beq e)
theorem b2_s {l:T8} {o:B2} (h:b2? l=some o):l=o.s:=by
 unfold b2? at h
 repeat' split at h
 all_goals first|(cases h;done)|(rename_i e;cases h;exact eq_of_beq e)
theorem u1_of (o:U1):u1? o.s=some o:=by cases o<;>rfl
theorem b2_of (o:B2):b2? o.s=some o:=by cases o<;>rfl
theorem u1A_some {l:T8} {x:Option Pr} {t:Pr} (h:u1A l x=some t):∃o a,l=U1.s o∧x=some a∧t=.un o a:=by
 unfold u1A at h
 cases e:u1? l with
 |none=>simp[e]at h
 |some o=>
  cases x with
  |none=>simp[e]at h
  |some a=>simp only[e,Option.some.injEq]at h;exact⟨o,a,u1_s e,rfl,h.symm⟩
theorem b2A_some {l:T8} {x y:Option Pr} {t:Pr} (h:b2A l x y=some t):∃o a b,l=B2.s o∧x=some a∧y=some b∧t=.bi o a b:=by
 unfold b2A at h
 cases e:b2? l with
 |none=>simp[e]at h
 |some o=>
  cases x with
  |none=>simp[e]at h
  |some a=>
   cases y with
   |none=>simp[e]at h
   |some b=>simp only[e,Option.some.injEq]at h;exact⟨o,a,b,b2_s e,rfl,rfl,h.symm⟩
theorem abs_inv {f:Fm} {t:Pr} (h:f.abs=some t):
  (∃op nm p,f=.mk op nm [] p∧((op.toList=oTrue∧t=.tt)∨(op.toList=oFalse∧t=.ff)∨(op.toList=oLabel∧t=.lab nm)))∨
  (∃op nm a p o x,f=.mk op nm [a] p∧op.toList=U1.s o∧a.abs=some x∧t=.un o x)∨
  (∃op nm a b p o x y,f=.mk op nm [a,b] p∧op.toList=B2.s o∧a.abs=some x∧b.abs=some y∧t=.bi o x y):=by
 cases f with
 |mk op nm ks p=>
  unfold Fm.abs at h
  split at h
  ·left
   refine⟨op,nm,p,rfl,?_⟩
   repeat' split at h
   ·rename_i e;cases h;exact .inl ⟨by simpa using e,rfl⟩
   ·rename_i e;cases h;exact .inr (.inl ⟨by simpa using e,rfl⟩)
   ·rename_i e;cases h;exact .inr (.inr ⟨by simpa using e,rfl⟩)
   ·cases h
  ·rename_i a
   obtain⟨o,x,h1,h2,h3⟩:=u1A_some h
   exact .inr (.inl ⟨op,nm,a,p,o,x,rfl,h1,h2,h3⟩)
  ·rename_i a b
   obtain⟨o,x,y,h1,h2,h3,h4⟩:=b2A_some h
   exact .inr (.inr ⟨op,nm,a,b,p,o,x,y,rfl,h1,h2,h3,h4⟩)
  ·cases h
end Go.Sc
namespace Go.Sc
open Go Go.Cm
def Pr.sz:Pr→Nat
 |.un _ a=>a.sz+1
 |.bi _ a b=>a.sz+b.sz+1
 |_=>1
end Go.Sc
namespace Go.Sc
open Go Go.Cm
theorem size_abs:∀(t:Pr) (f:Fm),f.abs=some t→sizeF f=min (t.sz:Int) 4097
 |t,f,h=>by
  rcases abs_inv h with⟨op,nm,p,rfl,h1⟩|⟨op,nm,a,p,o,x,rfl,h1,h2,rfl⟩|⟨op,nm,a,b,p,o,x,y,rfl,h1,h2,h3,rfl⟩
  ·rcases h1 with⟨h1,rfl⟩|⟨h1,rfl⟩|⟨h1,rfl⟩<;>rfl
  ·have ih:=size_abs x a h2
   simp only[sizeF,sizeL,ih,Pr.sz]
   rw[if_pos (by omega)]
   omega
  ·have iha:=size_abs x a h2
   have ihb:=size_abs y b h3
   simp only[sizeF,sizeL,iha,ihb,Pr.sz]
   rw[if_pos (show(1:Int)≤4096 by omega)]
   split<;>omega
  termination_by t=>SizeOf.sizeOf t
end Go.Sc
namespace Go.Sc
open Go Go.Cm
def Rd (a b:Int) (op nm:ByteArray) (ks:List D) (p:Int):Prop:=
 ∃f t,ofD (fmD op nm ks p)=some f∧Fm.abs f=some t∧sameF f t.fm=true∧(t.sz:Int)≤b - a
def Good (a:Int):PR→Prop
 |.ok op nm ks p b=>Rd a b op nm ks p
 |_=>True
theorem good_deep (xs:List D) (a c:Int):Good c (deepP xs a):=by unfold deepP;split<;>trivial
theorem ofD_mk {op nm:ByteArray} {ks:List D} {p:Int} {f:Fm} (h:ofD (fmD op nm ks p)=some f):∃fs,ofDL ks=some fs∧f=.mk op nm fs p:=by
 simp only[fmD,ofD]at h
 split at h
 ·rename_i fs e;cases h;exact⟨fs,e,rfl⟩
 ·cases h
theorem rd_pos {a b:Int} {op nm:ByteArray} {ks:List D} {p:Int} (q:Int) (h:Rd a b op nm ks p):Rd a b op nm ks q:=by
 obtain⟨f,t,h1,h2,h3,h4⟩:=h
 obtain⟨fs,e,rfl⟩:=ofD_mk h1
 refine⟨.mk op nm fs q,t,by simp only[fmD,ofD,e],?_,?_,h4⟩
 ·rw[←h2];unfold Fm.abs;rfl
 ·cases ht:t.fm with
  |mk o n k r=>rw[ht]at h3;simpa only[sameF]using h3
theorem rd_two {a b c:Int} {op o1 n1 o2 n2:ByteArray} {k1 k2:List D} {p1 p2:Int} {o:B2} (ho:op.toList=o.s) (h:Rd a b o1 n1 k1 p1) (k:Rd (b+1) c o2 n2 k2 p2) (p:Int):
  Rd a c op ⟨#[]⟩ [fmD o1 n1 k1 p1,fmD o2 n2 k2 p2] p:=by
 obtain⟨f,t,h1,h2,h3,h4⟩:=h
 obtain⟨g,u,k1,k2,k3,k4⟩:=k
 refine⟨.mk op ⟨#[]⟩ [f,g] p,.bi o t u,?_,?_,?_,?_⟩
 ·simp only[fmD]at h1 k1 ⊢
  simp only[ofD,ofDL]at h1 k1 ⊢
  simp only[h1,k1]
 ·simp only[Fm.abs,b2A,ho,b2_of,h2,k2]
 ·simp only[Pr.fm,nd,sameF,sameL,h3,k3,ho,B2.b_s,beq_self_eq_true,Bool.and_true]
 ·simp only[Pr.sz];omega
theorem rd_one {a c:Int} {op o2 n2:ByteArray} {k2:List D} {p2:Int} {o:U1} (ho:op.toList=o.s) (k:Rd (a+1) c o2 n2 k2 p2) (p:Int):Rd a c op ⟨#[]⟩ [fmD o2 n2 k2 p2] p:=by
 obtain⟨g,u,k1,k2,k3,k4⟩:=k
 refine⟨.mk op ⟨#[]⟩ [g] p,.un o u,?_,?_,?_,?_⟩
 ·simp only[fmD]at k1 ⊢
  simp only[ofD,ofDL]at k1 ⊢
  simp only[k1]
 ·simp only[Fm.abs,u1A,ho,u1_of,k2]
 ·simp only[Pr.fm,nd,sameF,sameL,k3,ho,U1.b_s,beq_self_eq_true,Bool.and_true]
 ·simp only[Pr.sz];omega
theorem isT_s {c:Int} {t s:ByteArray} (h:isT c t s=true):t.toList=s.toList:=by
 unfold isT at h
 simp only[Bool.and_eq_true,beq_iff_eq]at h
 exact h.2
theorem good_chainL (xs:List D) (op:ByteArray) (o:B2) (ho:op.toList=o.s) (one:Int→PR) (h1:∀a,Good a (one a)):∀(n:Nat) (q nm:ByteArray) (ks:List D) (p a b:Int),Rd b a q nm ks p→Good b (chainL xs op one n q nm ks p a)
 |0,_,_,_,_,_,_,_=>trivial
 |n+1,q,nm,ks,p,a,b,hb=>by
  unfold chainL
  split
  ·trivial
  ·split
   ·have:=h1 (a+1)
    split
    ·rename_i e;rw[e]at this
     exact good_chainL xs op o ho one h1 n _ _ _ _ _ _ (rd_two ho hb this _)
    all_goals trivial
   ·exact hb
theorem good_chainP (xs:List D) (op:ByteArray) (o:B2) (ho:op.toList=o.s) (one:Int→PR) (h1:∀a,Good a (one a)) (a:Int):Good a (chainP xs op one a):=by
 have:=h1 a
 unfold chainP
 split
 ·rename_i e;rw[e]at this
  exact good_chainL xs op o ho one h1 _ _ _ _ _ _ _ this
 all_goals trivial
theorem good_rightP (xs:List D) (one:Int→PR) (h1:∀a,Good a (one a)) (o nm:ByteArray) (ks:List D) (p:Int):∀(ops:List ByteArray) (a b:Int),(∀op∈ops,∃o:B2,op.toList=o.s)→Rd b a o nm ks p→Good b (rightP xs one o nm ks p ops a)
 |[],a,b,_,h=>h
 |op::ops,a,b,ho,h=>by
  unfold rightP
  split
  ·trivial
  ·split
   ·have:=h1 (a+1)
    obtain⟨q,hq⟩:=ho op (.head _)
    split
    ·rename_i e;rw[e]at this
     exact rd_two hq h this _
    all_goals trivial
   ·exact good_rightP xs one h1 o nm ks p ops a b (fun x hx=>ho x (.tail _ hx)) h
theorem good_singleP (xs:List D) (P:PF) (h1:∀a,Good a (P.single a)) (h2:∀a,Good a (P.imply a)) (a:Int):Good a (singleP xs P a):=by
 have l0:(⟨#[108,97,98,101,108]⟩:ByteArray).toList=oLabel:=B_lit oLabel
 unfold singleP
 split
 ·trivial
 ·rename_i c t p hk
  split
  ·refine⟨.mk ⟨#[108,97,98,101,108]⟩ t [] p,.lab t,rfl,?_,?_,by simp only[Pr.sz];omega⟩
   ·simp only[Fm.abs,l0];rfl
   ·simp only[Pr.fm,labF,sameF,sameL,beq_self_eq_true,Bool.and_true]
  ·split
   ·rename_i h
    rcases h with h|h
    ·have e:=isT_s h
     rw[B_lit [116,114,117,101]]at e
     refine⟨.mk t ⟨#[]⟩ [] p,.tt,rfl,?_,?_,by simp only[Pr.sz];omega⟩
     ·simp only[Fm.abs,e];rfl
     ·simp only[Pr.fm,nd,bTrue,sameF,sameL,e,B_lit [116,114,117,101],beq_self_eq_true,Bool.and_true]
    ·have e:=isT_s h
     rw[B_lit [102,97,108,115,101]]at e
     refine⟨.mk t ⟨#[]⟩ [] p,.ff,rfl,?_,?_,by simp only[Pr.sz];omega⟩
     ·simp only[Fm.abs,e];rfl
     ·simp only[Pr.fm,nd,bFalse,sameF,sameL,e,B_lit [102,97,108,115,101],beq_self_eq_true,Bool.and_true]
   ·split
    ·rename_i h
     have ho:∃o:U1,t.toList=o.s:=by
      rcases h with h|h|h|h
      ·exact⟨.no,(isT_s h).trans (B_lit _)⟩
      ·exact⟨.X,(isT_s h).trans (B_lit _)⟩
      ·exact⟨.F,(isT_s h).trans (B_lit _)⟩
      ·exact⟨.G,(isT_s h).trans (B_lit _)⟩
     obtain⟨o,ho⟩:=ho
     have:=h1 (a+1)
     split
     ·rename_i e;rw[e]at this
      exact rd_one ho this _
     all_goals trivial
    ·split
     ·have:=h2 (a+1)
      split
      ·rename_i e;rw[e]at this
       split
       ·trivial
       ·split
        ·obtain⟨f,t,r1,r2,r3,r4⟩:=rd_pos p this
         exact⟨f,t,r1,r2,r3,by omega⟩
        ·trivial
      all_goals trivial
     ·trivial
theorem good_untlP (xs:List D) (s u:Int→PR) (h1:∀a,Good a (s a)) (h2:∀a,Good a (u a)) (a:Int):Good a (untlP xs s u a):=by
 have:=h1 a
 unfold untlP
 split
 ·rename_i e;rw[e]at this
  refine good_rightP xs u h2 _ _ _ _ _ _ _ (fun op ho=>?_) this
  simp only[List.mem_cons,List.not_mem_nil,or_false]at ho
  rcases ho with rfl|rfl|rfl
  ·exact⟨.U,B_lit _⟩
  ·exact⟨.W,B_lit _⟩
  ·exact⟨.R,B_lit _⟩
 all_goals trivial
theorem good_implyP (xs:List D) (u i:Int→PR) (h1:∀a,Good a (u a)) (h2:∀a,Good a (i a)) (a:Int):Good a (implyP xs u i a):=by
 have:=good_chainP xs ⟨#[124]⟩ .or (B_lit _) (kP xs u) (fun a=>good_chainP xs ⟨#[38]⟩ .and (B_lit _) u h1 a) a
 unfold implyP
 split
 ·rename_i e;rw[e]at this
  refine good_rightP xs i h2 _ _ _ _ _ _ _ (fun op ho=>?_) this
  simp only[List.mem_cons,List.not_mem_nil,or_false]at ho
  subst ho
  exact⟨.imp,B_lit _⟩
 all_goals trivial
theorem good_pf (xs:List D):∀n:Nat,(∀a,Good a ((pf xs n).single a))∧(∀a,Good a ((pf xs n).untl a))∧∀a,Good a ((pf xs n).imply a)
 |0=>⟨fun a=>good_deep xs a a,fun a=>good_deep xs a a,fun a=>good_deep xs a a⟩
 |n+1=>by
  obtain⟨h1,h2,h3⟩:=good_pf xs n
  have s:=good_singleP xs (pf xs n) h1 h3
  have u:=good_untlP xs _ _ s h2
  exact⟨s,u,good_implyP xs _ _ u h3⟩
theorem good_imply (xs:List D) (n:Nat) (a:Int):Good a (pImply xs n a):=(good_pf xs n).2.2 a
theorem toksL_len:∀(n:Nat) (l:T8) (p:Nat) (r:List Tok),toksL n l p=.inr r→r.length≤n
 |0,l,p,r,h=>by simp[toksL]at h
 |n+1,l,p,r,h=>by
  unfold toksL at h
  simp only at h
  split at h
  ·cases h;simp
  ·split at h
   ·cases h
   ·split at h
    ·cases h
    ·rename_i r' e
     cases h
     have:=toksL_len n _ _ _ e
     simp only[List.length_cons];omega
theorem parse_ok {s:ByteArray} {d:Int} {op nm:ByteArray} {ks:List D} {p:Int} (h:parseP s d=.ok op nm ks p):
  ∃f t,ofD (fmD op nm ks p)=some f∧Fm.abs f=some t∧sameF f t.fm=true∧t.sz≤s.size+1:=by
 unfold parseP at h
 split at h
 ·cases h
 ·split at h
  ·cases h
  ·rename_i hb
   split at h
   ·cases h
   ·rename_i l hl
    have hg:=good_imply (l.map tokT) d.toNat 0
    have ha:=adv_imply (l.map tokT) d.toNat 0
    unfold endP at h
    cases hp:pImply (l.map tokT) d.toNat 0 with
    |ok o n k q a=>
     rw[hp]at h hg ha
     simp only[Adv]at ha
     simp only at h
     split at h
     ·rename_i c t q2 hk
      split at h
      ·cases h
       obtain⟨f,t,r1,r2,r3,r4⟩:=hg
       have:=tk_lt hk (by omega)
       have hn:l.length≤s.size+1:=by
        rw[Nat.ble_eq]at hb
        have e:s.toList.length=s.size:=by rw[ByteArray.toList_eq];exact Array.length_toList
        have:=toksL_len _ _ _ _ hl
        omega
       rw[List.length_map]at this
       exact⟨f,t,r1,r2,r3,by omega⟩
      ·cases h
     ·cases h
    |syn=>rw[hp]at h;cases h
    |deep=>rw[hp]at h;cases h
    |no=>rw[hp]at h;cases h
mutual
theorem sm_abs:∀(f:Fm) (t:Pr),f.abs=some t→f.sm=true
 |.mk op nm ks p,t,h=>by
  match ks,h with
  |[],h=>rfl
  |[a],h=>
   simp only[Fm.abs]at h
   obtain⟨_,x,_,h2,_⟩:=u1A_some h
   simp only[Fm.sm,Fm.smL,sm_abs a x h2];rfl
  |[a,b],h=>
   simp only[Fm.abs]at h
   obtain⟨_,x,y,_,h2,h3,_⟩:=b2A_some h
   simp only[Fm.sm,Fm.smL,sm_abs a x h2,sm_abs b y h3];rfl
  |_::_::_::_,h=>simp[Fm.abs]at h
end
end Go.Sc
namespace Go.Sc
open Go Go.Cm
theorem toksL_last:∀(n:Nat) (l:T8) (p:Nat) (r:List Tok),toksL n l p=.inr r→∃us q,r=us++[(0,[],q)]
 |0,l,p,r,h=>by simp[toksL]at h
 |n+1,l,p,r,h=>by
  unfold toksL at h
  simp only at h
  split at h
  ·cases h;exact⟨[],p,rfl⟩
  ·split at h
   ·cases h
   ·split at h
    ·cases h
    ·rename_i r' e
     cases h
     obtain⟨us,q,rfl⟩:=toksL_last n _ _ _ e
     exact⟨_::us,q,rfl⟩
structure Ends (xs:List D):Prop where
 tk:∀a:Int,0≤a→a<xs.length→∃c t p,Go.Sc.tk xs a=some (c,t,p)
 last:∀(a c:Int) (t:ByteArray) (p:Int),0≤a→Go.Sc.tk xs a=some (c,t,p)→c≠0→a+1<xs.length
theorem ends_tok {l:T8} {ts:List Tok} (h:tokS l=.inr ts):Ends (ts.map tokT)∧0<ts.length:=by
 obtain⟨us,q,rfl⟩:=toksL_last _ _ _ _ h
 have hg:∀a:Int,0≤a→a<((us++[((0:Int),([]:T8),q)]).map tokT).length→∃h:a.toNat<(us++[((0:Int),([]:T8),q)]).length,
   tk ((us++[((0:Int),([]:T8),q)]).map tokT) a=some (((us++[((0:Int),([]:T8),q)])[a.toNat]).1,B ((us++[((0:Int),([]:T8),q)])[a.toNat]).2.1,(((us++[((0:Int),([]:T8),q)])[a.toNat]).2.2:Int)):=fun a h0 h1=>by
  rw[List.length_map]at h1
  have hlt:a.toNat<(us++[((0:Int),([]:T8),q)]).length:=by omega
  refine⟨hlt,?_⟩
  unfold tk
  rw[List.getElem?_map,List.getElem?_eq_getElem hlt]
  rfl
 refine⟨⟨fun a h0 h1=>?_,fun a c t p h0 hk hc=>?_⟩,by simp⟩
 ·obtain⟨_,e⟩:=hg a h0 h1
  exact⟨_,_,_,e⟩
 ·have h1:=tk_lt hk h0
  obtain⟨hlt,e⟩:=hg a h0 h1
  rw[hk]at e
  simp only[Option.some.injEq,Prod.mk.injEq]at e
  rw[List.length_map]at h1 ⊢
  rcases Int.lt_or_le (a+1) ((us++[((0:Int),([]:T8),q)]).length:Nat)with h|h
  ·exact h
  ·exfalso
   apply hc
   rw[e.1,List.getElem_append_right (by simp at h ⊢;omega)]
   simp
def In (xs:List D) (a:Int):Prop:=0≤a∧a<xs.length
def NB (xs:List D):PR→Prop
 |.ok _ _ _ _ b=>In xs b
 |.no=>False
 |_=>True
theorem isT_nz {c:Int} {t s:ByteArray} (h:isT c t s=true):c≠0:=by
 unfold isT at h
 simp only[Bool.and_eq_true,Bool.or_eq_true,beq_iff_eq]at h
 omega
variable {xs:List D}
theorem nb_deep (hx:Ends xs) {a:Int} (ha:In xs a):NB xs (deepP xs a):=by
 obtain⟨c,t,p,e⟩:=hx.tk a ha.1 ha.2
 simp only[deepP,e,NB]
theorem nb_chainL (hx:Ends xs) (op:ByteArray) (one:Int→PR) (h1:∀a,In xs a→NB xs (one a)) (h2:∀a,Adv a (one a)):∀(n:Nat) (q nm:ByteArray) (ks:List D) (p a:Int),In xs a→(xs.length:Int) - a<n→NB xs (chainL xs op one n q nm ks p a)
 |0,_,_,_,_,a,ha,hn=>by have:=ha.2;omega
 |n+1,q,nm,ks,p,a,ha,hn=>by
  obtain⟨c,t,p2,e⟩:=hx.tk a ha.1 ha.2
  unfold chainL
  simp only[e]
  split
  ·rename_i ht
   have hin:In xs (a+1):=⟨by have:=ha.1;omega,hx.last a c t p2 ha.1 e (isT_nz ht)⟩
   have g1:=h1 (a+1) hin
   have g2:=h2 (a+1)
   split
   ·rename_i e;rw[e]at g1 g2
    simp only[Adv]at g2
    exact nb_chainL hx op one h1 h2 n _ _ _ _ _ g1 (by omega)
   ·trivial
   ·trivial
   ·rename_i e;rw[e]at g1;exact g1.elim
  ·exact ha
theorem nb_chainP (hx:Ends xs) (op:ByteArray) (one:Int→PR) (h1:∀a,In xs a→NB xs (one a)) (h2:∀a,Adv a (one a)) (a:Int) (ha:In xs a):NB xs (chainP xs op one a):=by
 have g1:=h1 a ha
 unfold chainP
 split
 ·rename_i e;rw[e]at g1
  exact nb_chainL hx op one h1 h2 _ _ _ _ _ _ g1 (by have:=g1.1;omega)
 ·trivial
 ·trivial
 ·rename_i e;rw[e]at g1;exact g1.elim
theorem nb_rightP (hx:Ends xs) (one:Int→PR) (h1:∀a,In xs a→NB xs (one a)) (o nm:ByteArray) (ks:List D) (p:Int):∀(ops:List ByteArray) (a:Int),In xs a→NB xs (rightP xs one o nm ks p ops a)
 |[],a,h=>h
 |op::ops,a,ha=>by
  obtain⟨c,t,p2,e⟩:=hx.tk a ha.1 ha.2
  unfold rightP
  simp only[e]
  split
  ·rename_i ht
   have hin:In xs (a+1):=⟨by have:=ha.1;omega,hx.last a c t p2 ha.1 e (isT_nz ht)⟩
   have g1:=h1 (a+1) hin
   split
   ·rename_i e;rw[e]at g1;exact g1
   ·trivial
   ·trivial
   ·rename_i e;rw[e]at g1;exact g1.elim
  ·exact nb_rightP hx one h1 o nm ks p ops a ha
theorem nb_singleP (hx:Ends xs) (P:PF) (h1:∀a,In xs a→NB xs (P.single a)) (h2:∀a,In xs a→NB xs (P.imply a)) (a:Int) (ha:In xs a):NB xs (singleP xs P a):=by
 obtain⟨c,t,p,e⟩:=hx.tk a ha.1 ha.2
 have nx:c≠0→In xs (a+1):=fun h=>⟨by have:=ha.1;omega,hx.last a c t p ha.1 e h⟩
 unfold singleP
 simp only[e]
 split
 ·rename_i h;exact nx (by omega)
 ·split
  ·rename_i h
   exact nx (by rcases h with h|h<;>exact isT_nz h)
  ·split
   ·rename_i h
    have g:=h1 (a+1) (nx (by rcases h with h|h|h|h<;>exact isT_nz h))
    split
    ·rename_i e;rw[e]at g;exact g
    ·trivial
    ·trivial
    ·rename_i e;rw[e]at g;exact g.elim
   ·split
    ·rename_i h
     have g:=h2 (a+1) (nx (isT_nz h))
     split
     ·rename_i b e2;rw[e2]at g
      obtain⟨c2,t2,q2,e3⟩:=hx.tk _ g.1 g.2
      simp only[e3]
      split
      ·rename_i h3
       exact⟨by have:=g.1;omega,hx.last _ _ _ _ g.1 e3 (isT_nz h3)⟩
      ·trivial
     ·trivial
     ·trivial
     ·rename_i e;rw[e]at g;exact g.elim
    ·trivial
theorem nb_untlP (hx:Ends xs) (s u:Int→PR) (h1:∀a,In xs a→NB xs (s a)) (h2:∀a,In xs a→NB xs (u a)) (a:Int) (ha:In xs a):NB xs (untlP xs s u a):=by
 have g:=h1 a ha
 unfold untlP
 split
 ·rename_i e;rw[e]at g;exact nb_rightP hx u h2 _ _ _ _ _ _ g
 ·trivial
 ·trivial
 ·rename_i e;rw[e]at g;exact g.elim
theorem nb_implyP (hx:Ends xs) (u i:Int→PR) (h1:∀a,In xs a→NB xs (u a)) (h1':∀a,Adv a (u a)) (h2:∀a,In xs a→NB xs (i a)) (a:Int) (ha:In xs a):NB xs (implyP xs u i a):=by
 have g:=nb_chainP hx ⟨#[124]⟩ (kP xs u) (fun a ha=>nb_chainP hx ⟨#[38]⟩ u h1 h1' a ha) (fun a=>adv_chainP xs ⟨#[38]⟩ u h1' a) a ha
 unfold implyP
 split
 ·rename_i e;rw[e]at g;exact nb_rightP hx i h2 _ _ _ _ _ _ g
 ·trivial
 ·trivial
 ·rename_i e;rw[e]at g;exact g.elim
theorem nb_pf (hx:Ends xs):∀n:Nat,(∀a,In xs a→NB xs ((pf xs n).single a))∧(∀a,In xs a→NB xs ((pf xs n).untl a))∧∀a,In xs a→NB xs ((pf xs n).imply a)
 |0=>⟨fun a=>nb_deep hx,fun a=>nb_deep hx,fun a=>nb_deep hx⟩
 |n+1=>by
  obtain⟨h1,h2,h3⟩:=nb_pf hx n
  obtain⟨a1,a2,a3⟩:=adv_pf xs (n+1)
  have s:=nb_singleP hx (pf xs n) h1 h3
  have u:=nb_untlP hx _ _ s h2
  exact⟨s,u,nb_implyP hx _ _ u a2 h3⟩
theorem parse_bad (s:ByteArray) (d:Int):parseP s d≠.bad:=by
 unfold parseP
 split
 ·exact fun h=>by cases h
 ·split
  ·exact fun h=>by cases h
  ·split
   ·exact fun h=>by cases h
   ·rename_i l hl
    obtain⟨hx,h0⟩:=ends_tok hl
    have g:=(nb_pf hx d.toNat).2.2 0 ⟨by omega,by rw[List.length_map];omega⟩
    change NB _ (pImply (l.map tokT) d.toNat 0)at g
    unfold endP
    split
    ·rename_i e;rw[e]at g
     obtain⟨c,t,q,e2⟩:=hx.tk _ g.1 g.2
     rw[e2]
     simp only
     split<;>exact fun h=>by cases h
    ·exact fun h=>by cases h
    ·exact fun h=>by cases h
    ·rename_i e;rw[e]at g;exact g.elim
end Go.Sc
namespace Go.Sc
open Go Go.Cm
def finB (p q:Nat→Bool) (e:Bool):Nat→Nat→Bool
 |0,_=>e
 |r+1,i=>p i||(q i&&finB p q e r (i+1))
theorem finB_iff (p q:Nat→Bool) (e:Bool):∀(r i:Nat),finB p q e r i=true↔(∃d,d<r∧p (i+d)=true∧∀j,j<d→q (i+j)=true)∨((∀j,j<r→q (i+j)=true)∧e=true)
 |0,i=>by
  simp only[finB]
  constructor
  ·exact fun h=>.inr ⟨fun j hj=>absurd hj (Nat.not_lt_zero _),h⟩
  ·rintro(⟨d,h,_⟩|⟨_,h⟩)
   ·exact absurd h (Nat.not_lt_zero _)
   ·exact h
 |r+1,i=>by
  simp only[finB,Bool.or_eq_true,Bool.and_eq_true,finB_iff p q e r (i+1)]
  constructor
  ·rintro(h|⟨h,⟨d,h1,h2,h3⟩|⟨h1,h2⟩⟩)
   ·exact .inl ⟨0,by omega,h,fun j hj=>absurd hj (Nat.not_lt_zero _)⟩
   ·refine .inl ⟨d+1,by omega,by rw[show i+(d+1)=i+1+d by omega];exact h2,fun j hj=>?_⟩
    cases j with
    |zero=>exact h
    |succ j=>rw[show i+(j+1)=i+1+j by omega];exact h3 j (by omega)
   ·refine .inr ⟨fun j hj=>?_,h2⟩
    cases j with
    |zero=>exact h
    |succ j=>rw[show i+(j+1)=i+1+j by omega];exact h1 j (by omega)
  ·rintro(⟨d,h1,h2,h3⟩|⟨h1,h2⟩)
   ·cases d with
    |zero=>exact .inl h2
    |succ d=>
     refine .inr ⟨h3 0 (by omega),.inl ⟨d,by omega,by rw[show i+1+d=i+(d+1)by omega];exact h2,fun j hj=>?_⟩⟩
     rw[show i+1+j=i+(j+1)by omega];exact h3 (j+1) (by omega)
   ·refine .inr ⟨h1 0 (by omega),.inr ⟨fun j hj=>?_,h2⟩⟩
    rw[show i+1+j=i+(j+1)by omega];exact h1 (j+1) (by omega)
def nxN (n bk i:Nat):Nat:=if i+1<n then i+1 else bk
def posN (n bk:Nat):Nat→Nat
 |0=>0
 |k+1=>nxN n bk (posN n bk k)
section
variable {n bk:Nat} {p q:Nat→Bool}
theorem nxN_lt (h:bk<n) (i:Nat):nxN n bk i<n:=by unfold nxN;split<;>omega
theorem posN_lt (h:bk<n):∀k,posN n bk k<n
 |0=>by simp only[posN];omega
 |k+1=>nxN_lt h _
def edgeB (p q:Nat→Bool) (n bk:Nat) (t:Bool):Bool:=finB p q t (n - bk) bk
def walkB (p q:Nat→Bool) (n bk:Nat) (t:Bool) (i:Nat):Bool:=finB p q (edgeB p q n bk t) (n - i) i
theorem edge_edge (t:Bool):walkB p q n bk t bk=edgeB p q n bk t:=by
 rw[Bool.eq_iff_iff]
 unfold walkB
 rw[finB_iff]
 unfold edgeB
 rw[finB_iff]
 constructor
 ·rintro(h|⟨h,h'⟩)
  ·exact .inl h
  ·exact h'
 ·rintro(h|⟨h,h'⟩)
  ·exact .inl h
  ·exact .inr ⟨h,.inr ⟨h,h'⟩⟩
theorem walk_step (h:bk<n) (t:Bool) {i:Nat} (hi:i<n):walkB p q n bk t i=(p i||(q i&&walkB p q n bk t (nxN n bk i))):=by
 unfold nxN
 split
 ·unfold walkB
  rw[show n - i=(n - (i+1))+1 by omega]
  rfl
 ·rw[edge_edge]
  unfold walkB
  rw[show n - i=0+1 by omega]
  rfl
theorem posN_go (k:Nat):∀d,posN n bk k+d<n→posN n bk (k+d)=posN n bk k+d
 |0,h=>rfl
 |d+1,h=>by
  rw[show k+(d+1)=(k+d)+1 by omega,posN,posN_go k d (by omega),nxN,if_pos (by omega)];omega
theorem posN_edge (hb:bk<n) (k:Nat):posN n bk (k+(n - posN n bk k))=bk:=by
 have h:=posN_lt hb k
 rw[show k+(n - posN n bk k)=(k+(n - posN n bk k - 1))+1 by omega,posN,posN_go k _ (by omega),nxN,if_neg (by omega)]
def UntP (P Q:Nat→Prop) (k:Nat):Prop:=∃d,P (k+d)∧∀j,j<d→Q (k+j)
theorem walk_of_unt (hb:bk<n) (t:Bool):∀(d k:Nat),p (posN n bk (k+d))=true→(∀j,j<d→q (posN n bk (k+j))=true)→walkB p q n bk t (posN n bk k)=true
 |0,k,h1,h2=>by rw[walk_step hb t (posN_lt hb k)];simp only[Nat.add_zero]at h1;rw[h1];rfl
 |d+1,k,h1,h2=>by
  rw[walk_step hb t (posN_lt hb k),show q (posN n bk k)=true from h2 0 (by omega)]
  have:=walk_of_unt hb t d (k+1) (by rw[show k+1+d=k+(d+1)by omega];exact h1) (fun j hj=>by rw[show k+1+j=k+(j+1)by omega];exact h2 (j+1) (by omega))
  simp only[posN]at this
  rw[this];simp
theorem walk_false (hb:bk<n) (k:Nat):walkB p q n bk false (posN n bk k)=true↔UntP (fun i=>p (posN n bk i)=true) (fun i=>q (posN n bk i)=true) k:=by
 constructor
 ·intro h
  have hk:=posN_lt hb k
  unfold walkB at h
  rw[finB_iff]at h
  rcases h with⟨d,h1,h2,h3⟩|⟨h1,h2⟩
  ·exact⟨d,by show p (posN n bk (k+d))=true;rw[posN_go k d (by omega)];exact h2,fun j hj=>by show q (posN n bk (k+j))=true;rw[posN_go k j (by omega)];exact h3 j hj⟩
  ·unfold edgeB at h2
   rw[finB_iff]at h2
   rcases h2 with⟨d,h4,h5,h6⟩|⟨_,h4⟩
   ·have he:=posN_edge hb k
    have hg:∀j,j≤d→posN n bk (k+(n - posN n bk k)+j)=bk+j:=fun j hj=>by rw[posN_go _ j (by rw[he];omega),he]
    refine⟨(n - posN n bk k)+d,by show p (posN n bk (k+_))=true;rw[←Nat.add_assoc,hg d (Nat.le_refl _)];exact h5,fun j hj=>?_⟩
    show q (posN n bk (k+j))=true
    by_cases hlt:j<n - posN n bk k
    ·rw[posN_go k j (by omega)];exact h1 j hlt
    ·have:=hg (j - (n - posN n bk k)) (by omega)
     rw[show k+(n - posN n bk k)+(j - (n - posN n bk k))=k+j by omega]at this
     rw[this];exact h6 _ (by omega)
   ·cases h4
 ·rintro⟨d,h1,h2⟩
  exact walk_of_unt hb false d k h1 h2
theorem walk_true (hb:bk<n) (k:Nat):walkB p q n bk true (posN n bk k)=true↔UntP (fun i=>p (posN n bk i)=true) (fun i=>q (posN n bk i)=true) k∨∀j,q (posN n bk (k+j))=true:=by
 constructor
 ·intro h
  by_cases hu:UntP (fun i=>p (posN n bk i)=true) (fun i=>q (posN n bk i)=true) k
  ·exact .inl hu
  ·refine .inr fun j=>?_
   have key:∀j,(∀i,i<j→q (posN n bk (k+i))=true)∧walkB p q n bk true (posN n bk (k+j))=true:=by
    intro j
    induction j with
    |zero=>exact⟨fun i hi=>absurd hi (Nat.not_lt_zero _),h⟩
    |succ j ih=>
     obtain⟨h1,h2⟩:=ih
     rw[walk_step hb true (posN_lt hb _),Bool.or_eq_true,Bool.and_eq_true]at h2
     rcases h2 with h2|⟨h2,h3⟩
     ·exact(hu ⟨j,h2,h1⟩).elim
     ·refine⟨fun i hi=>?_,h3⟩
      rcases Nat.lt_or_ge i j with h|h
      ·exact h1 i h
      ·have:i=j:=by omega
       subst this;exact h2
   exact(key (j+1)).1 j (by omega)
 ·rintro(⟨d,h1,h2⟩|h)
  ·exact walk_of_unt hb true d k h1 h2
  ·have hk:=posN_lt hb k
   unfold walkB
   rw[finB_iff]
   refine .inr ⟨fun j hj=>by rw[←posN_go k j (by omega)];exact h j,?_⟩
   unfold edgeB
   rw[finB_iff]
   refine .inr ⟨fun j hj=>?_,rfl⟩
   have he:=posN_edge hb k
   have:=h ((n - posN n bk k)+j)
   rwa [←Nat.add_assoc,posN_go _ j (by rw[he];omega),he]at this
end
def Pr.sat (lb:ByteArray→Nat→Prop):Pr→Nat→Prop
 |.tt,_=>True
 |.ff,_=>False
 |.lab s,k=>lb s k
 |.un .no a,k=>¬a.sat lb k
 |.un .X a,k=>a.sat lb (k+1)
 |.un .F a,k=>∃d,a.sat lb (k+d)
 |.un .G a,k=>∀d,a.sat lb (k+d)
 |.bi .and a b,k=>a.sat lb k∧b.sat lb k
 |.bi .or a b,k=>a.sat lb k∨b.sat lb k
 |.bi .imp a b,k=>a.sat lb k→b.sat lb k
 |.bi .U a b,k=>UntP (b.sat lb) (a.sat lb) k
 |.bi .W a b,k=>UntP (b.sat lb) (a.sat lb) k∨∀d,a.sat lb (k+d)
 |.bi .R a b,k=>UntP (fun i=>b.sat lb i∧a.sat lb i) (b.sat lb) k∨∀d,b.sat lb (k+d)
def Pr.labs (ok:ByteArray→Prop):Pr→Prop
 |.tt=>True
 |.ff=>True
 |.lab s=>ok s
 |.un _ a=>a.labs ok
 |.bi _ a b=>a.labs ok∧b.labs ok
end Go.Sc

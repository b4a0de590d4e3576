/- Lasso: Truths, Holds. -/
import Derived.Test.YtbpndgllhhajoaaGreatDoorMaj
import Derived.Test.YtbpndgllhhajoaaGreatDoorMai
import Derived.Test.YtbpndgllhhajoaaGreatDoorMag
set_option linter.unusedVariables false
set_option linter.unusedSimpArgs false
set_option maxRecDepth 100000
namespace Go.Sd
open Go Go.Cm Go.Proofs Go.Sc
theorem envwt:EnvOk glS Tryz.prog WT:=
 ((((EnvOk.none.add fun β args k r hr=>envw11 β 38 args k r hr).add fun β args k r hr=>envr1 β 43 args k r hr).add vcForm).add fun β args k r hr=>envw2 β 45 args k r hr).add fun β args k r hr=>envw9 β 46 args k r hr
theorem envwu:EnvOk glS Tryz.prog WU:=envwt.fn mixed Tryz.func13 (by kernel_rfl) fun β args k r hr=>by
 have hbig:big=34359738368:=rfl
 unfold cTruthsT at hr
 split at hr
 ·rename_i x ns st lp
  split at hr
  ·rename_i f hf
   obtain⟨⟨h0,h1,h2⟩,hr⟩:=chkK_ok hr
   rw[hbig]at h1 h2
   obtain⟨res,outs,h3,h4⟩:=ansL_out hr
   refine⟨res,outs,h3,fun q=>?_⟩
   rw[←h4 q,d_ofD _ _ hf]
   have hl:(st++lp).length≤34359738368:=by rw[List.length_append];exact h2
   cases f with
   |mk op nm ks p=>
    have hof:=ofD_d (.mk op nm ks p)
    simp only[Fm.d]at hof ⊢
    have ha:bd none (.mk op nm ks p)∧(st++lp).length≤34359738368∧ns.length≤34359738368:=⟨h0,hl,h1⟩
    rw[V13.start,if_pos ⟨h1,h2⟩]
    simp only[hof,if_pos h0,if_pos h2,if_pos ha]
    unfold truthsT
    cases checkS Tryz.prog ns st lp with
    |none=>rfl
    |some b=>
     cases b with
     |false=>rfl
     |true=>
      simp only
      by_cases hs:sizeF (.mk op nm ks p)>4096
      ·rw[if_pos (by simpa using hs),if_pos hs];rfl
      ·rw[if_neg (by simpa using hs),if_neg hs]
       by_cases hfm:lformF (.mk op nm ks p)=true
       ·rw[if_neg (by simp[hfm]),if_pos hfm]
        generalize truthF ns (st++lp) (st.length:Int) (.mk op nm ks p)=z
        rcases z with _|_|_<;>rfl
       ·rw[if_pos (by simpa using hfm),if_neg hfm];rfl
  ·cases hr
 ·cases hr
theorem envwv:EnvOk glS Tryz.prog WV:=envwu.fn mixed Tryz.func18 (by kernel_rfl) fun β args k r hr=>by
 have hbig:big=34359738368:=rfl
 unfold cHoldsT at hr
 split at hr
 ·rename_i x ns st lp
  split at hr
  ·rename_i f hf
   obtain⟨⟨h0,h1,h2⟩,hr⟩:=chkK_ok hr
   rw[hbig]at h1 h2
   rw[d_ofD _ _ hf]
   cases f with
   |mk op nm ks p=>
    have hof:=ofD_d (.mk op nm ks p)
    simp only[Fm.d]at hof ⊢
    have ha:bd none (.mk op nm ks p)∧ns.length≤34359738368∧st.length+lp.length≤34359738368:=⟨h0,h1,h2⟩
    have st0:∀{γ:Type} (q:List TV→List TV→Option γ),_=_:=fun q=>V18.start op nm (Fm.dL ks) p ns st lp q
    simp only[hof,if_pos ha]at st0
    split at hr
    ·rename_i e he
     simp only[he]at st0
     exact⟨_,_,hr,fun q=>st0 q⟩
    ·rename_i b bs he
     simp only[he]at st0
     refine⟨_,_,hr,fun q=>?_⟩
     rw[st0,if_pos (by simp[bD])]
     rfl
    ·cases hr
  ·cases hr
 ·cases hr
end Go.Sd
namespace Go.Sc
open Go Go.Cm
def oTrue:T8:=[116,114,117,101]
def oFalse:T8:=[102,97,108,115,101]
def oLabel:T8:=[108,97,98,101,108]
end Go.Sc
namespace Go.Sc
open Go Go.Cm
def nd (op:ByteArray) (ks:List Fm):Fm:=.mk op ⟨#[]⟩ ks 0
def labF (nm:ByteArray):Fm:=.mk ⟨#[108,97,98,101,108]⟩ nm [] 0
def mok (lo:Int) (b:Option Nat) (f:Fm) (l:Int):Prop:=bd b f∧f.dep≤1073741824∧lo≤l∧l≤17179869184
instance (lo:Int) (b:Option Nat) (f:Fm) (l:Int):Decidable (mok lo b f l):=by unfold mok;infer_instance
end Go.Sc
namespace Go.Sc
open Go Go.Cm
end Go.Sc
namespace Go.Sc
open Go Go.Cm
def bTrue:ByteArray:=⟨#[116,114,117,101]⟩
def bFalse:ByteArray:=⟨#[102,97,108,115,101]⟩
end Go.Sc
namespace Go.Sc
open Go Go.Cm
end Go.Sc
namespace Go.Sc
open Go Go.Cm
inductive U1 where
 |no|X|F|G
 deriving DecidableEq
inductive B2 where
 |and|or|imp|U|W|R
 deriving DecidableEq
inductive Pr where
 |tt|ff
 |lab (s:ByteArray)
 |un (o:U1) (a:Pr)
 |bi (o:B2) (a b:Pr)
 deriving DecidableEq
def U1.b:U1→ByteArray
 |.no=>⟨#[33]⟩|.X=>⟨#[88]⟩|.F=>⟨#[70]⟩|.G=>⟨#[71]⟩
def B2.b:B2→ByteArray
 |.and=>⟨#[38]⟩|.or=>⟨#[124]⟩|.imp=>⟨#[61,62]⟩|.U=>⟨#[85]⟩|.W=>⟨#[87]⟩|.R=>⟨#[82]⟩
def U1.s:U1→T8
 |.no=>[33]|.X=>[88]|.F=>[70]|.G=>[71]
def B2.s:B2→T8
 |.and=>[38]|.or=>[124]|.imp=>[61,62]|.U=>[85]|.W=>[87]|.R=>[82]
def u1? (l:T8):Option U1:=if l==[33]then some .no else if l==[88]then some .X else if l==[70]then some .F else if l==[71]then some .G else none
def b2? (l:T8):Option B2:=if l==[38]then some .and else if l==[124]then some .or else if l==[61,62]then some .imp else if l==[85]then some .U else if l==[87]then some .W else if l==[82]then some .R else none
def u1A (l:T8) (x:Option Pr):Option Pr:=match u1? l,x with|some o,some x=>some (.un o x)|_,_=>none
def b2A (l:T8) (x y:Option Pr):Option Pr:=match b2? l,x,y with|some o,some x,some y=>some (.bi o x y)|_,_,_=>none
def Fm.abs:Fm→Option Pr
 |.mk op nm ks _=>match ks with
  |[]=>if op.toList==oTrue then some .tt else if op.toList==oFalse then some .ff else if op.toList==oLabel then some (.lab nm)else none
  |[a]=>u1A op.toList a.abs
  |[a,b]=>b2A op.toList a.abs b.abs
  |_=>none
def Pr.fm:Pr→Fm
 |.tt=>nd bTrue []
 |.ff=>nd bFalse []
 |.lab s=>labF s
 |.un o a=>nd o.b [a.fm]
 |.bi o a b=>nd o.b [a.fm,b.fm]
theorem B_lit (l:T8):ByteArray.toList ⟨l.toArray⟩=l:=by rw[ByteArray.toList_eq]
theorem U1.b_s (o:U1):o.b.toList=o.s:=by cases o<;>exact B_lit _
theorem B2.b_s (o:B2):o.b.toList=o.s:=by cases o<;>exact B_lit _
theorem u1_s {l:T8} {o:U1} (h:u1? l=some o):l=o.s:=by
 unfold u1? at h
 repeat' split at h
 all_goals first|(cases h;done)|(rename_i e;cases h;exact eq_of_beq e)
theorem b2_s {l:T8} {o:B2} (h:b2? l=some o):l=o.s:=by
 unfold b2? at h
 repeat' split at h
 all_goals first|(cases h;done)|(rename_i e;cases h;exact eq_of_beq e)
theorem u1_of (o:U1):u1? o.s=some o:=by cases o<;>rfl
theorem b2_of (o:B2):b2? o.s=some o:=by cases o<;>rfl
theorem u1A_some {l:T8} {x:Option Pr} {t:Pr} (h:u1A l x=some t):∃o a,l=U1.s o∧x=some a∧t=.un o a:=by
 unfold u1A at h
 cases e:u1? l with
 |none=>simp[e]at h
 |some o=>
  cases x with
  |none=>simp[e]at h
  |some a=>simp only[e,Option.some.injEq]at h;exact⟨o,a,u1_s e,rfl,h.symm⟩
theorem b2A_some {l:T8} {x y:Option Pr} {t:Pr} (h:b2A l x y=some t):∃o a b,l=B2.s o∧x=some a∧y=some b∧t=.bi o a b:=by
 unfold b2A at h
 cases e:b2? l with
 |none=>simp[e]at h
 |some o=>
  cases x with
  |none=>simp[e]at h
  |some a=>
   cases y with
   |none=>simp[e]at h
   |some b=>simp only[e,Option.some.injEq]at h;exact⟨o,a,b,b2_s e,rfl,rfl,h.symm⟩
theorem abs_inv {f:Fm} {t:Pr} (h:f.abs=some t):
  (∃op nm p,f=.mk op nm [] p∧((op.toList=oTrue∧t=.tt)∨(op.toList=oFalse∧t=.ff)∨(op.toList=oLabel∧t=.lab nm)))∨
  (∃op nm a p o x,f=.mk op nm [a] p∧op.toList=U1.s o∧a.abs=some x∧t=.un o x)∨
  (∃op nm a b p o x y,f=.mk op nm [a,b] p∧op.toList=B2.s o∧a.abs=some x∧b.abs=some y∧t=.bi o x y):=by
 cases f with
 |mk op nm ks p=>
  unfold Fm.abs at h
  split at h
  ·left
   refine⟨op,nm,p,rfl,?_⟩
   repeat' split at h
   ·rename_i e;cases h;exact .inl ⟨by simpa using e,rfl⟩
   ·rename_i e;cases h;exact .inr (.inl ⟨by simpa using e,rfl⟩)
   ·rename_i e;cases h;exact .inr (.inr ⟨by simpa using e,rfl⟩)
   ·cases h
  ·rename_i a
   obtain⟨o,x,h1,h2,h3⟩:=u1A_some h
   exact .inr (.inl ⟨op,nm,a,p,o,x,rfl,h1,h2,h3⟩)
  ·rename_i a b
   obtain⟨o,x,y,h1,h2,h3,h4⟩:=b2A_some h
   exact .inr (.inr ⟨op,nm,a,b,p,o,x,y,rfl,h1,h2,h3,h4⟩)
  ·cases h
end Go.Sc
namespace Go.Sc
open Go Go.Cm
def Pr.sz:Pr→Nat
 |.un _ a=>a.sz+1
 |.bi _ a b=>a.sz+b.sz+1
 |_=>1
end Go.Sc
namespace Go.Sc
open Go Go.Cm
theorem size_abs:∀(t:Pr) (f:Fm),f.abs=some t→sizeF f=min (t.sz:Int) 4097
 |t,f,h=>by
  rcases abs_inv h with⟨op,nm,p,rfl,h1⟩|⟨op,nm,a,p,o,x,rfl,h1,h2,rfl⟩|⟨op,nm,a,b,p,o,x,y,rfl,h1,h2,h3,rfl⟩
  ·rcases h1 with⟨h1,rfl⟩|⟨h1,rfl⟩|⟨h1,rfl⟩<;>rfl
  ·have ih:=size_abs x a h2
   simp only[sizeF,sizeL,ih,Pr.sz]
   rw[if_pos (by omega)]
   omega
  ·have iha:=size_abs x a h2
   have ihb:=size_abs y b h3
   simp only[sizeF,sizeL,iha,ihb,Pr.sz]
   rw[if_pos (show(1:Int)≤4096 by omega)]
   split<;>omega
  termination_by t=>SizeOf.sizeOf t
end Go.Sc
namespace Go.Sc
open Go Go.Cm
def Rd (a b:Int) (op nm:ByteArray) (ks:List D) (p:Int):Prop:=
 ∃f t,ofD (fmD op nm ks p)=some f∧Fm.abs f=some t∧sameF f t.fm=true∧(t.sz:Int)≤b - a
def Good (a:Int):PR→Prop
 |.ok op nm ks p b=>Rd a b op nm ks p
 |_=>True
theorem good_deep (xs:List D) (a c:Int):Good c (deepP xs a):=by unfold deepP;split<;>trivial
theorem ofD_mk {op nm:ByteArray} {ks:List D} {p:Int} {f:Fm} (h:ofD (fmD op nm ks p)=some f):∃fs,ofDL ks=some fs∧f=.mk op nm fs p:=by
 simp only[fmD,ofD]at h
 split at h
 ·rename_i fs e;cases h;exact⟨fs,e,rfl⟩
 ·cases h
theorem rd_pos {a b:Int} {op nm:ByteArray} {ks:List D} {p:Int} (q:Int) (h:Rd a b op nm ks p):Rd a b op nm ks q:=by
 obtain⟨f,t,h1,h2,h3,h4⟩:=h
 obtain⟨fs,e,rfl⟩:=ofD_mk h1
 refine⟨.mk op nm fs q,t,by simp only[fmD,ofD,e],?_,?_,h4⟩
 ·rw[←h2];unfold Fm.abs;rfl
 ·cases ht:t.fm with
  |mk o n k r=>rw[ht]at h3;simpa only[sameF]using h3
theorem rd_two {a b c:Int} {op o1 n1 o2 n2:ByteArray} {k1 k2:List D} {p1 p2:Int} {o:B2} (ho:op.toList=o.s) (h:Rd a b o1 n1 k1 p1) (k:Rd (b+1) c o2 n2 k2 p2) (p:Int):
  Rd a c op ⟨#[]⟩ [fmD o1 n1 k1 p1,fmD o2 n2 k2 p2] p:=by
 obtain⟨f,t,h1,h2,h3,h4⟩:=h
 obtain⟨g,u,k1,k2,k3,k4⟩:=k
 refine⟨.mk op ⟨#[]⟩ [f,g] p,.bi o t u,?_,?_,?_,?_⟩
 ·simp only[fmD]at h1 k1 ⊢
  simp only[ofD,ofDL]at h1 k1 ⊢
  simp only[h1,k1]
 ·simp only[Fm.abs,b2A,ho,b2_of,h2,k2]
 ·simp only[Pr.fm,nd,sameF,sameL,h3,k3,ho,B2.b_s,beq_self_eq_true,Bool.and_true]
 ·simp only[Pr.sz];omega
theorem rd_one {a c:Int} {op o2 n2:ByteArray} {k2:List D} {p2:Int} {o:U1} (ho:op.toList=o.s) (k:Rd (a+1) c o2 n2 k2 p2) (p:Int):Rd a c op ⟨#[]⟩ [fmD o2 n2 k2 p2] p:=by
 obtain⟨g,u,k1,k2,k3,k4⟩:=k
 refine⟨.mk op ⟨#[]⟩ [g] p,.un o u,?_,?_,?_,?_⟩
 ·simp only[fmD]at k1 ⊢
  simp only[ofD,ofDL]at k1 ⊢
  simp only[k1]
 ·simp only[Fm.abs,u1A,ho,u1_of,k2]
 ·simp only[Pr.fm,nd,sameF,sameL,k3,ho,U1.b_s,beq_self_eq_true,Bool.and_true]
 ·simp only[Pr.sz];omega
theorem isT_s {c:Int} {t s:ByteArray} (h:isT c t s=true):t.toList=s.toList:=by
 unfold isT at h
 simp only[Bool.and_eq_true,beq_iff_eq]at h
 exact h.2
theorem good_chainL (xs:List D) (op:ByteArray) (o:B2) (ho:op.toList=o.s) (one:Int→PR) (h1:∀a,Good a (one a)):∀(n:Nat) (q nm:ByteArray) (ks:List D) (p a b:Int),Rd b a q nm ks p→Good b (chainL xs op one n q nm ks p a)
 |0,_,_,_,_,_,_,_=>trivial
 |n+1,q,nm,ks,p,a,b,hb=>by
  unfold chainL
  split
  ·trivial
  ·split
   ·have:=h1 (a+1)
    split
    ·rename_i e;rw[e]at this
     exact good_chainL xs op o ho one h1 n _ _ _ _ _ _ (rd_two ho hb this _)
    all_goals trivial
   ·exact hb
theorem good_chainP (xs:List D) (op:ByteArray) (o:B2) (ho:op.toList=o.s) (one:Int→PR) (h1:∀a,Good a (one a)) (a:Int):Good a (chainP xs op one a):=by
 have:=h1 a
 unfold chainP
 split
 ·rename_i e;rw[e]at this
  exact good_chainL xs op o ho one h1 _ _ _ _ _ _ _ this
 all_goals trivial
theorem good_rightP (xs:List D) (one:Int→PR) (h1:∀a,Good a (one a)) (o nm:ByteArray) (ks:List D) (p:Int):∀(ops:List ByteArray) (a b:Int),(∀op∈ops,∃o:B2,op.toList=o.s)→Rd b a o nm ks p→Good b (rightP xs one o nm ks p ops a)
 |[],a,b,_,h=>h
 |op::ops,a,b,ho,h=>by
  unfold rightP
  split
  ·trivial
  ·split
   ·have:=h1 (a+1)
    obtain⟨q,hq⟩:=ho op (.head _)
    split
    ·rename_i e;rw[e]at this
     exact rd_two hq h this _
    all_goals trivial
   ·exact good_rightP xs one h1 o nm ks p ops a b (fun x hx=>ho x (.tail _ hx)) h
theorem good_singleP (xs:List D) (P:PF) (h1:∀a,Good a (P.single a)) (h2:∀a,Good a (P.imply a)) (a:Int):Good a (singleP xs P a):=by
 have l0:(⟨#[108,97,98,101,108]⟩:ByteArray).toList=oLabel:=B_lit oLabel
 unfold singleP
 split
 ·trivial
 ·rename_i c t p hk
  split
  ·refine⟨.mk ⟨#[108,97,98,101,108]⟩ t [] p,.lab t,rfl,?_,?_,by simp only[Pr.sz];omega⟩
   ·simp only[Fm.abs,l0];rfl
   ·simp only[Pr.fm,labF,sameF,sameL,beq_self_eq_true,Bool.and_true]
  ·split
   ·rename_i h
    rcases h with h|h
    ·have e:=isT_s h
     rw[B_lit [116,114,117,101]]at e
     refine⟨.mk t ⟨#[]⟩ [] p,.tt,rfl,?_,?_,by simp only[Pr.sz];omega⟩
     ·simp only[Fm.abs,e];rfl
     ·simp only[Pr.fm,nd,bTrue,sameF,sameL,e,B_lit [116,114,117,101],beq_self_eq_true,Bool.and_true]
    ·have e:=isT_s h
     rw[B_lit [102,97,108,115,101]]at e
     refine⟨.mk t ⟨#[]⟩ [] p,.ff,rfl,?_,?_,by simp only[Pr.sz];omega⟩
     ·simp only[Fm.abs,e];rfl
     ·simp only[Pr.fm,nd,bFalse,sameF,sameL,e,B_lit [102,97,108,115,101],beq_self_eq_true,Bool.and_true]
   ·split
    ·rename_i h
     have ho:∃o:U1,t.toList=o.s:=by
      rcases h with h|h|h|h
      ·exact⟨.no,(isT_s h).trans (B_lit _)⟩
      ·exact⟨.X,(isT_s h).trans (B_lit _)⟩
      ·exact⟨.F,(isT_s h).trans (B_lit _)⟩
      ·exact⟨.G,(isT_s h).trans (B_lit _)⟩
     obtain⟨o,ho⟩:=ho
     have:=h1 (a+1)
     split
     ·rename_i e;rw[e]at this
      exact rd_one ho this _
     all_goals trivial
    ·split
     ·have:=h2 (a+1)
      split
      ·rename_i e;rw[e]at this
       split
       ·trivial
       ·split
        ·obtain⟨f,t,r1,r2,r3,r4⟩:=rd_pos p this
         exact⟨f,t,r1,r2,r3,by omega⟩
        ·trivial
      all_goals trivial
     ·trivial
theorem good_untlP (xs:List D) (s u:Int→PR) (h1:∀a,Good a (s a)) (h2:∀a,Good a (u a)) (a:Int):Good a (untlP xs s u a):=by
 have:=h1 a
 unfold untlP
 split
 ·rename_i e;rw[e]at this
  refine good_rightP xs u h2 _ _ _ _ _ _ _ (fun op ho=>?_) this
  simp only[List.mem_cons,List.not_mem_nil,or_false]at ho
  rcases ho with rfl|rfl|rfl
  ·exact⟨.U,B_lit _⟩
  ·exact⟨.W,B_lit _⟩
  ·exact⟨.R,B_lit _⟩
 all_goals trivial
theorem good_implyP (xs:List D) (u i:Int→PR) (h1:∀a,Good a (u a)) (h2:∀a,Good a (i a)) (a:Int):Good a (implyP xs u i a):=by
 have:=good_chainP xs ⟨#[124]⟩ .or (B_lit _) (kP xs u) (fun a=>good_chainP xs ⟨#[38]⟩ .and (B_lit _) u h1 a) a
 unfold implyP
 split
 ·rename_i e;rw[e]at this
  refine good_rightP xs i h2 _ _ _ _ _ _ _ (fun op ho=>?_) this
  simp only[List.mem_cons,List.not_mem_nil,or_false]at ho
  subst ho
  exact⟨.imp,B_lit _⟩
 all_goals trivial
theorem good_pf (xs:List D):∀n:Nat,(∀a,Good a ((pf xs n).single a))∧(∀a,Good a ((pf xs n).untl a))∧∀a,Good a ((pf xs n).imply a)
 |0=>⟨fun a=>good_deep xs a a,fun a=>good_deep xs a a,fun a=>good_deep xs a a⟩
 |n+1=>by
  obtain⟨h1,h2,h3⟩:=good_pf xs n
  have s:=good_singleP xs (pf xs n) h1 h3
  have u:=good_untlP xs _ _ s h2
  exact⟨s,u,good_implyP xs _ _ u h3⟩
theorem good_imply (xs:List D) (n:Nat) (a:Int):Good a (pImply xs n a):=(good_pf xs n).2.2 a
theorem toksL_len:∀(n:Nat) (l:T8) (p:Nat) (r:List Tok),toksL n l p=.inr r→r.length≤n
 |0,l,p,r,h=>by simp[toksL]at h
 |n+1,l,p,r,h=>by
  unfold toksL at h
  simp only at h
  split at h
  ·cases h;simp
  ·split at h
   ·cases h
   ·split at h
    ·cases h
    ·rename_i r' e
     cases h
     have:=toksL_len n _ _ _ e
     simp only[List.length_cons];omega
theorem parse_ok {s:ByteArray} {d:Int} {op nm:ByteArray} {ks:List D} {p:Int} (h:parseP s d=.ok op nm ks p):
  ∃f t,ofD (fmD op nm ks p)=some f∧Fm.abs f=some t∧sameF f t.fm=true∧t.sz≤s.size+1:=by
 unfold parseP at h
 split at h
 ·cases h
 ·split at h
  ·cases h
  ·rename_i hb
   split at h
   ·cases h
   ·rename_i l hl
    have hg:=good_imply (l.map tokT) d.toNat 0
    have ha:=adv_imply (l.map tokT) d.toNat 0
    unfold endP at h
    cases hp:pImply (l.map tokT) d.toNat 0 with
    |ok o n k q a=>
     rw[hp]at h hg ha
     simp only[Adv]at ha
     simp only at h
     split at h
     ·rename_i c t q2 hk
      split at h
      ·cases h
       obtain⟨f,t,r1,r2,r3,r4⟩:=hg
       have:=tk_lt hk (by omega)
       have hn:l.length≤s.size+1:=by
        rw[Nat.ble_eq]at hb
        have e:s.toList.length=s.size:=by rw[ByteArray.toList_eq];exact Array.length_toList
        have:=toksL_len _ _ _ _ hl
        omega
       rw[List.length_map]at this
       exact⟨f,t,r1,r2,r3,by omega⟩
      ·cases h
     ·cases h
    |syn=>rw[hp]at h;cases h
    |deep=>rw[hp]at h;cases h
    |no=>rw[hp]at h;cases h
mutual
theorem sm_abs:∀(f:Fm) (t:Pr),f.abs=some t→f.sm=true
 |.mk op nm ks p,t,h=>by
  match ks,h with
  |[],h=>rfl
  |[a],h=>
   simp only[Fm.abs]at h
   obtain⟨_,x,_,h2,_⟩:=u1A_some h
   simp only[Fm.sm,Fm.smL,sm_abs a x h2];rfl
  |[a,b],h=>
   simp only[Fm.abs]at h
   obtain⟨_,x,y,_,h2,h3,_⟩:=b2A_some h
   simp only[Fm.sm,Fm.smL,sm_abs a x h2,sm_abs b y h3];rfl
  |_::_::_::_,h=>simp[Fm.abs]at h
end
end Go.Sc
namespace Go.Sc
open Go Go.Cm
def finB (p q:Nat→Bool) (e:Bool):Nat→Nat→Bool
 |0,_=>e
 |r+1,i=>p i||(q i&&finB p q e r (i+1))
theorem finB_iff (p q:Nat→Bool) (e:Bool):∀(r i:Nat),finB p q e r i=true↔(∃d,d<r∧p (i+d)=true∧∀j,j<d→q (i+j)=true)∨((∀j,j<r→q (i+j)=true)∧e=true)
 |0,i=>by
  simp only[finB]
  constructor
  ·exact fun h=>.inr ⟨fun j hj=>absurd hj (Nat.not_lt_zero _),h⟩
  ·rintro(⟨d,h,_⟩|⟨_,h⟩)
   ·exact absurd h (Nat.not_lt_zero _)
   ·exact h
 |r+1,i=>by
  simp only[finB,Bool.or_eq_true,Bool.and_eq_true,finB_iff p q e r (i+1)]
  constructor
  ·rintro(h|⟨h,⟨d,h1,h2,h3⟩|⟨h1,h2⟩⟩)
   ·exact .inl ⟨0,by omega,h,fun j hj=>absurd hj (Nat.not_lt_zero _)⟩
   ·refine .inl ⟨d+1,by omega,by rw[show i+(d+1)=i+1+d by omega];exact h2,fun j hj=>?_⟩
    cases j with
    |zero=>exact h
    |succ j=>rw[show i+(j+1)=i+1+j by omega];exact h3 j (by omega)
   ·refine .inr ⟨fun j hj=>?_,h2⟩
    cases j with
    |zero=>exact h
    |succ j=>rw[show i+(j+1)=i+1+j by omega];exact h1 j (by omega)
  ·rintro(⟨d,h1,h2,h3⟩|⟨h1,h2⟩)
   ·cases d with
    |zero=>exact .inl h2
    |succ d=>
     refine .inr ⟨h3 0 (by omega),.inl ⟨d,by omega,by rw[show i+1+d=i+(d+1)by omega];exact h2,fun j hj=>?_⟩⟩
     rw[show i+1+j=i+(j+1)by omega];exact h3 (j+1) (by omega)
   ·refine .inr ⟨h1 0 (by omega),.inr ⟨fun j hj=>?_,h2⟩⟩
    rw[show i+1+j=i+(j+1)by omega];exact h1 (j+1) (by omega)
def nxN (n bk i:Nat):Nat:=if i+1<n then i+1 else bk
def posN (n bk:Nat):Nat→Nat
 |0=>0
 |k+1=>nxN n bk (posN n bk k)
section
variable {n bk:Nat} {p q:Nat→Bool}
theorem nxN_lt (h:bk<n) (i:Nat):nxN n bk i<n:=by unfold nxN;split<;>omega
theorem posN_lt (h:bk<n):∀k,posN n bk k<n
 |0=>by simp only[posN];omega
 |k+1=>nxN_lt h _
def edgeB (p q:Nat→Bool) (n bk:Nat) (t:Bool):Bool:=finB p q t (n - bk) bk
def walkB (p q:Nat→Bool) (n bk:Nat) (t:Bool) (i:Nat):Bool:=finB p q (edgeB p q n bk t) (n - i) i
theorem edge_edge (t:Bool):walkB p q n bk t bk=edgeB p q n bk t:=by
 rw[Bool.eq_iff_iff]
 unfold walkB
 rw[finB_iff]
 unfold edgeB
 rw[finB_iff]
 constructor
 ·rintro(h|⟨h,h'⟩)
  ·exact .inl h
  ·exact h'
 ·rintro(h|⟨h,h'⟩)
  ·exact .inl h
  ·exact .inr ⟨h,.inr ⟨h,h'⟩⟩
theorem walk_step (h:bk<n) (t:Bool) {i:Nat} (hi:i<n):walkB p q n bk t i=(p i||(q i&&walkB p q n bk t (nxN n bk i))):=by
 unfold nxN
 split
 ·unfold walkB
  rw[show n - i=(n - (i+1))+1 by omega]
  rfl
 ·rw[edge_edge]
  unfold walkB
  rw[show n - i=0+1 by omega]
  rfl
theorem posN_go (k:Nat):∀d,posN n bk k+d<n→posN n bk (k+d)=posN n bk k+d
 |0,h=>rfl
 |d+1,h=>by
  rw[show k+(d+1)=(k+d)+1 by omega,posN,posN_go k d (by omega),nxN,if_pos (by omega)];omega
theorem posN_edge (hb:bk<n) (k:Nat):posN n bk (k+(n - posN n bk k))=bk:=by
 have h:=posN_lt hb k
 rw[show k+(n - posN n bk k)=(k+(n - posN n bk k - 1))+1 by omega,posN,posN_go k _ (by omega),nxN,if_neg (by omega)]
def UntP (P Q:Nat→Prop) (k:Nat):Prop:=∃d,P (k+d)∧∀j,j<d→Q (k+j)
theorem walk_of_unt (hb:bk<n) (t:Bool):∀(d k:Nat),p (posN n bk (k+d))=true→(∀j,j<d→q (posN n bk (k+j))=true)→walkB p q n bk t (posN n bk k)=true
 |0,k,h1,h2=>by rw[walk_step hb t (posN_lt hb k)];simp only[Nat.add_zero]at h1;rw[h1];rfl
 |d+1,k,h1,h2=>by
  rw[walk_step hb t (posN_lt hb k),show q (posN n bk k)=true from h2 0 (by omega)]
  have:=walk_of_unt hb t d (k+1) (by rw[show k+1+d=k+(d+1)by omega];exact h1) (fun j hj=>by rw[show k+1+j=k+(j+1)by omega];exact h2 (j+1) (by omega))
  simp only[posN]at this
  rw[this];simp
theorem walk_false (hb:bk<n) (k:Nat):walkB p q n bk false (posN n bk k)=true↔UntP (fun i=>p (posN n bk i)=true) (fun i=>q (posN n bk i)=true) k:=by
 constructor
 ·intro h
  have hk:=posN_lt hb k
  unfold walkB at h
  rw[finB_iff]at h
  rcases h with⟨d,h1,h2,h3⟩|⟨h1,h2⟩
  ·exact⟨d,by show p (posN n bk (k+d))=true;rw[posN_go k d (by omega)];exact h2,fun j hj=>by show q (posN n bk (k+j))=true;rw[posN_go k j (by omega)];exact h3 j hj⟩
  ·unfold edgeB at h2
   rw[finB_iff]at h2
   rcases h2 with⟨d,h4,h5,h6⟩|⟨_,h4⟩
   ·have he:=posN_edge hb k
    have hg:∀j,j≤d→posN n bk (k+(n - posN n bk k)+j)=bk+j:=fun j hj=>by rw[posN_go _ j (by rw[he];omega),he]
    refine⟨(n - posN n bk k)+d,by show p (posN n bk (k+_))=true;rw[←Nat.add_assoc,hg d (Nat.le_refl _)];exact h5,fun j hj=>?_⟩
    show q (posN n bk (k+j))=true
    by_cases hlt:j<n - posN n bk k
    ·rw[posN_go k j (by omega)];exact h1 j hlt
    ·have:=hg (j - (n - posN n bk k)) (by omega)
     rw[show k+(n - posN n bk k)+(j - (n - posN n bk k))=k+j by omega]at this
     rw[this];exact h6 _ (by omega)
   ·cases h4
 ·rintro⟨d,h1,h2⟩
  exact walk_of_unt hb false d k h1 h2
theorem walk_true (hb:bk<n) (k:Nat):walkB p q n bk true (posN n bk k)=true↔UntP (fun i=>p (posN n bk i)=true) (fun i=>q (posN n bk i)=true) k∨∀j,q (posN n bk (k+j))=true:=by
 constructor
 ·intro h
  by_cases hu:UntP (fun i=>p (posN n bk i)=true) (fun i=>q (posN n bk i)=true) k
  ·exact .inl hu
  ·refine .inr fun j=>?_
   have key:∀j,(∀i,i<j→q (posN n bk (k+i))=true)∧walkB p q n bk true (posN n bk (k+j))=true:=by
    intro j
    induction j with
    |zero=>exact⟨fun i hi=>absurd hi (Nat.not_lt_zero _),h⟩
    |succ j ih=>
     obtain⟨h1,h2⟩:=ih
     rw[walk_step hb true (posN_lt hb _),Bool.or_eq_true,Bool.and_eq_true]at h2
     rcases h2 with h2|⟨h2,h3⟩
     ·exact(hu ⟨j,h2,h1⟩).elim
     ·refine⟨fun i hi=>?_,h3⟩
      rcases Nat.lt_or_ge i j with h|h
      ·exact h1 i h
      ·have:i=j:=by omega
       subst this;exact h2
   exact(key (j+1)).1 j (by omega)
 ·rintro(⟨d,h1,h2⟩|h)
  ·exact walk_of_unt hb true d k h1 h2
  ·have hk:=posN_lt hb k
   unfold walkB
   rw[finB_iff]
   refine .inr ⟨fun j hj=>by rw[←posN_go k j (by omega)];exact h j,?_⟩
   unfold edgeB
   rw[finB_iff]
   refine .inr ⟨fun j hj=>?_,rfl⟩
   have he:=posN_edge hb k
   have:=h ((n - posN n bk k)+j)
   rwa [←Nat.add_assoc,posN_go _ j (by rw[he];omega),he]at this
end
def Pr.sat (lb:ByteArray→Nat→Prop):Pr→Nat→Prop
 |.tt,_=>True
 |.ff,_=>False
 |.lab s,k=>lb s k
 |.un .no a,k=>¬a.sat lb k
 |.un .X a,k=>a.sat lb (k+1)
 |.un .F a,k=>∃d,a.sat lb (k+d)
 |.un .G a,k=>∀d,a.sat lb (k+d)
 |.bi .and a b,k=>a.sat lb k∧b.sat lb k
 |.bi .or a b,k=>a.sat lb k∨b.sat lb k
 |.bi .imp a b,k=>a.sat lb k→b.sat lb k
 |.bi .U a b,k=>UntP (b.sat lb) (a.sat lb) k
 |.bi .W a b,k=>UntP (b.sat lb) (a.sat lb) k∨∀d,a.sat lb (k+d)
 |.bi .R a b,k=>UntP (fun i=>b.sat lb i∧a.sat lb i) (b.sat lb) k∨∀d,b.sat lb (k+d)
def Pr.labs (ok:ByteArray→Prop):Pr→Prop
 |.tt=>True
 |.ff=>True
 |.lab s=>ok s
 |.un _ a=>a.labs ok
 |.bi _ a b=>a.labs ok∧b.labs ok
end Go.Sc
namespace Go.Sc
open Go Go.Cm
open Go.Sd (wrap_id)
theorem nxt_nat {n bk i:Nat} (hn:n≤34359738368) (hi:i<n):nxt n bk i=((nxN n bk i:Nat):Int):=by
 unfold nxt nxN
 rw[wrap_id (by omega) (by omega)]
 by_cases h:i+1<n
 ·rw[if_pos h,if_pos (by omega)];omega
 ·rw[if_neg h,if_neg (by omega)]
theorem pass_fin {now:Int→Bool→Option Bool} {p q:Nat→Bool} {n bk:Nat} (hb:bk<n) (hn:n≤34359738368) (hnow:∀(i:Nat) (l:Bool),i<n→now (i:Int) l=some (p i||(q i&&l))) (e:Bool):
  ∀(m:Nat) (l:List Bool),m≤n→l.length=n→(∀i,m≤i→i<n→l[i]? =some (finB p q e (n - i) i))→(bk<m→l[bk]? =some e)→
   ∃r,passS now n bk m l=some r∧r.length=n∧∀i,i<n→r[i]? =some (finB p q e (n - i) i)
 |0,l,hm,hl,hd,he=>⟨l,rfl,hl,fun i hi=>hd i (by omega) hi⟩
 |m+1,l,hm,hl,hd,he=>by
  have hx:l[(nxt n bk m).toNat]? =some (finB p q e (n - (m+1)) (m+1)):=by
   rw[nxt_nat hn (by omega),Int.toNat_natCast];unfold nxN
   split
   ·rename_i h;exact hd (m+1) (by omega) h
   ·rename_i h;rw[show n - (m+1)=0 by omega];exact he (by omega)
  have h0:0≤nxt n bk m:=by rw[nxt_nat hn (by omega)];omega
  simp only[passS]
  rw[if_pos h0,hx]
  simp only
  rw[hnow m _ (by omega)]
  simp only
  refine pass_fin hb hn hnow e m _ (by omega) (by rw[List.length_set];exact hl) (fun i h1 h2=>?_) (fun h=>?_)
  ·rw[List.getElem?_set]
   split
   ·rename_i hi
    subst hi
    rw[if_pos (by omega),show n - m=(n - (m+1))+1 by omega];rfl
   ·exact hd i (by omega) h2
  ·rw[List.getElem?_set,if_neg (by omega)]
   exact he (by omega)
theorem getD_of {l:List Bool} {i:Nat} {b:Bool} (h:l[i]? =some b):l.getD i false=b:=by rw[List.getD_eq_getElem?_getD,h];rfl
theorem along_ex {g:Nat} {cs:List TV} {p q:Nat→Bool} {n bk:Nat} (hb:bk<n) (hn:n≤34359738368) (t:Bool)
  (hnow:∀(i:Nat) (l:Bool),i<n→nowB g (.d true 0 (.int .i64 (i:Int))::.d true 0 (.bool l)::cs)=some (p i||(q i&&l))):
  ∃l,alongB g cs n bk t=some l∧l.length=n∧∀i,i<n→l.getD i false=walkB p q n bk t i:=by
 obtain⟨r1,h1,h2,h3⟩:=pass_fin (now:=fun i l=>nowB g (.d true 0 (.int .i64 i)::.d true 0 (.bool l)::cs)) hb hn hnow t n (List.replicate n t) (Nat.le_refl _) (by simp) (fun i a b=>absurd b (by omega)) (fun h=>by simp[h])
 obtain⟨r2,h4,h5,h6⟩:=pass_fin (now:=fun i l=>nowB g (.d true 0 (.int .i64 i)::.d true 0 (.bool l)::cs)) hb hn hnow (edgeB p q n bk t) n r1 (Nat.le_refl _) h2 (fun i a b=>absurd b (by omega)) (fun h=>h3 bk h)
 refine⟨r2,?_,h5,fun i hi=>getD_of (h6 i hi)⟩
 unfold alongB alongS
 rw[h1];exact h4
theorem each_fn {sem:Int→Option Bool} {f:Nat→Bool}:∀(m i:Nat),(∀j:Nat,i≤j→j<i+m→sem (j:Int)=some (f j))→∃bs,eachS sem i m=some bs∧bs.length=m∧∀j,j<m→bs[j]? =some (f (i+j))
 |0,i,h=>⟨[],rfl,rfl,fun j hj=>absurd hj (Nat.not_lt_zero _)⟩
 |m+1,i,h=>by
  obtain⟨bs,h1,h2,h3⟩:=each_fn m (i+1) (fun j a b=>h j (by omega) (by omega))
  refine⟨f i::bs,?_,by simp[h2],fun j hj=>?_⟩
  ·simp only[eachS]
   rw[h i (Nat.le_refl _) (by omega)]
   simp only
   rw[h1];rfl
  ·cases j with
   |zero=>rfl
   |succ j=>rw[List.getElem?_cons_succ,h3 j (by omega),show i+1+j=i+(j+1)by omega]
theorem each_ex {g:Nat} {cs:List TV} {f:Nat→Bool} {n:Nat} (h:∀i:Nat,i<n→semB g (.d true 0 (.int .i64 (i:Int))::cs)=some (f i)):
  ∃l,eachB g cs n=some l∧l.length=n∧∀i,i<n→l.getD i false=f i:=by
 obtain⟨bs,h1,h2,h3⟩:=each_fn (sem:=fun i=>semB g (.d true 0 (.int .i64 i)::cs)) (f:=f) n 0 (fun j _ b=>h j (by omega))
 exact⟨bs,h1,h2,fun i hi=>getD_of (by rw[h3 i hi,Nat.zero_add])⟩
theorem bAt_bD {l:List Bool} {i:Nat} (h:i<l.length):bAt (bD l) (i:Int)=some (l.getD i false):=by
 unfold bAt
 rw[if_pos (by omega),Int.toNat_natCast]
 simp[bD,h]
section
variable {ns al:List D} {n bk:Nat} {a:Nat→Int}
structure Wd (al:List D) (n bk:Nat) (a:Nat→Int):Prop where
 len:al.length=n
 bk:bk<n
 big:n≤34359738368
 at':∀i,i<n→al[i]? =some (.int .i64 (a i))
structure Ts (n:Nat) (l:List Bool) (f:Nat→Bool):Prop where
 len:l.length=n
 at':∀i,i<n→l.getD i false=f i
theorem Ts.b {l:List Bool} {f:Nat→Bool} (h:Ts n l f) {i:Nat} (hi:i<n):bAt (bD l) (i:Int)=some (f i):=by rw[bAt_bD (by rw[h.len];exact hi),h.at' i hi]
theorem until_ex (hw:Wd al n bk a) {x y:List Bool} {f g:Nat→Bool} (hx:Ts n x f) (hy:Ts n y g):∃l,untilB al.length bk (bD x) (bD y)=some l∧Ts n l (walkB g f n bk false):=by
 obtain⟨l,h1,h2,h3⟩:=along_ex (g:=120) (cs:=[.d true 0 (.pt 0 (.sl 0 (bD y))),.d true 0 (.pt 0 (.sl 0 (bD x)))]) (p:=g) (q:=f) hw.bk hw.big false (fun i l hi=>by
  simp only[nowB,now2]
  rw[hx.b hi,hy.b hi]
  cases g i<;>cases f i<;>cases l<;>rfl)
 exact⟨l,by rw[hw.len];exact h1,h2,h3⟩
theorem forever_ex (hw:Wd al n bk a) {x:List Bool} {f:Nat→Bool} (hx:Ts n x f):∃l,foreverB al.length bk (bD x)=some l∧Ts n l (walkB (fun _=>false) f n bk true):=by
 obtain⟨l,h1,h2,h3⟩:=along_ex (g:=121) (cs:=[.d true 0 (.pt 0 (.sl 0 (bD x)))]) (p:=fun _=>false) (q:=f) hw.bk hw.big true (fun i l hi=>by
  simp only[nowB,now1]
  rw[hx.b hi]
  cases f i<;>cases l<;>rfl)
 exact⟨l,by rw[hw.len];exact h1,h2,h3⟩
theorem rel_ex (hw:Wd al n bk a) {x y:List Bool} {f g:Nat→Bool} (hx:Ts n x f) (hy:Ts n y g):∃l,alongB 110 [.d true 0 (.pt 0 (.sl 0 (bD y))),.d true 0 (.pt 0 (.sl 0 (bD x)))] al.length bk true=some l∧Ts n l (walkB (fun i=>g i&&f i) g n bk true):=by
 obtain⟨l,h1,h2,h3⟩:=along_ex (g:=110) (cs:=[.d true 0 (.pt 0 (.sl 0 (bD y))),.d true 0 (.pt 0 (.sl 0 (bD x)))]) (p:=fun i=>g i&&f i) (q:=g) hw.bk hw.big true (fun i l hi=>by
  simp only[nowB,now2]
  rw[hx.b hi,hy.b hi]
  cases g i<;>cases f i<;>cases l<;>rfl)
 exact⟨l,by rw[hw.len];exact h1,h2,h3⟩
theorem each2_eq (o:Bool→Bool→Bool) {v w:Bool} (ho:o v w=if v then(if o true true then(if o true false then true else w)else false)else(if o false true then(if o false false then true else w)else false)):
  ((some v).bind fun v=>if v then(if o true true then(if o true false then some true else some w)else some false)else(if o false true then(if o false false then some true else some w)else some false))=some (o v w):=by
 rw[ho]
 cases v<;>cases o true true<;>cases o true false<;>cases o false true<;>cases o false false<;>rfl
theorem each2 (hw:Wd al n bk a) (c:Nat) (o:Bool→Bool→Bool) (hc:∀(i:Int) (x y:List D),sem2 c i (.sl 0 x) (.sl 0 y)=(bAt x i).bind fun v=>if v then(if o true true then(if o true false then some true else bAt y i)else some false)else(if o false true then(if o false false then some true else bAt y i)else some false))
  (ho:∀x y,o x y=if x then(if o true true then(if o true false then true else y)else false)else(if o false true then(if o false false then true else y)else false))
  {x y:List Bool} {f g:Nat→Bool} (hx:Ts n x f) (hy:Ts n y g):∃l,eachB c [.d true 0 (.pt 0 (.sl 0 (bD x))),.d true 0 (.pt 0 (.sl 0 (bD y)))] al.length=some l∧Ts n l (fun i=>o (f i) (g i)):=by
 obtain⟨l,h1,h2,h3⟩:=each_ex (g:=c) (cs:=[.d true 0 (.pt 0 (.sl 0 (bD x))),.d true 0 (.pt 0 (.sl 0 (bD y)))]) (f:=fun i=>o (f i) (g i)) (n:=n) (fun i hi=>by
  show sem2 c i (.sl 0 (bD x)) (.sl 0 (bD y))=some (o (f i) (g i))
  rw[hc,hx.b hi,hy.b hi]
  exact each2_eq o (ho (f i) (g i)))
 exact⟨l,by rw[hw.len];exact h1,h2,h3⟩
def lbAt (ns:List D) (L:Nat→Int) (s:ByteArray) (k:Nat):Prop:=∃i:Int,0≤i∧idxN s ns 0=some i∧bitA (L k) i=true
def lbOk (ns:List D) (s:ByteArray):Prop:=∃i:Int,0≤i∧idxN s ns 0=some i
theorem ts_true (hw:Wd al n bk a):∃l,eachB 99 [] al.length=some l∧Ts n l (fun _=>true):=by
 obtain⟨l,h1,h2,h3⟩:=each_ex (g:=99) (cs:=[]) (f:=fun _=>true) (n:=n) (fun i hi=>rfl)
 exact⟨l,by rw[hw.len];exact h1,h2,h3⟩
theorem truth_sat (hw:Wd al n bk a):∀(t:Pr) (f:Fm),f.abs=some t→t.labs (lbOk ns)→
  ∃l g,truthF ns al bk f=some (.inr l)∧Ts n l g∧∀k,g (posN n bk k)=true↔t.sat (lbAt ns fun k=>a (posN n bk k)) k
 |t,f,h,hl=>by
  rcases abs_inv h with⟨op,nm,p,rfl,h1⟩|⟨op,nm,b,p,o,x,rfl,h1,h2,rfl⟩|⟨op,nm,b,c,p,o,x,y,rfl,h1,h2,h3,rfl⟩
  ·simp only[truthF,truthL]
   rcases h1 with⟨h1,rfl⟩|⟨h1,rfl⟩|⟨h1,rfl⟩
   ·rw[h1]
    refine⟨List.replicate n true,fun _=>true,?_,⟨by simp,fun i hi=>getD_of (by simp[hi])⟩,fun k=>by simp[Pr.sat]⟩
    rw[hw.len];rfl
   ·rw[h1]
    refine⟨List.replicate n false,fun _=>false,?_,⟨by simp,fun i hi=>getD_of (by simp[hi])⟩,fun k=>by simp[Pr.sat]⟩
    rw[hw.len];rfl
   ·rw[h1]
    obtain⟨i,hi0,hi⟩:=hl
    obtain⟨l,e1,e2,e3⟩:=each_ex (g:=98) (cs:=[.d true 0 (.pt 0 (.pt 4 (.ag [.sl 0 ns,.sl 0 al,.int .i64 bk]))),.d true 0 (.pt 0 (.int .i64 i))]) (f:=fun j=>bitA (a j) i) (n:=n) (fun j hj=>by
     show(if 0≤i then(iAt al j).map (bitA · i)else none)=some (bitA (a j) i)
     rw[if_pos hi0]
     unfold iAt
     rw[if_pos (by omega),Int.toNat_natCast,hw.at' j hj]
     rfl)
    refine⟨l,_,?_,⟨e2,e3⟩,fun k=>?_⟩
    ·rw[if_neg (by decide),if_pos (by decide)]
     unfold labelB
     rw[hi]
     simp only
     rw[if_neg (by omega),hw.len,e1]
     rfl
    ·simp only[Pr.sat,lbAt]
     constructor
     ·exact fun h=>⟨i,hi0,hi,h⟩
     ·rintro⟨j,_,hj,h⟩
      rw[hi]at hj
      cases hj;exact h
  ·obtain⟨l,g,e1,e2,e3⟩:=truth_sat hw x b h2 hl
   obtain⟨yes,y1,y2⟩:=ts_true hw
   simp only[truthF,truthL,e1]
   unfold oneB
   rw[y1,h1]
   simp only
   cases o with
   |no=>
    obtain⟨r,r1,r2,r3⟩:=each_ex (g:=100) (cs:=[.d true 0 (.pt 0 (.sl 0 (bD l)))]) (f:=fun i=> !g i) (n:=n) (fun i hi=>by
     show(bAt (bD l) i).map (!·)=some (!g i)
     rw[e2.b hi];rfl)
    refine⟨r,_,?_,⟨r2,r3⟩,fun k=>?_⟩
    ·rw[if_pos (by decide),hw.len,r1];rfl
    ·simp only[Pr.sat, ←e3 k,Bool.not_eq_true',Bool.not_eq_true]
   |X=>
    obtain⟨r,r1,r2,r3⟩:=each_ex (g:=101) (cs:=[.d true 0 (.pt 0 (.sl 0 (bD l))),.d true 0 (.pt 0 (.pt 4 (.ag [.sl 0 ns,.sl 0 al,.int .i64 bk])))]) (f:=fun i=>g (nxN n bk i)) (n:=n) (fun i hi=>by
     show bAt (bD l) (nxt al.length bk i)=some (g (nxN n bk i))
     rw[hw.len,nxt_nat hw.big hi,e2.b (nxN_lt hw.bk i)])
    refine⟨r,_,?_,⟨r2,r3⟩,fun k=>?_⟩
    ·rw[if_neg (by decide),if_pos (by decide),hw.len,r1];rfl
    ·simp only[Pr.sat];exact e3 (k+1)
   |F=>
    obtain⟨r,r1,r2⟩:=until_ex hw y2 e2
    refine⟨r,_,?_,r2,fun k=>?_⟩
    ·rw[if_neg (by decide),if_neg (by decide),if_pos (by decide),r1];rfl
    ·rw[walk_false hw.bk]
     simp only[Pr.sat,UntP]
     exact⟨fun⟨d,h,_⟩=>⟨d,(e3 _).1 h⟩,fun⟨d,h⟩=>⟨d,(e3 _).2 h,fun _ _=>trivial⟩⟩
   |G=>
    obtain⟨r,r1,r2⟩:=forever_ex hw e2
    refine⟨r,_,?_,r2,fun k=>?_⟩
    ·rw[if_neg (by decide),if_neg (by decide),if_neg (by decide),if_pos (by decide),r1];rfl
    ·rw[walk_true hw.bk]
     simp only[Pr.sat,UntP]
     constructor
     ·rintro(⟨d,h,_⟩|h)
      ·cases h
      ·exact fun d=>(e3 _).1 (h d)
     ·exact fun h=>.inr fun d=>(e3 _).2 (h d)
  ·obtain⟨l,g,e1,e2,e3⟩:=truth_sat hw x b h2 hl.1
   obtain⟨m,u,f1,f2,f3⟩:=truth_sat hw y c h3 hl.2
   simp only[truthF,truthL,e1,f1]
   unfold twoB
   rw[h1]
   have hun:∀{k},UntP (fun i=>u (posN n bk i)=true) (fun i=>g (posN n bk i)=true) k↔UntP (y.sat (lbAt ns fun k=>a (posN n bk k))) (x.sat (lbAt ns fun k=>a (posN n bk k))) k:=by
    intro k
    exact⟨fun⟨d,h,h'⟩=>⟨d,(f3 _).1 h,fun j hj=>(e3 _).1 (h' j hj)⟩,fun⟨d,h,h'⟩=>⟨d,(f3 _).2 h,fun j hj=>(e3 _).2 (h' j hj)⟩⟩
   cases o with
   |and=>
    obtain⟨r,r1,r2⟩:=each2 hw 105 and (fun i x y=>rfl) (by decide) e2 f2
    refine⟨r,_,?_,r2,fun k=>?_⟩
    ·rw[if_pos (by decide),r1];rfl
    ·simp only[Pr.sat, ←e3 k, ←f3 k,Bool.and_eq_true]
   |or=>
    obtain⟨r,r1,r2⟩:=each2 hw 106 or (fun i x y=>rfl) (by decide) e2 f2
    refine⟨r,_,?_,r2,fun k=>?_⟩
    ·rw[if_neg (by decide),if_pos (by decide),r1];rfl
    ·simp only[Pr.sat, ←e3 k, ←f3 k,Bool.or_eq_true]
   |imp=>
    obtain⟨r,r1,r2⟩:=each2 hw 107 (fun x y=> !x||y) (fun i x y=>rfl) (by decide) e2 f2
    refine⟨r,_,?_,r2,fun k=>?_⟩
    ·rw[if_neg (by decide),if_neg (by decide),if_pos (by decide),r1];rfl
    ·simp only[Pr.sat, ←e3 k, ←f3 k]
     cases g (posN n bk k)<;>cases u (posN n bk k)<;>simp
   |U=>
    obtain⟨r,r1,r2⟩:=until_ex hw e2 f2
    refine⟨r,_,?_,r2,fun k=>?_⟩
    ·rw[if_neg (by decide),if_neg (by decide),if_neg (by decide),if_pos (by decide),r1];rfl
    ·rw[walk_false hw.bk]
     exact hun
   |W=>
    obtain⟨r,r1,r2⟩:=until_ex hw e2 f2
    obtain⟨v,v1,v2⟩:=forever_ex hw e2
    obtain⟨z,z1,z2⟩:=each2 hw 108 or (fun i x y=>rfl) (by decide) r2 v2
    refine⟨z,_,?_,z2,fun k=>?_⟩
    ·rw[if_neg (by decide),if_neg (by decide),if_neg (by decide),if_neg (by decide),if_pos (by decide),r1,v1]
     simp only
     rw[z1];rfl
    ·rw[Bool.or_eq_true,walk_false hw.bk,walk_true hw.bk,hun]
     simp only[Pr.sat]
     constructor
     ·rintro(h|⟨d,h,_⟩|h)
      ·exact .inl h
      ·cases h
      ·exact .inr fun d=>(e3 _).1 (h d)
     ·rintro(h|h)
      ·exact .inl h
      ·exact .inr (.inr fun d=>(e3 _).2 (h d))
   |R=>
    obtain⟨r,r1,r2⟩:=rel_ex hw e2 f2
    refine⟨r,_,?_,r2,fun k=>?_⟩
    ·rw[if_neg (by decide),if_neg (by decide),if_neg (by decide),if_neg (by decide),if_neg (by decide),if_pos (by decide),r1];rfl
    ·rw[walk_true hw.bk]
     simp only[Pr.sat]
     constructor
     ·rintro(⟨d,h,h'⟩|h)
      ·have h:(u (posN n bk (k+d))&&g (posN n bk (k+d)))=true:=h
       rw[Bool.and_eq_true]at h
       exact .inl ⟨d,⟨(f3 _).1 h.1,(e3 _).1 h.2⟩,fun j hj=>(f3 _).1 (h' j hj)⟩
      ·exact .inr fun d=>(f3 _).1 (h d)
     ·rintro(⟨d,h,h'⟩|h)
      ·exact .inl ⟨d,by show(u (posN n bk (k+d))&&g (posN n bk (k+d)))=true;rw[Bool.and_eq_true];exact⟨(f3 _).2 h.1,(e3 _).2 h.2⟩,fun j hj=>(f3 _).2 (h' j hj)⟩
      ·exact .inr fun d=>(f3 _).2 (h d)
theorem truth_labs (bk:Int):∀(t:Pr) (f:Fm) (l:List Bool),f.abs=some t→truthF ns al bk f=some (.inr l)→t.labs (lbOk ns)
 |t,f,l,h,hl=>by
  rcases abs_inv h with⟨op,nm,p,rfl,h1⟩|⟨op,nm,b,p,o,x,rfl,h1,h2,rfl⟩|⟨op,nm,b,c,p,o,x,y,rfl,h1,h2,h3,rfl⟩
  ·rcases h1 with⟨h1,rfl⟩|⟨h1,rfl⟩|⟨h1,rfl⟩
   ·trivial
   ·trivial
   ·simp only[truthF,truthL]at hl
    rw[h1,if_neg (by decide),if_pos (by decide)]at hl
    unfold labelB at hl
    split at hl
    ·rename_i i hi
     split at hl
     ·cases hl
     ·exact⟨i,by omega,hi⟩
    ·cases hl
  ·simp only[truthF,truthL]at hl
   cases e:truthF ns al bk b with
   |none=>rw[e]at hl;cases hl
   |some r=>
    cases r with
    |inl v=>rw[e]at hl;cases hl
    |inr m=>exact truth_labs bk x b m h2 e
  ·simp only[truthF,truthL]at hl
   cases e:truthF ns al bk b with
   |none=>rw[e]at hl;cases hl
   |some r=>
    cases r with
    |inl v=>rw[e]at hl;cases hl
    |inr m=>
     cases e':truthF ns al bk c with
     |none=>rw[e,e']at hl;cases hl
     |some r=>
      cases r with
      |inl v=>rw[e,e']at hl;cases hl
      |inr m'=>exact⟨truth_labs bk x b m h2 e,truth_labs bk y c m' h3 e'⟩
theorem idxN_any (s:ByteArray):∀(ns:List D) (k:Nat),(∀d∈ns,∃u,d=.str u)→∃i,idxN s ns k=some i
 |[],k,h=>⟨_,rfl⟩
 |x::r,k,h=>by
  obtain⟨u,rfl⟩:=h x (.head _)
  simp only[idxN]
  split
  ·exact⟨_,rfl⟩
  ·exact idxN_any s r (k+1) fun d hd=>h d (.tail _ hd)
theorem truth_any (hw:Wd al n bk a) (hn:∀d∈ns,∃u,d=.str u):∀(t:Pr) (f:Fm),f.abs=some t→∃r,truthF ns al bk f=some r
 |t,f,h=>by
  by_cases hl:t.labs (lbOk ns)
  ·obtain⟨l,g,e,_⟩:=truth_sat hw t f h hl
   exact⟨_,e⟩
  rcases abs_inv h with⟨op,nm,p,rfl,h1⟩|⟨op,nm,b,p,o,x,rfl,h1,h2,rfl⟩|⟨op,nm,b,c,p,o,x,y,rfl,h1,h2,h3,rfl⟩
  ·rcases h1 with⟨h1,rfl⟩|⟨h1,rfl⟩|⟨h1,rfl⟩
   ·exact(hl trivial).elim
   ·exact(hl trivial).elim
   ·simp only[truthF,truthL]
    rw[h1,if_neg (by decide),if_pos (by decide)]
    obtain⟨i,hi⟩:=idxN_any nm ns 0 hn
    unfold labelB
    rw[hi]
    simp only
    by_cases h0:i<0
    ·rw[if_pos h0];exact⟨_,rfl⟩
    ·exact(hl ⟨i,by omega,hi⟩).elim
  ·obtain⟨r,e⟩:=truth_any hw hn x b h2
   simp only[truthF,truthL,e]
   cases r with
   |inl v=>exact⟨_,rfl⟩
   |inr m=>exact(hl (truth_labs bk x b m h2 e)).elim
  ·obtain⟨r,e⟩:=truth_any hw hn x b h2
   obtain⟨r',e'⟩:=truth_any hw hn y c h3
   simp only[truthF,truthL,e,e']
   cases r with
   |inl v=>exact⟨_,rfl⟩
   |inr m=>
    cases r' with
    |inl v=>exact⟨_,rfl⟩
    |inr m'=>exact(hl ⟨truth_labs bk x b m h2 e,truth_labs bk y c m' h3 e'⟩).elim
end
end Go.Sc
namespace Go.Sd
open Go Go.Cm Go.Proofs Go.Sc
def cNames {β:Type} (args:List TV) (k:List TV→List TV→Option β):Option β:=
 match args with
 |[]=>k [.own false 0 [.str ⟨#[97]⟩,.str ⟨#[98]⟩,.str ⟨#[103,111,97,108]⟩]] []
 |_=>none
noncomputable def WX:Env:=WV.add 21 io0 cNames
end Go.Sd
namespace Go.Sd
open Go Go.Cm Go.Proofs Go.Sc
set_option maxRecDepth 100000
namespace V21
theorem start {β:Type} (k:List TV→List TV→Option β):evalF Tryz.prog WV Tryz.f21 [] k=k [.own false 0 [D.str (ByteArray.mk #[97]),D.str (ByteArray.mk #[98]),D.str (ByteArray.mk #[103,111,97,108])]] []:=by kernel_rfl
end V21
namespace V22
theorem start {β:Type} (o:ByteArray) (op:ByteArray) (nm:ByteArray) (ks:List D) (p:Int) (k:List TV→List TV→Option β):evalF Tryz.prog WV Tryz.f22 [.d true 0 (D.str o),.d true 5 (D.ag [D.str op,D.str nm,D.sl 5 ks,D.int .i64 p])] k=k [.d true 5 (D.ag [D.str o,D.str (ByteArray.mk #[]),D.sl 5 [D.ag [D.str op,D.str nm,D.sl 5 ks,D.int .i64 p]],D.int .i64 0])] []:=by kernel_rfl
end V22
namespace V24
theorem start {β:Type} (o:ByteArray) (op:ByteArray) (nm:ByteArray) (ks:List D) (p:Int) (op2:ByteArray) (nm2:ByteArray) (ks2:List D) (p2:Int) (k:List TV→List TV→Option β):evalF Tryz.prog WV Tryz.f24 [.d true 0 (D.str o),.d true 5 (D.ag [D.str op,D.str nm,D.sl 5 ks,D.int .i64 p]),.d true 5 (D.ag [D.str op2,D.str nm2,D.sl 5 ks2,D.int .i64 p2])] k=k [.d true 5 (D.ag [D.str o,D.str (ByteArray.mk #[]),D.sl 5 [D.ag [D.str op,D.str nm,D.sl 5 ks,D.int .i64 p],D.ag [D.str op2,D.str nm2,D.sl 5 ks2,D.int .i64 p2]],D.int .i64 0])] []:=by kernel_rfl
end V24
namespace V20
noncomputable def X:Fx:=⟨Tryz.prog,WV,64,3⟩
def s0 (a:List D) (b:List D) (x16:Int) (x17:List D):S:=⟨Tm.mk 66 [(0,.d true 0 (D.sl 0 a)),(1,.d true 0 (D.sl 0 b)),(2,.d true 0 (D.int .i64 3)),(6,.rp 7 0),(7,.rp 8 0),(8,.d false 0 (D.int .i64 x16))],[(7,true,[.own false 0 [],.own false 0 []]),(8,true,[.own false 0 x17,.own false 0 []])]⟩
def s1 (b:List D) (x49:Int) (x50:List D) (x52:List D):S:=⟨Tm.mk 66 [(1,.d true 0 (D.sl 0 b)),(2,.d true 0 (D.int .i64 3)),(6,.rp 7 0),(7,.rp 8 0),(9,.d false 0 (D.int .i64 x49))],[(7,true,[.own false 0 [],.own false 0 []]),(8,true,[.own false 0 x52,.own false 0 x50])]⟩
def e0x0 (b:List D) (x35:List D):S:=⟨Tm.mk 66 [(1,.d true 0 (D.sl 0 b)),(2,.d true 0 (D.int .i64 3)),(6,.rp 7 0),(7,.rp 8 0)],[(7,true,[.own false 0 [],.own false 0 []]),(8,true,[.own false 0 x35,.own false 0 []])]⟩
def e1x2 (x86:List D) (x87:List D):S:=⟨Tm.mk 66 [(6,.rp 7 0),(7,.rp 8 0)],[(7,true,[.own false 0 [],.own false 0 []]),(8,true,[.own false 0 x86,.own false 0 x87])]⟩
noncomputable abbrev L0:S→Option (S ⊕ (Ex×S)):=roundK X [(0,198)] (sub [1,1,0,1,0,0] (body Tryz.f20))
noncomputable abbrev L1:S→Option (S ⊕ (Ex×S)):=roundK X [(2,192)] (sub [1,1,1,0,1,0,0] (body Tryz.f20))
theorem start {β:Type} (a:List D) (b:List D) (k:List TV→List TV→Option β):evalF Tryz.prog WV Tryz.f20 [.d true 0 (D.sl 0 a),.d true 0 (D.sl 0 b),.d true 0 (D.int .i64 3)] k=goLp X [(0,198)] (sub [1,1,0,1,0,0] (body Tryz.f20)) [Kf.block 0 198,Kf.seq [] (sub [1,1,1] (body Tryz.f20)) 64] (finK Tryz.prog Tryz.f20 [.d true 0 (D.sl 0 a),.d true 0 (D.sl 0 b),.d true 0 (D.int .i64 3)] k) (s0 a b (0:Int) []):=by kernel_rfl
theorem round0 (a:List D) (b:List D) (x16:Int) (x17:List D):roundK X [(0,198)] (sub [1,1,0,1,0,0] (body Tryz.f20)) (s0 a b x16 x17)=if decide (x16<(a.length:Int))=true then if decide (x16<8)=true then if 0≤x16 then match a[x16.toNat]? with
   |some x100=>match x100 with
    |D.int j101 m102=>if j101=IntKind.u8 then if x17.length+1≤34359738368 then some (Sum.inl (s0 a b (IntKind.wrap .i64 (x16+1)) (x17++[D.int .i64 (Int.tmod (IntKind.wrap .i64 m102) (8:Int))])))else none else none
    |x=>none
   |none=>none else none else some (Sum.inr (Ex.exit 0,e0x0 b x17))else some (Sum.inr (Ex.exit 0,e0x0 b x17)):=by kernel_rfl
theorem round1 (b:List D) (x49:Int) (x50:List D) (x52:List D):roundK X [(2,192)] (sub [1,1,1,0,1,0,0] (body Tryz.f20)) (s1 b x49 x50 x52)=if decide (x49<(b.length:Int))=true then if decide (x49<8)=true then if 0≤x49 then match b[x49.toNat]? with
   |some x113=>match x113 with
    |D.int j114 m115=>if j114=IntKind.u8 then if x50.length+1≤34359738368 then some (Sum.inl (s1 b (IntKind.wrap .i64 (x49+1)) (x50++[D.int .i64 (Int.tmod (IntKind.wrap .i64 m115) (8:Int))]) x52))else none else none
    |x=>none
   |none=>none else none else some (Sum.inr (Ex.exit 2,e1x2 x52 x50))else some (Sum.inr (Ex.exit 2,e1x2 x52 x50)):=by kernel_rfl
theorem behind0x0 {β:Type} (a:List D) (b:List D) (x35:List D) (k:List TV→List TV→Option β):applyK X (finK Tryz.prog Tryz.f20 [.d true 0 (D.sl 0 a),.d true 0 (D.sl 0 b),.d true 0 (D.int .i64 3)] k) [Kf.block 0 198,Kf.seq [] (sub [1,1,1] (body Tryz.f20)) 64] (Ex.exit 0) (e0x0 b x35)=goLp X [(2,192)] (sub [1,1,1,0,1,0,0] (body Tryz.f20)) [Kf.block 2 192,Kf.seq [] (sub [1,1,1,1] (body Tryz.f20)) 64] (finK Tryz.prog Tryz.f20 [.d true 0 (D.sl 0 a),.d true 0 (D.sl 0 b),.d true 0 (D.int .i64 3)] k) (s1 b (0:Int) [] x35):=by kernel_rfl
theorem behind1x2 {β:Type} (a:List D) (b:List D) (x86:List D) (x87:List D) (k:List TV→List TV→Option β):applyK X (finK Tryz.prog Tryz.f20 [.d true 0 (D.sl 0 a),.d true 0 (D.sl 0 b),.d true 0 (D.int .i64 3)] k) [Kf.block 2 192,Kf.seq [] (sub [1,1,1,1] (body Tryz.f20)) 64] (Ex.exit 2) (e1x2 x86 x87)=if((x87.length:Int)==0)=true then k [.d false 3 (D.ag [D.sl 0 x86,D.sl 0 [D.int .i64 0]])] []else k [.d false 3 (D.ag [D.sl 0 x86,D.sl 0 x87])] []:=by kernel_rfl
end V20
namespace V19
noncomputable def X:Fx:=⟨Tryz.prog,WX,4,1⟩
def j0 (op:ByteArray) (nm:ByteArray) (ks:List D) (p:Int) (e2238:Int):S:=⟨Tm.mk 15 [(0,.d true 5 (D.ag [D.str op,D.str nm,D.sl 5 ks,D.int .i64 p])),(1,.rp 2 0),(2,.d false 0 (D.bool false)),(3,.d false 0 (D.bool false)),(4,.d false 0 (D.ifc 84 (D.int .i64 e2238))),(5,.tup [.d false 0 (D.bool false),.d false 0 (D.ifc 84 (D.int .i64 e2238))]),(6,.ag [.d true 0 (D.str op),.d true 0 (D.str nm),.d true 0 (D.sl 5 ks),.d true 0 (D.int .i64 p)]),(7,.bf 1152921504606846983 0),(8,.own false 0 [D.int .i64 0]),(9,.ag [.nils 0,.bf 0 8]),(10,.tup [.d false 0 (D.bool false),.d false 0 (D.ifc 84 (D.int .i64 e2238))]),(11,.d false 0 (D.bool false)),(12,.d false 0 (D.ifc 84 (D.int .i64 e2238)))],[(2,true,[.d true 0 (D.str op),.d true 0 (D.str nm),.d true 0 (D.sl 5 ks),.d true 0 (D.int .i64 p)]),(1152921504606846983,true,[.own false 0 [D.str (ByteArray.mk #[97]),D.str (ByteArray.mk #[98]),D.str (ByteArray.mk #[103,111,97,108])]]),(1152921504606846986,true,[.d false 0 (D.bool false),.d false 0 (D.ifc 84 (D.int .i64 e2238))])]⟩
def j1 (op:ByteArray) (nm:ByteArray) (ks:List D) (p:Int) (b2339:Bool):S:=⟨Tm.mk 15 [(0,.d true 5 (D.ag [D.str op,D.str nm,D.sl 5 ks,D.int .i64 p])),(1,.rp 2 0),(2,.d false 0 (D.bool false)),(3,.d false 0 (D.bool b2339)),(4,.d false 0 D.nili),(5,.tup [.d false 0 (D.bool b2339),.d false 0 D.nili]),(6,.ag [.d true 0 (D.str op),.d true 0 (D.str nm),.d true 0 (D.sl 5 ks),.d true 0 (D.int .i64 p)]),(7,.bf 1152921504606846983 0),(8,.own false 0 [D.int .i64 0]),(9,.ag [.nils 0,.bf 0 8]),(10,.tup [.d false 0 (D.bool b2339),.d false 0 D.nili]),(11,.d false 0 (D.bool b2339)),(12,.d false 0 D.nili)],[(2,true,[.d true 0 (D.str op),.d true 0 (D.str nm),.d true 0 (D.sl 5 ks),.d true 0 (D.int .i64 p)]),(1152921504606846983,true,[.own false 0 [D.str (ByteArray.mk #[97]),D.str (ByteArray.mk #[98]),D.str (ByteArray.mk #[103,111,97,108])]]),(1152921504606846986,true,[.d false 0 (D.bool b2339),.d false 0 D.nili])]⟩
noncomputable abbrev J0 {β:Type} (op:ByteArray) (nm:ByteArray) (ks:List D) (p:Int) (k:List TV→List TV→Option β):S→Option β:=applyK X (finK Tryz.prog Tryz.f19 [.d true 5 (D.ag [D.str op,D.str nm,D.sl 5 ks,D.int .i64 p])] k) [Kf.seq [] (sub [1,1] (body Tryz.f19)) 4] Ex.norm
noncomputable abbrev J1 {β:Type} (op:ByteArray) (nm:ByteArray) (ks:List D) (p:Int) (k:List TV→List TV→Option β):S→Option β:=applyK X (finK Tryz.prog Tryz.f19 [.d true 5 (D.ag [D.str op,D.str nm,D.sl 5 ks,D.int .i64 p])] k) [Kf.seq [] (sub [1,1] (body Tryz.f19)) 4] Ex.norm
noncomputable def R0:Array Oper:=regOps (sub [1,0] (body Tryz.f19))
def B0:List Nat:=[0,0,0,4,15,31,63,63,127,511]
noncomputable def z0_0 (op:ByteArray) (nm:ByteArray) (ks:List D) (p:Int) (e8:Int):S:=⟨Tm.mk 15 [(0,.d true 5 (D.ag [D.str op,D.str nm,D.sl 5 ks,D.int .i64 p])),(1,.rp 2 0),(2,.d false 0 (D.bool false)),(6,.ag [.d true 0 (D.str op),.d true 0 (D.str nm),.d true 0 (D.sl 5 ks),.d true 0 (D.int .i64 p)]),(7,.bf 1152921504606846983 0),(8,.own false 0 [D.int .i64 0]),(9,.ag [.nils 0,.bf 0 8]),(10,.tup [.d false 0 (D.bool false),.d false 0 (D.ifc 84 (D.int .i64 e8))])],[(2,true,[.d true 0 (D.str op),.d true 0 (D.str nm),.d true 0 (D.sl 5 ks),.d true 0 (D.int .i64 p)]),(1152921504606846983,true,[.own false 0 [D.str (ByteArray.mk #[97]),D.str (ByteArray.mk #[98]),D.str (ByteArray.mk #[103,111,97,108])]]),(1152921504606846986,true,[.d false 0 (D.bool false),.d false 0 (D.ifc 84 (D.int .i64 e8))])]⟩
noncomputable def z0_1 (op:ByteArray) (nm:ByteArray) (ks:List D) (p:Int) (b14:Bool):S:=⟨Tm.mk 15 [(0,.d true 5 (D.ag [D.str op,D.str nm,D.sl 5 ks,D.int .i64 p])),(1,.rp 2 0),(2,.d false 0 (D.bool false)),(6,.ag [.d true 0 (D.str op),.d true 0 (D.str nm),.d true 0 (D.sl 5 ks),.d true 0 (D.int .i64 p)]),(7,.bf 1152921504606846983 0),(8,.own false 0 [D.int .i64 0]),(9,.ag [.nils 0,.bf 0 8]),(10,.tup [.d false 0 (D.bool b14),.d false 0 D.nili])],[(2,true,[.d true 0 (D.str op),.d true 0 (D.str nm),.d true 0 (D.sl 5 ks),.d true 0 (D.int .i64 p)]),(1152921504606846983,true,[.own false 0 [D.str (ByteArray.mk #[97]),D.str (ByteArray.mk #[98]),D.str (ByteArray.mk #[103,111,97,108])]]),(1152921504606846986,true,[.d false 0 (D.bool b14),.d false 0 D.nili])]⟩
noncomputable def z0_6 (op:ByteArray) (nm:ByteArray) (ks:List D) (p:Int):S:=⟨Tm.mk 15 [(0,.d true 5 (D.ag [D.str op,D.str nm,D.sl 5 ks,D.int .i64 p])),(1,.rp 2 0),(2,.d false 0 (D.bool false))],[(2,true,[.d true 0 (D.str op),.d true 0 (D.str nm),.d true 0 (D.sl 5 ks),.d true 0 (D.int .i64 p)])]⟩
noncomputable def y0_0 (op:ByteArray) (nm:ByteArray) (ks:List D) (p:Int) (e2254:Int):S:=⟨Tm.mk 15 [(0,.d true 5 (D.ag [D.str op,D.str nm,D.sl 5 ks,D.int .i64 p])),(1,.rp 2 0),(2,.d false 0 (D.bool false)),(3,.d false 0 (D.bool false)),(4,.d false 0 (D.ifc 84 (D.int .i64 e2254))),(5,.tup [.d false 0 (D.bool false),.d false 0 (D.ifc 84 (D.int .i64 e2254))]),(6,.ag [.d true 0 (D.str op),.d true 0 (D.str nm),.d true 0 (D.sl 5 ks),.d true 0 (D.int .i64 p)]),(7,.bf 1152921504606846983 0),(8,.own false 0 [D.int .i64 0]),(9,.ag [.nils 0,.bf 0 8]),(10,.tup [.d false 0 (D.bool false),.d false 0 (D.ifc 84 (D.int .i64 e2254))]),(11,.d false 0 (D.bool false)),(12,.d false 0 (D.ifc 84 (D.int .i64 e2254)))],[(2,true,[.d true 0 (D.str op),.d true 0 (D.str nm),.d true 0 (D.sl 5 ks),.d true 0 (D.int .i64 p)]),(1152921504606846983,true,[.own false 0 [D.str (ByteArray.mk #[97]),D.str (ByteArray.mk #[98]),D.str (ByteArray.mk #[103,111,97,108])]]),(1152921504606846986,true,[.d false 0 (D.bool false),.d false 0 (D.ifc 84 (D.int .i64 e2254))])]⟩
noncomputable def y0_1 (op:ByteArray) (nm:ByteArray) (ks:List D) (p:Int) (b2355:Bool):S:=⟨Tm.mk 15 [(0,.d true 5 (D.ag [D.str op,D.str nm,D.sl 5 ks,D.int .i64 p])),(1,.rp 2 0),(2,.d false 0 (D.bool false)),(3,.d false 0 (D.bool b2355)),(4,.d false 0 D.nili),(5,.tup [.d false 0 (D.bool b2355),.d false 0 D.nili]),(6,.ag [.d true 0 (D.str op),.d true 0 (D.str nm),.d true 0 (D.sl 5 ks),.d true 0 (D.int .i64 p)]),(7,.bf 1152921504606846983 0),(8,.own false 0 [D.int .i64 0]),(9,.ag [.nils 0,.bf 0 8]),(10,.tup [.d false 0 (D.bool b2355),.d false 0 D.nili]),(11,.d false 0 (D.bool b2355)),(12,.d false 0 D.nili)],[(2,true,[.d true 0 (D.str op),.d true 0 (D.str nm),.d true 0 (D.sl 5 ks),.d true 0 (D.int .i64 p)]),(1152921504606846983,true,[.own false 0 [D.str (ByteArray.mk #[97]),D.str (ByteArray.mk #[98]),D.str (ByteArray.mk #[103,111,97,108])]]),(1152921504606846986,true,[.d false 0 (D.bool b2355),.d false 0 D.nili])]⟩
noncomputable def u0_0 (op:ByteArray) (nm:ByteArray) (ks:List D) (p:Int):List (Nat×V):=[(0,.d true 5 (D.ag [D.str op,D.str nm,D.sl 5 ks,D.int .i64 p])),(1,.rp 2 0),(2,.d false 0 (D.bool false)),(6,.ag [.d true 0 (D.str op),.d true 0 (D.str nm),.d true 0 (D.sl 5 ks),.d true 0 (D.int .i64 p)]),(7,.bf 1152921504606846983 0),(8,.own false 0 [D.int .i64 0]),(9,.ag [.nils 0,.bf 0 8])]
noncomputable def v0_0 (op:ByteArray) (nm:ByteArray) (ks:List D) (p:Int):List (Nat×Bool×List V):=[(2,true,[.d true 0 (D.str op),.d true 0 (D.str nm),.d true 0 (D.sl 5 ks),.d true 0 (D.int .i64 p)]),(1152921504606846983,true,[.own false 0 [D.str (ByteArray.mk #[97]),D.str (ByteArray.mk #[98]),D.str (ByteArray.mk #[103,111,97,108])]])]
noncomputable def z0_2 (op:ByteArray) (nm:ByteArray) (ks:List D) (p:Int):S:=⟨Tm.mk 15 (selT (u0_0 op nm ks p) 1365 []),selR (v0_0 op nm ks p) 5 []⟩
noncomputable def z0_3 (op:ByteArray) (nm:ByteArray) (ks:List D) (p:Int):S:=⟨Tm.mk 15 (selT (u0_0 op nm ks p) 341 []),selR (v0_0 op nm ks p) 5 []⟩
noncomputable def z0_4 (op:ByteArray) (nm:ByteArray) (ks:List D) (p:Int):S:=⟨Tm.mk 15 (selT (u0_0 op nm ks p) 5461 []),selR (v0_0 op nm ks p) 5 []⟩
noncomputable def z0_5 (op:ByteArray) (nm:ByteArray) (ks:List D) (p:Int):S:=⟨Tm.mk 15 (selT (u0_0 op nm ks p) 1109 []),selR (v0_0 op nm ks p) 1 []⟩
def a0_0:List Nat:=[0,1,2,3,4]
def a0_4:List Nat:=[0,1,2,3]
  section
  variable {β:Type} (op:ByteArray) (nm:ByteArray) (ks:List D) (p:Int) (e8:Int) (b14:Bool) (kont1:S→Option β)
theorem n0_0:regA Tryz.prog WX R0 B0 6 a0_0 (z0_0 op nm ks p e8) kont1=kont1 (y0_0 op nm ks p e8):=by
   kernel_rfl
theorem n0_1:regA Tryz.prog WX R0 B0 6 a0_0 (z0_1 op nm ks p b14) kont1=kont1 (y0_1 op nm ks p b14):=by
   kernel_rfl
noncomputable def t0_0:Option β:=match ofD (D.ag [D.str op,D.str nm,D.sl 5 ks,D.int .i64 p])with
   |some f21=>if bd none f21∧3≤34359738368∧1≤34359738368 then match truthsT Tryz.prog f21 [D.str (ByteArray.mk #[97]),D.str (ByteArray.mk #[98]),D.str (ByteArray.mk #[103,111,97,108])] [] [D.int .i64 0]with
    |some (Sum.inl e22)=>kont1 (y0_0 op nm ks p e22)
    |some (Sum.inr (b23::tail24))=>kont1 (y0_1 op nm ks p b23)
    |x=>none else none
   |none=>none
theorem n0_2:regA Tryz.prog WX R0 B0 8 [0,1,2] (z0_2 op nm ks p) kont1=t0_0 op nm ks p kont1:=by
   refine(show _=match ofD (D.ag [D.str op,D.str nm,D.sl 5 ks,D.int .i64 p])with
  |some f7=>
   if bd none f7∧3≤34359738368∧1≤34359738368 then
    match
     truthsT Tryz.prog f7 [D.str (ByteArray.mk #[97]),D.str (ByteArray.mk #[98]),D.str (ByteArray.mk #[103,111,97,108])] []
      [D.int .i64 0]with
    |some (Sum.inl e8)=>regA Tryz.prog WX R0 B0 6 a0_0 (z0_0 op nm ks p e8) kont1
    |some (Sum.inr (b14::tail15))=>regA Tryz.prog WX R0 B0 6 a0_0 (z0_1 op nm ks p b14) kont1
    |x=>none
   else none
  |none=>none from by kernel_rfl).trans ?_
   first|(simp only[n0_0,n0_1];done)|(simp only[n0_0,n0_1];rfl)|simp only[n0_0,n0_1,t0_0]
theorem n0_3:regA Tryz.prog WX R0 B0 9 [0,1] (z0_3 op nm ks p) kont1=t0_0 op nm ks p kont1:=by
   refine(show _=regA Tryz.prog WX R0 B0 8 [0,1,2] (z0_2 op nm ks p) kont1 from by kernel_rfl).trans ?_
   first|(simp only[n0_2];done)|(simp only[n0_2];rfl)|simp only[n0_2,t0_0]
theorem n0_4:regA Tryz.prog WX R0 B0 7 a0_4 (z0_4 op nm ks p) kont1=t0_0 op nm ks p kont1:=by
   refine(show _=match ofD (D.ag [D.str op,D.str nm,D.sl 5 ks,D.int .i64 p])with
  |some f29=>
   if bd none f29∧3≤34359738368∧1≤34359738368 then
    match
     truthsT Tryz.prog f29 [D.str (ByteArray.mk #[97]),D.str (ByteArray.mk #[98]),D.str (ByteArray.mk #[103,111,97,108])] []
      [D.int .i64 0]with
    |some (Sum.inl e30)=>regA Tryz.prog WX R0 B0 6 a0_0 (z0_0 op nm ks p e30) kont1
    |some (Sum.inr (b31::tail32))=>regA Tryz.prog WX R0 B0 6 a0_0 (z0_1 op nm ks p b31) kont1
    |x=>none
   else none
  |none=>none from by kernel_rfl).trans ?_
   first|(simp only[n0_0,n0_1];done)|(simp only[n0_0,n0_1];rfl)|simp only[n0_0,n0_1,t0_0]
theorem n0_5:regA Tryz.prog WX R0 B0 9 [0,2] (z0_5 op nm ks p) kont1=t0_0 op nm ks p kont1:=by
   refine(show _=regA Tryz.prog WX R0 B0 7 a0_4 (z0_4 op nm ks p) kont1 from by kernel_rfl).trans ?_
   first|(simp only[n0_4];done)|(simp only[n0_4];rfl)|simp only[n0_4,t0_0]
theorem n0_6:regA Tryz.prog WX R0 B0 11 [] (z0_6 op nm ks p) kont1=t0_0 op nm ks p kont1:=by
   refine(show _=meet (regA Tryz.prog WX R0 B0 9 [0,1] (z0_3 op nm ks p) kont1) (regA Tryz.prog WX R0 B0 9 [0,2] (z0_5 op nm ks p) kont1)from by kernel_rfl).trans ?_
   first|(simp only[n0_3,n0_5,Go.Sc.meet_self];done)|(simp only[n0_3,n0_5,Go.Sc.meet_self];rfl)|simp only[n0_3,n0_5,Go.Sc.meet_self,t0_0]
end
theorem reg0 {β:Type} (op:ByteArray) (nm:ByteArray) (ks:List D) (p:Int) (kont1:S→Option β):regH Tryz.prog WX R0 (z0_6 op nm ks p) kont1=match ofD (D.ag [D.str op,D.str nm,D.sl 5 ks,D.int .i64 p])with
   |some f21=>if bd none f21∧3≤34359738368∧1≤34359738368 then match truthsT Tryz.prog f21 [D.str (ByteArray.mk #[97]),D.str (ByteArray.mk #[98]),D.str (ByteArray.mk #[103,111,97,108])] [] [D.int .i64 0]with
    |some (Sum.inl e22)=>kont1 (y0_0 op nm ks p e22)
    |some (Sum.inr (b23::tail24))=>kont1 (y0_1 op nm ks p b23)
    |x=>none else none
   |none=>none:=(show _=regA Tryz.prog WX R0 B0 11 [] (z0_6 op nm ks p) kont1 from by kernel_rfl).trans (n0_6 ..)
theorem start {β:Type} (op:ByteArray) (nm:ByteArray) (ks:List D) (p:Int) (k:List TV→List TV→Option β):evalF Tryz.prog WX Tryz.f19 [.d true 5 (D.ag [D.str op,D.str nm,D.sl 5 ks,D.int .i64 p])] k=regH Tryz.prog WX R0 (z0_6 op nm ks p) fun s50 ↦ J0 op nm ks p k s50:=by kernel_rfl
theorem j0_eq {β:Type} (op:ByteArray) (nm:ByteArray) (ks:List D) (p:Int) (e2238:Int) (k:List TV→List TV→Option β):J0 op nm ks p k (j0 op nm ks p e2238)=k [.d false 0 (D.bool true)] []:=by kernel_rfl
theorem j1_eq {β:Type} (op:ByteArray) (nm:ByteArray) (ks:List D) (p:Int) (b2339:Bool) (k:List TV→List TV→Option β):J0 op nm ks p k (j1 op nm ks p b2339)=k [.d false 0 (D.bool false)] []:=by kernel_rfl
end V19
end Go.Sd
namespace Go.Sc
open Go Go.Cm
def lettS:List D→Option (List D)
 |[]=>some []
 |x::r=>match x with
  |.int .u8 m=>match lettS r with
   |some l=>some (.int .i64 (Int.tmod (IntKind.wrap .i64 m) 8)::l)
   |none=>none
  |_=>none
def loopOf (l:List D):List D:=match l with|[]=>[.int .i64 0]|_=>l
def namesD:List D:=[.str ⟨#[97]⟩,.str ⟨#[98]⟩,.str ⟨#[103,111,97,108]⟩]
noncomputable def holdN (P:Program) (ns:List D) (f:Fm) (st lp:List D):Option (Int ⊕ Bool):=
 match truthsT P f ns st lp with
 |some (.inl e)=>some (.inl e)
 |some (.inr (b::_))=>some (.inr b)
 |_=>none
end Go.Sc
namespace Go.Sd
open Go Go.Cm Go.Proofs Go.Sc
def cTrue {β:Type} (args:List TV) (k:List TV→List TV→Option β):Option β:=
 match args with
 |[]=>k [.d false 0 (.bool true)] []
 |_=>none
def cWordS {β:Type} (args:List TV) (k:List TV→List TV→Option β):Option β:=
 match args with
 |[.d true 0 (.sl 0 a),.d true 0 (.sl 0 b),.d true 0 (.int .i64 3)]=>match lettS (a.take 8),lettS (b.take 8)with
  |some x,some y=>k [.d false 3 (.ag [.sl 0 x,.sl 0 (loopOf y)])] []
  |_,_=>none
 |_=>none
noncomputable def cHoldN {β:Type} (args:List TV) (k:List TV→List TV→Option β):Option β:=
 match args with
 |[.d true 5 x,.d true 0 (.sl 0 ns),.d true 3 (.ag [.sl 0 st,.sl 0 lp])]=>match ofD x with
  |some f=>chkK (bd none f∧ns.length≤big∧st.length+lp.length≤big) (match holdN Tryz.prog ns f st lp with
   |some (.inl e)=>k [.d false 0 (.bool false),.d false 0 (.ifc 84 (.int .i64 e))] []
   |some (.inr b)=>k [.d false 0 (.bool b),.d false 0 .nili] []
   |none=>none)
  |none=>none
 |_=>none
noncomputable def cOtherN {β:Type} (args:List TV) (k:List TV→List TV→Option β):Option β:=
 match args with
 |[.d true 5 x]=>match ofD x with
  |some f=>chkK (bd none f) (match holdN Tryz.prog namesD f [] [.int .i64 0]with
   |some (.inl e)=>k [.d false 0 (.bool true)] []
   |some (.inr b)=>k [.d false 0 (.bool false)] []
   |none=>none)
  |none=>none
 |_=>none
def cFm1 {β:Type} (args:List TV) (k:List TV→List TV→Option β):Option β:=
 match args with
 |[.d true 0 (.str o),.d true 5 x]=>match ofD x with
  |some f=>k [.d true 5 (fmD o ⟨#[]⟩ [f.d] 0)] []
  |none=>none
 |_=>none
def cFmNot {β:Type} (args:List TV) (k:List TV→List TV→Option β):Option β:=
 match args with
 |[.d true 5 x]=>match ofD x with
  |some f=>k [.d true 5 (fmD ⟨#[33]⟩ ⟨#[]⟩ [f.d] 0)] []
  |none=>none
 |_=>none
def cFm2 {β:Type} (args:List TV) (k:List TV→List TV→Option β):Option β:=
 match args with
 |[.d true 0 (.str o),.d true 5 x,.d true 5 y]=>match ofD x,ofD y with
  |some f,some g=>k [.d true 5 (fmD o ⟨#[]⟩ [f.d,g.d] 0)] []
  |_,_=>none
 |_=>none
noncomputable def WL:Env:=((((((((Env.none.add 9 io0 cTrue).add 10 io0 cParse).add 18 io0 cHoldN).add 19 io0 cOtherN).add 20 io0 cWordS).add 21 io0 cNames).add 22 io0 cFm1).add 23 io0 cFmNot).add 24 io0 cFm2
end Go.Sd
set_option maxRecDepth 100000
namespace Go.Sd
open Go Go.Cm Go.Proofs Go.Sc
theorem envwx:EnvOk glS Tryz.prog WX:=envwv.fn mixed Tryz.func21 (by kernel_rfl) fun β args k r hr=>by
 unfold cNames at hr
 split at hr
 ·exact⟨_,_,hr,fun q=>V21.start q⟩
 ·cases hr
theorem vcFm1:VC 22 cFm1:=by
 intro β args k r hr
 change cFm1 args k=some r at hr
 unfold cFm1 at hr
 split at hr
 ·rename_i o x
  split at hr
  ·rename_i f hf
   rw[d_ofD _ _ hf]
   cases f with
   |mk op nm ks p=>
    simp only[Fm.d]at hr ⊢
    exact⟨_,_,hr,valid_of envwv mixed Tryz.func22 (by kernel_rfl) (V22.start o op nm (Fm.dL ks) p _)⟩
  ·cases hr
 ·cases hr
theorem vcFm2:VC 24 cFm2:=by
 intro β args k r hr
 change cFm2 args k=some r at hr
 unfold cFm2 at hr
 split at hr
 ·rename_i o x y
  split at hr
  ·rename_i f g hf hg
   rw[d_ofD _ _ hf,d_ofD _ _ hg]
   cases f with
   |mk op nm ks p=>
    cases g with
    |mk op2 nm2 ks2 p2=>
     simp only[Fm.d]at hr ⊢
     exact⟨_,_,hr,valid_of envwv mixed Tryz.func24 (by kernel_rfl) (V24.start o op nm (Fm.dL ks) p op2 nm2 (Fm.dL ks2) p2 _)⟩
  ·cases hr
 ·cases hr
theorem word_a {a b:List D}:∀(r:List D) (i:Nat) (acc x:List D),(a.take 8).drop i=r→acc.length=i→i≤8→i≤a.length→lettS r=some x→
  Lp V20.L0 (V20.s0 a b i acc)=some (.exit 0,V20.e0x0 b (acc++x))
 |[],i,acc,x,hd,ha,h8,hle,h=>by
  simp only[lettS,Option.some.injEq]at h
  subst h
  have hr:=V20.round0 a b i acc
  have hlen:(a.take 8).length≤i:=by have:=congrArg List.length hd;simp at this;rw[List.length_take];omega
  rw[List.length_take]at hlen
  rw[List.append_nil]
  by_cases h1:(i:Int)<(a.length:Int)
  ·rw[if_pos (by simpa using h1),if_neg (by simp;omega)]at hr
   exact Lp_exit hr
  ·rw[if_neg (by simpa using h1)]at hr
   exact Lp_exit hr
 |d::r,i,acc,x,hd,ha,h8,hle,h=>by
  have hr:=V20.round0 a b i acc
  have hlt:i<(a.take 8).length:=by
   rcases Nat.lt_or_ge i (a.take 8).length with h|h
   ·exact h
   ·rw[List.drop_eq_nil_of_le h]at hd;cases hd
  have hc:=List.drop_eq_getElem_cons hlt
  rw[hd]at hc
  have h2:=hlt
  rw[List.length_take]at h2
  have hx:a[i]? =some d:=by
   have e:(a.take 8)[i]? =some d:=by rw[List.getElem?_eq_getElem hlt, ←(List.cons.inj hc).1]
   rw[List.getElem?_take]at e
   split at e
   ·exact e
   ·cases e
  rw[if_pos (by simp;omega),if_pos (by simp;omega),if_pos (by omega),Int.toNat_natCast,hx]at hr
  simp only[lettS]at h
  split at h
  ·rename_i m
   split at h
   ·rename_i l hl
    cases h
    simp only[if_true]at hr
    rw[if_pos (by omega),wrap_id (by omega) (by omega)]at hr
    have ih:=word_a (a:=a) (b:=b) r (i+1) (acc++[.int .i64 (Int.tmod (IntKind.wrap .i64 m) 8)]) l (List.cons.inj hc).2.symm (by simp[ha]) (by omega) (by omega) hl
    rw[List.append_assoc]at ih
    exact Lp_step hr ih
   ·cases h
  ·cases h
theorem word_b {b w:List D}:∀(r:List D) (i:Nat) (acc x:List D),(b.take 8).drop i=r→acc.length=i→i≤8→i≤b.length→lettS r=some x→
  Lp V20.L1 (V20.s1 b i acc w)=some (.exit 2,V20.e1x2 w (acc++x))
 |[],i,acc,x,hd,ha,h8,hle,h=>by
  simp only[lettS,Option.some.injEq]at h
  subst h
  have hr:=V20.round1 b i acc w
  have hlen:(b.take 8).length≤i:=by have:=congrArg List.length hd;simp at this;rw[List.length_take];omega
  rw[List.length_take]at hlen
  rw[List.append_nil]
  by_cases h1:(i:Int)<(b.length:Int)
  ·rw[if_pos (by simpa using h1),if_neg (by simp;omega)]at hr
   exact Lp_exit hr
  ·rw[if_neg (by simpa using h1)]at hr
   exact Lp_exit hr
 |d::r,i,acc,x,hd,ha,h8,hle,h=>by
  have hr:=V20.round1 b i acc w
  have hlt:i<(b.take 8).length:=by
   rcases Nat.lt_or_ge i (b.take 8).length with h|h
   ·exact h
   ·rw[List.drop_eq_nil_of_le h]at hd;cases hd
  have hc:=List.drop_eq_getElem_cons hlt
  rw[hd]at hc
  have h2:=hlt
  rw[List.length_take]at h2
  have hx:b[i]? =some d:=by
   have e:(b.take 8)[i]? =some d:=by rw[List.getElem?_eq_getElem hlt, ←(List.cons.inj hc).1]
   rw[List.getElem?_take]at e
   split at e
   ·exact e
   ·cases e
  rw[if_pos (by simp;omega),if_pos (by simp;omega),if_pos (by omega),Int.toNat_natCast,hx]at hr
  simp only[lettS]at h
  split at h
  ·rename_i m
   split at h
   ·rename_i l hl
    cases h
    simp only[if_true]at hr
    rw[if_pos (by omega),wrap_id (by omega) (by omega)]at hr
    have ih:=word_b (b:=b) (w:=w) r (i+1) (acc++[.int .i64 (Int.tmod (IntKind.wrap .i64 m) 8)]) l (List.cons.inj hc).2.symm (by simp[ha]) (by omega) (by omega) hl
    rw[List.append_assoc]at ih
    exact Lp_step hr ih
   ·cases h
  ·cases h
theorem vcWord:VC 20 cWordS:=by
 intro β args k r hr
 change cWordS args k=some r at hr
 unfold cWordS at hr
 split at hr
 ·rename_i a b
  split at hr
  ·rename_i x y hx hy
   refine⟨_,_,hr,valid_of envwv mixed Tryz.func20 (by kernel_rfl) ?_⟩
   have h1:Lp V20.L0 (V20.s0 a b 0 [])=_:=word_a (a:=a) (b:=b) (a.take 8) 0 [] x rfl rfl (by omega) (by omega) hx
   have h2:Lp V20.L1 (V20.s1 b 0 [] x)=_:=word_b (b:=b) (w:=x) (b.take 8) 0 [] y rfl rfl (by omega) (by omega) hy
   rw[V20.start,goLp_of h1,List.nil_append,V20.behind0x0,goLp_of h2,List.nil_append,V20.behind1x2]
   cases y with
   |nil=>rfl
   |cons d l=>rfl
  ·cases hr
 ·cases hr
theorem vcHoldN:VC 18 cHoldN:=by
 intro β args k r hr
 change cHoldN args k=some r at hr
 have hbig:big=34359738368:=rfl
 unfold cHoldN at hr
 split at hr
 ·rename_i x ns st lp
  split at hr
  ·rename_i f hf
   obtain⟨⟨h0,h2,h1⟩,hr⟩:=chkK_ok hr
   suffices hh:cHoldsT [.d true 5 x,.d true 0 (.sl 0 ns),.d true 3 (.ag [.sl 0 st,.sl 0 lp])] k=some r from envwv β 18 _ k r hh
   unfold cHoldsT
   simp only[hf]
   unfold chkK
   rw[if_pos ⟨h0,h2,h1⟩]
   unfold holdN at hr
   split at hr
   ·rename_i e he
    split at he
    ·rename_i e' he'
     cases he
     first|(simp only[he'];exact hr)|exact hr
    ·cases he
    ·cases he
   ·rename_i b he
    split at he
    ·cases he
    ·rename_i b' l he'
     cases he
     first|(simp only[he'];exact hr)|exact hr
    ·cases he
   ·cases hr
  ·cases hr
 ·cases hr
theorem vcOther:VC 19 cOtherN:=by
 intro β args k r hr
 change cOtherN args k=some r at hr
 unfold cOtherN at hr
 split at hr
 ·rename_i x
  split at hr
  ·rename_i f hf
   obtain⟨h0,hr⟩:=chkK_ok hr
   rw[d_ofD _ _ hf]
   cases f with
   |mk op nm ks p=>
    have hof:=ofD_d (.mk op nm ks p)
    simp only[Fm.d]at hof ⊢
    have ha:bd none (.mk op nm ks p)∧3≤34359738368∧1≤34359738368:=⟨h0,by decide,by decide⟩
    have st0:∀{γ:Type} (q:List TV→List TV→Option γ),_=_:=fun q=>(V19.start op nm (Fm.dL ks) p q).trans (V19.reg0 op nm (Fm.dL ks) p _)
    have hJ0:∀{γ:Type} (q:List TV→List TV→Option γ) (e:Int),V19.J0 op nm (Fm.dL ks) p q (V19.y0_0 op nm (Fm.dL ks) p e)=q [.d false 0 (.bool true)] []:=fun q e=>V19.j0_eq op nm (Fm.dL ks) p e q
    have hJ1:∀{γ:Type} (q:List TV→List TV→Option γ) (b:Bool),V19.J0 op nm (Fm.dL ks) p q (V19.y0_1 op nm (Fm.dL ks) p b)=q [.d false 0 (.bool false)] []:=fun q b=>V19.j1_eq op nm (Fm.dL ks) p b q
    simp only[hof,if_pos ha,hJ0,hJ1]at st0
    unfold holdN namesD at hr
    split at hr
    ·rename_i e he
     split at he
     ·rename_i e' he'
      cases he
      simp only[he']at st0
      exact⟨_,_,hr,valid_of envwx mixed Tryz.func19 (by kernel_rfl) (st0 _)⟩
     ·cases he
     ·cases he
    ·rename_i b he
     split at he
     ·cases he
     ·rename_i b' l he'
      cases he
      simp only[he']at st0
      exact⟨_,_,hr,valid_of envwx mixed Tryz.func19 (by kernel_rfl) (st0 _)⟩
     ·cases he
    ·cases hr
  ·cases hr
 ·cases hr
end Go.Sd
namespace Go.Sd
open Go Go.Cm Go.Proofs Go.Sc
def WN:Env:=Env.none.add 22 io0 cFm1
theorem envwn:EnvOk glS Tryz.prog WN:=EnvOk.none.add vcFm1
end Go.Sd
namespace Go.Sd
open Go Go.Cm Go.Proofs Go.Sc
set_option maxRecDepth 100000
namespace V23
noncomputable def X:Fx:=⟨Tryz.prog,WN,4,1⟩
theorem start {β:Type} (op:ByteArray) (nm:ByteArray) (ks:List D) (p:Int) (k:List TV→List TV→Option β):evalF Tryz.prog WN Tryz.f23 [.d true 5 (D.ag [D.str op,D.str nm,D.sl 5 ks,D.int .i64 p])] k=match ofD (D.ag [D.str op,D.str nm,D.sl 5 ks,D.int .i64 p])with
   |some f2=>k [.d true 5 (D.ag [D.str (ByteArray.mk #[33]),D.str (ByteArray.mk #[]),D.sl 5 [Fm.d f2],D.int .i64 0])] []
   |none=>none:=by kernel_rfl
end V23
end Go.Sd
set_option maxRecDepth 100000
namespace Go.Sd
open Go Go.Cm Go.Proofs Go.Sc
theorem vcFmNot:VC 23 cFmNot:=by
 intro β args k r hr
 change cFmNot args k=some r at hr
 unfold cFmNot at hr
 split at hr
 ·rename_i x
  split at hr
  ·rename_i f hf
   rw[d_ofD _ _ hf]
   cases f with
   |mk op nm ks p=>
    have hof:=ofD_d (.mk op nm ks p)
    simp only[Fm.d]at hr hof ⊢
    refine⟨_,_,hr,valid_of envwn mixed Tryz.func23 (by kernel_rfl) ?_⟩
    rw[V23.start]
    simp only[hof,Fm.d]
    rfl
  ·cases hr
 ·cases hr
end Go.Sd
namespace Go.Sc
open Go Go.Cm
noncomputable def holdX (P:Program) (x:D) (ns st lp:List D):Option Bool:=
 match ofD x with
 |some f=>if bd none f∧ns.length≤big∧st.length+lp.length≤big then(match holdN P ns f st lp with|some (.inr b)=>some b|_=>none)else none
 |none=>none
noncomputable def otherX (P:Program) (x:D):Option Bool:=
 match ofD x with
 |some f=>if bd none f then(match holdN P namesD f [] [.int .i64 0]with|some (.inl _)=>some true|some (.inr _)=>some false|none=>none)else none
 |none=>none
def isFm (x:D):Bool:=(ofD x).isSome
end Go.Sc
namespace Go.Sd
open Go Go.Cm Go.Proofs Go.Sc
noncomputable def cHoldX {β:Type} (args:List TV) (k:List TV→List TV→Option β):Option β:=
 match args with
 |[.d true 5 x,.d true 0 (.sl 0 ns),.d true 3 (.ag [.sl 0 st,.sl 0 lp])]=>match holdX Tryz.prog x ns st lp with
  |some b=>k [.d false 0 (.bool b),.d false 0 .nili] []
  |none=>none
 |_=>none
noncomputable def cOtherX {β:Type} (args:List TV) (k:List TV→List TV→Option β):Option β:=
 match args with
 |[.d true 5 x]=>match otherX Tryz.prog x with
  |some b=>k [.d false 0 (.bool b)] []
  |none=>none
 |_=>none
def cFm1X {β:Type} (args:List TV) (k:List TV→List TV→Option β):Option β:=
 match args with
 |[.d true 0 (.str o),.d true 5 x]=>if isFm x=true then k [.d true 5 (fmD o ⟨#[]⟩ [x] 0)] []else none
 |_=>none
def cFmNotX {β:Type} (args:List TV) (k:List TV→List TV→Option β):Option β:=
 match args with
 |[.d true 5 x]=>if isFm x=true then k [.d true 5 (fmD ⟨#[33]⟩ ⟨#[]⟩ [x] 0)] []else none
 |_=>none
def cFm2X {β:Type} (args:List TV) (k:List TV→List TV→Option β):Option β:=
 match args with
 |[.d true 0 (.str o),.d true 5 x,.d true 5 y]=>if isFm x=true then(if isFm y=true then k [.d true 5 (fmD o ⟨#[]⟩ [x,y] 0)] []else none)else none
 |_=>none
theorem vcHoldX:VC 18 cHoldX:=by
 intro β args k r hr
 change cHoldX args k=some r at hr
 unfold cHoldX at hr
 split at hr
 ·rename_i x ns st lp
  split at hr
  ·rename_i b hb
   refine vcHoldN β _ k r ?_
   show cHoldN [.d true 5 x,.d true 0 (.sl 0 ns),.d true 3 (.ag [.sl 0 st,.sl 0 lp])] k=some r
   unfold holdX at hb
   split at hb
   ·rename_i f hf
    split at hb
    ·rename_i hc
     unfold cHoldN chkK
     simp only[hf]
     rw[if_pos hc]
     split at hb
     ·rename_i b' he
      cases hb
      first|(simp only[he];exact hr)|exact hr
     ·cases hb
    ·cases hb
   ·cases hb
  ·cases hr
 ·cases hr
theorem vcOtherX:VC 19 cOtherX:=by
 intro β args k r hr
 change cOtherX args k=some r at hr
 unfold cOtherX at hr
 split at hr
 ·rename_i x
  split at hr
  ·rename_i b hb
   refine vcOther β _ k r ?_
   show cOtherN [.d true 5 x] k=some r
   unfold otherX at hb
   split at hb
   ·rename_i f hf
    split at hb
    ·rename_i hc
     unfold cOtherN chkK
     simp only[hf]
     rw[if_pos hc]
     split at hb
     ·rename_i e he
      cases hb
      first|(simp only[he];exact hr)|exact hr
     ·rename_i e he
      cases hb
      first|(simp only[he];exact hr)|exact hr
     ·cases hb
    ·cases hb
   ·cases hb
  ·cases hr
 ·cases hr
theorem isFm_d {x:D} (h:isFm x=true):∃f,ofD x=some f∧x=f.d:=by
 unfold isFm at h
 cases e:ofD x with
 |none=>rw[e]at h;cases h
 |some f=>exact⟨f,rfl,d_ofD _ _ e⟩
theorem vcFm1X:VC 22 cFm1X:=by
 intro β args k r hr
 change cFm1X args k=some r at hr
 unfold cFm1X at hr
 split at hr
 ·rename_i o x
  split at hr
  ·rename_i h
   obtain⟨f,hf,e⟩:=isFm_d h
   refine vcFm1 β _ k r ?_
   show cFm1 [.d true 0 (.str o),.d true 5 x] k=some r
   unfold cFm1
   simp only[hf]
   rw[←e];exact hr
  ·cases hr
 ·cases hr
theorem vcFmNotX:VC 23 cFmNotX:=by
 intro β args k r hr
 change cFmNotX args k=some r at hr
 unfold cFmNotX at hr
 split at hr
 ·rename_i x
  split at hr
  ·rename_i h
   obtain⟨f,hf,e⟩:=isFm_d h
   refine vcFmNot β _ k r ?_
   show cFmNot [.d true 5 x] k=some r
   unfold cFmNot
   simp only[hf]
   rw[←e];exact hr
  ·cases hr
 ·cases hr
theorem vcFm2X:VC 24 cFm2X:=by
 intro β args k r hr
 change cFm2X args k=some r at hr
 unfold cFm2X at hr
 split at hr
 ·rename_i o x y
  split at hr
  ·rename_i h
   split at hr
   ·rename_i h'
    obtain⟨f,hf,e⟩:=isFm_d h
    obtain⟨g,hg,e'⟩:=isFm_d h'
    refine vcFm2 β _ k r ?_
    show cFm2 [.d true 0 (.str o),.d true 5 x,.d true 5 y] k=some r
    unfold cFm2
    simp only[hf,hg]
    rw[←e, ←e'];exact hr
   ·cases hr
  ·cases hr
 ·cases hr
noncomputable def WY:Env:=((((((((Env.none.add 9 io0 cTrue).add 10 io0 cParse).add 18 io0 cHoldX).add 19 io0 cOtherX).add 20 io0 cWordS).add 21 io0 cNames).add 22 io0 cFm1X).add 23 io0 cFmNotX).add 24 io0 cFm2X
noncomputable def WQ:Env:=(((Env.none.add 10 io0 cParse).add 18 io0 cHoldX).add 38 io0 cCheck).add 16 io0 cNum
end Go.Sd
namespace Go.Sc
open Go Go.Cm Go.Proofs
def LW (l:List D):Prop:=∀d∈l,∃v:Int,d=.int .i64 v∧0≤v∧v<8
def aD (l:List D) (i:Nat):Int:=match l[i]? with|some (.int .i64 v)=>v|_=>0
def strm (st lp:List D) (k:Nat):Int:=aD (st++lp) (posN (st.length+lp.length) st.length k)
theorem LW.app {a b:List D} (h:LW a) (k:LW b):LW (a++b):=fun d hd=>by
 rcases List.mem_append.1 hd with h'|h'
 ·exact h d h'
 ·exact k d h'
theorem LW.tl {x:D} {a:List D} (h:LW (x::a)):LW a:=fun d hd=>h d (.tail _ hd)
theorem LW.at' {l:List D} (h:LW l) {i:Nat} (hi:i<l.length):l[i]? =some (.int .i64 (aD l i)):=by
 obtain⟨v,e,_⟩:=h l[i] (List.getElem_mem hi)
 unfold aD
 rw[List.getElem?_eq_getElem hi,e]
theorem wd_of {st lp:List D} (h1:LW st) (h2:LW lp) (h3:lp≠[]) (h4:st.length+lp.length≤64):Wd (st++lp) (st.length+lp.length) st.length (aD (st++lp)) where
 len:=List.length_append
 bk:=by
  cases lp with
  |nil=>exact absurd rfl h3
  |cons a l=>simp
 big:=by omega
 at':=fun i hi=>(h1.app h2).at' (by rw[List.length_append];exact hi)
theorem pos_bisim {n bk n' bk':Nat} {R:Nat→Nat→Prop} (h0:R 0 0) (hs:∀p p',R p p'→R (nxN n bk p) (nxN n' bk' p')):∀k,R (posN n bk k) (posN n' bk' k)
 |0=>h0
 |k+1=>hs _ _ (pos_bisim h0 hs k)
theorem aD_app_l {a b:List D} {i:Nat} (h:i<a.length):aD (a++b) i=aD a i:=by unfold aD;rw[List.getElem?_append_left h]
theorem aD_app_r {a b:List D} {i:Nat} (h:a.length≤i):aD (a++b) i=aD b (i - a.length):=by unfold aD;rw[List.getElem?_append_right h]
theorem strm_draw (st lr:List D) (x:D):strm (st++[x]) (lr++[x])=strm st (x::lr):=by
 funext k
 unfold strm
 have h:=pos_bisim (n:=st.length+(lr.length+1)) (bk:=st.length) (n':=st.length+1+(lr.length+1)) (bk':=st.length+1)
  (R:=fun p p'=>(p'<st.length+(lr.length+1)∧p=p')∨(p'=st.length+(lr.length+1)∧p=st.length)) (.inl ⟨by omega,rfl⟩) (fun p p' h=>by
   unfold nxN
   rcases h with⟨h1,rfl⟩|⟨rfl,rfl⟩
   ·by_cases h:p+1<st.length+(lr.length+1)
    ·rw[if_pos h,if_pos (by omega)];exact .inl ⟨h,rfl⟩
    ·rw[if_neg h,if_pos (by omega)];exact .inr ⟨by omega,rfl⟩
   ·rw[if_neg (show ¬(st.length+(lr.length+1)+1<st.length+1+(lr.length+1))by omega)]
    by_cases h:st.length+1<st.length+(lr.length+1)
    ·rw[if_pos h];exact .inl ⟨h,rfl⟩
    ·rw[if_neg h];exact .inr ⟨by omega,rfl⟩) k
 simp only[List.length_append,List.length_cons,List.length_nil,Nat.zero_add]
 have e:st++[x]++(lr++[x])=(st++x::lr)++[x]:=by simp
 rw[e]
 rcases h with⟨h1,h2⟩|⟨h1,h2⟩
 ·rw[aD_app_l (by simp;omega),h2]
 ·rw[h1,h2,aD_app_r (by simp),aD_app_r (Nat.le_refl _)]
  simp[aD]
theorem strm_twice (st lp:List D) (hl:0<lp.length):strm st (lp++lp)=strm st lp:=by
 funext k
 unfold strm
 have h:=pos_bisim (n:=st.length+lp.length) (bk:=st.length) (n':=st.length+(lp.length+lp.length)) (bk':=st.length)
  (R:=fun p p'=>(p'<st.length+lp.length∧p=p')∨(st.length≤p∧p<st.length+lp.length∧p'=p+lp.length)) (.inl ⟨by omega,rfl⟩) (fun p p' h=>by
   unfold nxN
   rcases h with⟨h1,rfl⟩|⟨h1,h2,rfl⟩
   ·rw[if_pos (show p+1<st.length+(lp.length+lp.length)by omega)]
    by_cases h:p+1<st.length+lp.length
    ·rw[if_pos h];exact .inl ⟨h,rfl⟩
    ·rw[if_neg h];exact .inr ⟨Nat.le_refl _,by omega,by omega⟩
   ·by_cases h:p+1<st.length+lp.length
    ·rw[if_pos h,if_pos (by omega)];exact .inr ⟨by omega,by omega,by omega⟩
    ·rw[if_neg h,if_neg (by omega)];exact .inl ⟨by omega,rfl⟩) k
 simp only[List.length_append]
 rcases h with⟨h1,h2⟩|⟨h1,h2,h3⟩
 ·rw[←List.append_assoc,aD_app_l (by simp;omega),h2]
 ·rw[h3, ←List.append_assoc,aD_app_r (by simp;omega),aD_app_r (by omega)]
  congr 1
  simp;omega
theorem bad_no {v:Int} (h0:0≤v) (h1:v<8):badI 3 v=false:=by
 unfold badI
 have e:IntKind.wrap .i64 (1*2 ^ min 3 64)=8:=by decide
 rw[e]
 simp;omega
theorem anyBad_no:∀{l:List D},LW l→anyBad 3 l=some false
 |[],_=>rfl
 |x::r,h=>by
  obtain⟨v,e,h0,h1⟩:=h x (.head _)
  subst e
  simp only[anyBad]
  rw[bad_no h0 h1,if_neg (by decide)]
  exact anyBad_no h.tl
theorem seen_names:∃m,seenM Tryz.prog namesD []=some m∧m.length=3:=⟨[.ag [.str ⟨#[97]⟩,.bool true],.ag [.str ⟨#[98]⟩,.bool true],.ag [.str ⟨#[103,111,97,108]⟩,.bool true]],by kernel_rfl,rfl⟩
theorem check_names {st lp:List D} (h1:LW st) (h2:LW lp) (h3:lp≠[]) (h4:st.length+lp.length≤64):checkS Tryz.prog namesD st lp=some true:=by
 obtain⟨m,e,hm⟩:=seen_names
 unfold checkS
 rw[e]
 simp only
 rw[if_neg (by decide),if_neg (by rw[hm];decide),if_neg (by cases lp with|nil=>exact absurd rfl h3|cons=>simp),if_neg (by rw[List.length_append];omega)]
 show(anyBad 3 (st++lp)).map (!·)=some true
 rw[anyBad_no (h1.app h2)];rfl
theorem lform_abs:∀(t:Pr) (f:Fm),f.abs=some t→lformF f=true
 |t,f,h=>by
  rcases abs_inv h with⟨op,nm,p,rfl,h1⟩|⟨op,nm,a,p,o,x,rfl,h1,h2,rfl⟩|⟨op,nm,a,b,p,o,x,y,rfl,h1,h2,h3,rfl⟩
  ·simp only[lformF,lformL,Bool.and_true,decide_eq_true_eq]
   unfold wantN
   rcases h1 with⟨h1,rfl⟩|⟨h1,rfl⟩|⟨h1,rfl⟩<;>rw[h1]<;>rfl
  ·simp only[lformF,lformL,lform_abs x a h2,Bool.and_true,decide_eq_true_eq]
   unfold wantN
   rw[h1]
   cases o<;>rfl
  ·simp only[lformF,lformL,lform_abs x a h2,lform_abs y b h3,Bool.and_true,decide_eq_true_eq]
   unfold wantN
   rw[h1]
   cases o<;>rfl
open Classical in
theorem holdX_of {x:D} {f:Fm} {t:Pr} {st lp:List D} (hf:ofD x=some f) (ha:f.abs=some t) (hz:t.sz≤4096) (hl:t.labs (lbOk namesD)) (h1:LW st) (h2:LW lp) (h3:lp≠[]) (h4:st.length+lp.length≤64):
  holdX Tryz.prog x namesD st lp=some (decide (t.sat (lbAt namesD (strm st lp)) 0)):=by
 unfold holdX
 simp only[hf]
 rw[if_pos ⟨⟨sm_abs f t ha,trivial⟩,by decide,by have:big=34359738368:=rfl;omega⟩]
 have hw:=wd_of h1 h2 h3 h4
 obtain⟨l,g,e1,e2,e3⟩:=truth_sat hw t f ha hl
 have e4:holdN Tryz.prog namesD f st lp=some (.inr (g 0)):=by
  unfold holdN truthsT
  rw[check_names h1 h2 h3 h4]
  simp only
  rw[if_neg (by rw[size_abs t f ha];omega),if_pos (lform_abs t f ha),e1]
  cases l with
  |nil=>have:=e2.len;have:=hw.bk;simp at*;omega
  |cons b l=>
   have:=e2.at' 0 (by have:=hw.bk;omega)
   simp at this
   rw[←this]
 rw[e4]
 simp only[Option.some.injEq]
 have:=e3 0
 simp only[posN]at this
 rw[Bool.eq_iff_iff,this,decide_eq_true_eq]
 exact Iff.rfl
theorem otherX_labs {x:D} {f:Fm} {t:Pr} (hf:ofD x=some f) (ha:f.abs=some t) (h:otherX Tryz.prog x=some false):t.labs (lbOk namesD):=by
 unfold otherX at h
 simp only[hf]at h
 split at h
 ·split at h
  ·cases h
  ·rename_i b he
   unfold holdN at he
   split at he
   ·cases he
   ·rename_i b' l' he'
    unfold truthsT at he'
    split at he'
    ·cases he'
    ·cases he'
    ·split at he'
     ·cases he'
     ·split at he'
      ·exact truth_labs _ t f _ ha he'
      ·cases he'
   ·cases he
  ·cases h
 ·cases h
theorem lw_zero:LW [.int .i64 0]:=fun d hd=>⟨0,List.mem_singleton.1 hd,by decide,by decide⟩
theorem names_str:∀d∈namesD,∃u,d=.str u:=by
 intro d hd
 simp only[namesD,List.mem_cons,List.not_mem_nil,or_false]at hd
 rcases hd with rfl|rfl|rfl<;>exact⟨_,rfl⟩
theorem otherX_of {x:D} {f:Fm} {t:Pr} (hf:ofD x=some f) (ha:f.abs=some t) (hz:t.sz≤4096):∃b,otherX Tryz.prog x=some b:=by
 have hw:Wd ([]++[D.int .i64 0]) _ _ _:=wd_of (st:=[]) (lp:=[.int .i64 0]) (fun d hd=>by cases hd) lw_zero (by simp) (by decide)
 obtain⟨r,e⟩:=truth_any hw names_str t f ha
 have e4:truthsT Tryz.prog f namesD [] [.int .i64 0]=some r:=by
  unfold truthsT
  rw[check_names (fun d hd=>by cases hd) lw_zero (by simp) (by decide)]
  simp only
  rw[if_neg (by rw[size_abs t f ha];omega),if_pos (lform_abs t f ha)]
  exact e
 unfold otherX
 simp only[hf]
 rw[if_pos ⟨sm_abs f t ha,trivial⟩]
 unfold holdN
 rw[e4]
 cases r with
 |inl v=>exact⟨_,rfl⟩
 |inr l=>
  cases l with
  |nil=>
   exfalso
   have hl:=truth_labs _ t f _ ha e
   obtain⟨l,g,e1,e2,_⟩:=truth_sat hw t f ha hl
   rw[e]at e1
   cases e1
   have:=e2.len
   simp at this
  |cons b l=>exact⟨_,rfl⟩
end Go.Sc
namespace Go.Sc
open Go Go.Cm Go.Proofs
theorem LW.dropN {l:List D} (h:LW l) (n:Nat):LW (l.drop n):=fun d hd=>h d (List.mem_of_mem_drop hd)
theorem LW.takeN {l:List D} (h:LW l) (n:Nat):LW (l.take n):=fun d hd=>h d (List.mem_of_mem_take hd)
def U8D (l:List D):Prop:=∀d∈l,∃m:Int,d=.int .u8 m∧0≤m∧m<256
theorem lett_ok:∀{l:List D},U8D l→∃x,lettS l=some x∧LW x∧x.length=l.length
 |[],_=>⟨[],rfl,(fun d hd=>by cases hd),rfl⟩
 |d::r,h=>by
  obtain⟨m,e,h0,h1⟩:=h d (.head _)
  subst e
  obtain⟨x,e,hx,hl⟩:=lett_ok (l:=r) fun d hd=>h d (.tail _ hd)
  have hw:IntKind.wrap .i64 m=m:=Go.Sd.wrap_id (by omega) (by omega)
  refine⟨.int .i64 (Int.tmod m 8)::x,by simp only[lettS,e,hw],fun d hd=>?_,by simp[hl]⟩
  rcases List.mem_cons.1 hd with rfl|hd
  ·exact⟨_,rfl,Int.tmod_nonneg _ h0,Int.tmod_lt_of_pos _ (by decide)⟩
  ·exact hx d hd
theorem loopOf_ok {y:List D} (h:LW y):LW (loopOf y)∧loopOf y≠[]∧(loopOf y).length≤max y.length 1:=by
 unfold loopOf
 split
 ·exact⟨lw_zero,by simp,by simp⟩
 ·rename_i h1
  exact⟨h,h1,by omega⟩
theorem word_ok {a b:List D} (ha:U8D a) (hb:U8D b):∃x y,lettS (a.take 8)=some x∧lettS (b.take 8)=some y∧LW x∧LW (loopOf y)∧loopOf y≠[]∧x.length≤8∧(loopOf y).length≤8:=by
 obtain⟨x,e1,h1,l1⟩:=lett_ok (l:=a.take 8) fun d hd=>ha d (List.mem_of_mem_take hd)
 obtain⟨y,e2,h2,l2⟩:=lett_ok (l:=b.take 8) fun d hd=>hb d (List.mem_of_mem_take hd)
 obtain⟨h3,h4,h5⟩:=loopOf_ok h2
 rw[List.length_take]at l1 l2
 exact⟨x,y,e1,e2,h1,h3,h4,by omega,by omega⟩
theorem aD_tl (x:D) (l:List D) (i:Nat):aD (x::l) (i+1)=aD l i:=by unfold aD;rw[List.getElem?_cons_succ]
theorem sat_shift (lb:ByteArray→Nat→Prop):∀(t:Pr) (k:Nat),t.sat (fun s k=>lb s (k+1)) k↔t.sat lb (k+1)
 |.tt,k=>Iff.rfl
 |.ff,k=>Iff.rfl
 |.lab s,k=>Iff.rfl
 |.un .no a,k=>by simp only[Pr.sat,sat_shift lb a]
 |.un .X a,k=>by simp only[Pr.sat,sat_shift lb a]
 |.un .F a,k=>by simp only[Pr.sat,sat_shift lb a,Nat.add_right_comm k _ 1]
 |.un .G a,k=>by simp only[Pr.sat,sat_shift lb a,Nat.add_right_comm k _ 1]
 |.bi .and a b,k=>by simp only[Pr.sat,sat_shift lb a,sat_shift lb b]
 |.bi .or a b,k=>by simp only[Pr.sat,sat_shift lb a,sat_shift lb b]
 |.bi .imp a b,k=>by simp only[Pr.sat,sat_shift lb a,sat_shift lb b]
 |.bi .U a b,k=>by simp only[Pr.sat,UntP,sat_shift lb a,sat_shift lb b,Nat.add_right_comm k _ 1]
 |.bi .W a b,k=>by simp only[Pr.sat,UntP,sat_shift lb a,sat_shift lb b,Nat.add_right_comm k _ 1]
 |.bi .R a b,k=>by simp only[Pr.sat,UntP,sat_shift lb a,sat_shift lb b,Nat.add_right_comm k _ 1]
section
variable (lb:ByteArray→Nat→Prop) (a b:Pr) (k:Nat)
end
theorem fm_two {x y:D} {f g:Fm} {t u:Pr} {ob nm:ByteArray} {p:Int} (o:B2) (ho:ob.toList=o.s) (hf:ofD x=some f) (ha:f.abs=some t) (hg:ofD y=some g) (hb:g.abs=some u):
  ∃h,ofD (.ag [.str ob,.str nm,.sl 5 [x,y],.int .i64 p])=some h∧h.abs=some (.bi o t u):=
 ⟨.mk ob nm [f,g] p,by simp only[ofD,ofDL,hf,hg],by simp only[Fm.abs,b2A,ho,b2_of,ha,hb]⟩
theorem fm_one {x:D} {f:Fm} {t:Pr} {ob nm:ByteArray} {p:Int} (o:U1) (ho:ob.toList=o.s) (hf:ofD x=some f) (ha:f.abs=some t):
  ∃h,ofD (.ag [.str ob,.str nm,.sl 5 [x],.int .i64 p])=some h∧h.abs=some (.un o t):=
 ⟨.mk ob nm [f] p,by simp only[ofD,ofDL,hf],by simp only[Fm.abs,u1A,ho,u1_of,ha]⟩
theorem isFm_of {x:D} {f:Fm} (h:ofD x=some f):isFm x=true:=by unfold isFm;rw[h];rfl
structure Fa (x:D) (t:Pr):Prop where
 fm:∃f,ofD x=some f∧f.abs=some t
 lab:t.labs (lbOk namesD)
structure Wo (st lp:List D):Prop where
 hs:LW st
 hl:LW lp
 ne:lp≠[]
 len:st.length+lp.length≤64
open Classical in
noncomputable def HB (t:Pr) (L:Nat→Int) (k:Nat):Bool:=decide (t.sat (lbAt namesD L) k)
open Classical in
theorem HB_iff {t:Pr} {L:Nat→Int} {k:Nat}:HB t L k=true↔t.sat (lbAt namesD L) k:=by unfold HB;exact decide_eq_true_iff
theorem Fa.hold {x:D} {t:Pr} {st lp:List D} (h:Fa x t) (w:Wo st lp) (hz:t.sz≤4096):holdX Tryz.prog x namesD st lp=some (HB t (strm st lp) 0):=by
 obtain⟨f,h1,h2⟩:=h.fm
 rw[holdX_of h1 h2 hz h.lab w.hs w.hl w.ne w.len];rfl
theorem HB_shift (t:Pr) (L:Nat→Int) (k:Nat):HB t (fun k=>L (k+1)) k=HB t L (k+1):=by
 rw[Bool.eq_iff_iff,HB_iff,HB_iff]
 exact sat_shift (lbAt namesD L) t k
theorem parse_fm {s:ByteArray} {d:Int} {op nm:ByteArray} {ks:List D} {p:Int} (h:parseP s d=.ok op nm ks p) (hs:s.size≤200):∃f t,ofD (.ag [.str op,.str nm,.sl 5 ks,.int .i64 p])=some f∧f.abs=some t∧t.sz≤201:=by
 obtain⟨f,t,h1,h2,_,h4⟩:=parse_ok h
 exact⟨f,t,h1,h2,by omega⟩
end Go.Sc
namespace Go.Sd
open Go Go.Cm Go.Sc
theorem u8_of:∀(xs:List D),(∀x∈xs,x.shape=(Sc.int .u8).sh∧Fits (.int .u8) x.cells)→U8D xs
 |[],_=>fun d hd=>by cases hd
 |x::xs,h=>fun d hd=>by
  rcases List.mem_cons.1 hd with rfl|hd
  ·obtain⟨hs,hf⟩:=h _ (.head _)
   obtain⟨n,e,hw⟩:=hf.of_int hs
   refine⟨n,e,?_⟩
   have h1:IntKind.u8.min=0:=by decide
   have h2:IntKind.u8.max=255:=by decide
   simp only[Lit.wf,h1,h2,Bool.and_eq_true,decide_eq_true_eq]at hw
   omega
  ·exact u8_of xs (fun y hy=>h y (.tail _ hy)) d hd
end Go.Sd

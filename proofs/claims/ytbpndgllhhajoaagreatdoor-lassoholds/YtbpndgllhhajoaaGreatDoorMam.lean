/- Made by a program of the session's own (tools/gen_scan.py): what functions come to, segment by segment. -/
import Derived.Test.YtbpndgllhhajoaaGreatDoorMal
import Derived.Test.YtbpndgllhhajoaaGreatDoorMak
import Derived.Test.YtbpndgllhhajoaaGreatDoorMai
set_option linter.unusedVariables false
set_option linter.unusedSimpArgs false
namespace Go.Sd
open Go Go.Cm Go.Proofs Go.Sc
set_option maxRecDepth 100000
namespace V25
noncomputable def X:Fx:=⟨Tryz.prog,WS,4,1⟩
end V25
namespace V26
noncomputable def X:Fx:=⟨Tryz.prog,WS,48,2⟩
end V26
end Go.Sd
namespace Go.Sd
open Go Go.Cm Go.Proofs Go.Sc
def WN:Env:=Env.none.add 22 io0 cFm1
end Go.Sd
namespace Go.Sd
open Go Go.Cm Go.Proofs Go.Sc
set_option maxRecDepth 100000
namespace V23
noncomputable def X:Fx:=⟨Tryz.prog,WN,4,1⟩
end V23
end Go.Sd
set_option maxRecDepth 100000
namespace Go.Sd
open Go Go.Cm Go.Proofs Go.Sc
end Go.Sd
namespace Go.Sc
open Go Go.Cm
noncomputable def holdX (P:Program) (x:D) (ns st lp:List D):Option Bool:=
 match ofD x with
 |some f=>if bd none f∧ns.length≤big∧st.length+lp.length≤big then(match holdN P ns f st lp with|some (.inr b)=>some b|_=>none)else none
 |none=>none
noncomputable def otherX (P:Program) (x:D):Option Bool:=
 match ofD x with
 |some f=>if bd none f then(match holdN P namesD f [] [.int .i64 0]with|some (.inl _)=>some true|some (.inr _)=>some false|none=>none)else none
 |none=>none
def isFm (x:D):Bool:=(ofD x).isSome
end Go.Sc
namespace Go.Sd
open Go Go.Cm Go.Proofs Go.Sc
noncomputable def cHoldX {β:Type} (args:List TV) (k:List TV→List TV→Option β):Option β:=
 match args with
 |[.d true 5 x,.d true 0 (.sl 0 ns),.d true 3 (.ag [.sl 0 st,.sl 0 lp])]=>match holdX Tryz.prog x ns st lp with
  |some b=>k [.d false 0 (.bool b),.d false 0 .nili] []
  |none=>none
 |_=>none
noncomputable def cOtherX {β:Type} (args:List TV) (k:List TV→List TV→Option β):Option β:=
 match args with
 |[.d true 5 x]=>match otherX Tryz.prog x with
  |some b=>k [.d false 0 (.bool b)] []
  |none=>none
 |_=>none
def cFm1X {β:Type} (args:List TV) (k:List TV→List TV→Option β):Option β:=
 match args with
 |[.d true 0 (.str o),.d true 5 x]=>if isFm x=true then k [.d true 5 (fmD o ⟨#[]⟩ [x] 0)] []else none
 |_=>none
def cFmNotX {β:Type} (args:List TV) (k:List TV→List TV→Option β):Option β:=
 match args with
 |[.d true 5 x]=>if isFm x=true then k [.d true 5 (fmD ⟨#[33]⟩ ⟨#[]⟩ [x] 0)] []else none
 |_=>none
def cFm2X {β:Type} (args:List TV) (k:List TV→List TV→Option β):Option β:=
 match args with
 |[.d true 0 (.str o),.d true 5 x,.d true 5 y]=>if isFm x=true then(if isFm y=true then k [.d true 5 (fmD o ⟨#[]⟩ [x,y] 0)] []else none)else none
 |_=>none
theorem vcHoldX:VC 18 cHoldX:=by
 intro β args k r hr
 change cHoldX args k=some r at hr
 unfold cHoldX at hr
 split at hr
 ·rename_i x ns st lp
  split at hr
  ·rename_i b hb
   refine vcHoldN β _ k r ?_
   show cHoldN [.d true 5 x,.d true 0 (.sl 0 ns),.d true 3 (.ag [.sl 0 st,.sl 0 lp])] k=some r
   unfold holdX at hb
   split at hb
   ·rename_i f hf
    split at hb
    ·rename_i hc
     unfold cHoldN chkK
     simp only[hf]
     rw[if_pos hc]
     split at hb
     ·rename_i b' he
      cases hb
      first|(simp only[he];exact hr)|exact hr
     ·cases hb
    ·cases hb
   ·cases hb
  ·cases hr
 ·cases hr
noncomputable def WY:Env:=((((((((Env.none.add 9 io0 cTrue).add 10 io0 cParse).add 18 io0 cHoldX).add 19 io0 cOtherX).add 20 io0 cWordS).add 21 io0 cNames).add 22 io0 cFm1X).add 23 io0 cFmNotX).add 24 io0 cFm2X
noncomputable def WQ:Env:=(((Env.none.add 10 io0 cParse).add 18 io0 cHoldX).add 38 io0 cCheck).add 16 io0 cNum
end Go.Sd
namespace Go.Sd
open Go Go.Cm Go.Proofs Go.Sc
set_option maxRecDepth 100000
namespace Q9A
noncomputable def X:Fx:=⟨Tryz.prog,WQ,1,0⟩
theorem start {β:Type} (k:List TV→List TV→Option β):evalF Tryz.prog WQ Tryz.f9 [] k=match parseP (ByteArray.mk #[71,32,70,32,34,97,34]) (9:Int)with
   |PA.ok op2 nm3 ks4 p5=>match holdX Tryz.prog (D.ag [D.str op2,D.str nm3,D.sl 5 ks4,D.int .i64 p5]) [D.str (ByteArray.mk #[97])] [] [D.int .i64 0,D.int .i64 1]with
    |some b7=>match holdX Tryz.prog (D.ag [D.str op2,D.str nm3,D.sl 5 ks4,D.int .i64 p5]) [D.str (ByteArray.mk #[97])] [D.int .i64 1] [D.int .i64 0]with
     |some b9=>if b7=true then if(!b9)=true then match checkS Tryz.prog [] [] []with
      |some true=>k [.d false 0 (D.bool false)] []
      |some false=>k [.d false 0 (D.bool true)] []
      |none=>none else k [.d false 0 (D.bool false)] []else k [.d false 0 (D.bool false)] []
     |none=>none
    |none=>none
   |PA.no n13=>match holdX Tryz.prog (D.ag [D.str (ByteArray.mk #[]),D.str (ByteArray.mk #[]),D.sl 5 [],D.int .i64 0]) [D.str (ByteArray.mk #[97])] [] [D.int .i64 0,D.int .i64 1]with
    |some b15=>match holdX Tryz.prog (D.ag [D.str (ByteArray.mk #[]),D.str (ByteArray.mk #[]),D.sl 5 [],D.int .i64 0]) [D.str (ByteArray.mk #[97])] [D.int .i64 1] [D.int .i64 0]with
     |some b17=>k [.d false 0 (D.bool false)] []
     |none=>none
    |none=>none
   |PA.er p19 n20=>match holdX Tryz.prog (D.ag [D.str (ByteArray.mk #[]),D.str (ByteArray.mk #[]),D.sl 5 [],D.int .i64 0]) [D.str (ByteArray.mk #[97])] [] [D.int .i64 0,D.int .i64 1]with
    |some b22=>match holdX Tryz.prog (D.ag [D.str (ByteArray.mk #[]),D.str (ByteArray.mk #[]),D.sl 5 [],D.int .i64 0]) [D.str (ByteArray.mk #[97])] [D.int .i64 1] [D.int .i64 0]with
     |some b24=>k [.d false 0 (D.bool false)] []
     |none=>none
    |none=>none
   |PA.bad=>none:=by kernel_rfl
end Q9A
end Go.Sd
set_option maxRecDepth 100000
namespace Go.Sd
open Go Go.Cm Go.Proofs Go.Sc
theorem vcParse:VC 10 cParse:=fun β args k r hr=>envq5 β 10 args k r hr
theorem vcNum:VC 16 cNum:=fun β args k r hr=>envq0 β 16 args k r hr
theorem vcCheck:VC 38 cCheck:=fun β args k r hr=>envw11 β 38 args k r hr
theorem envwq:EnvOk glS Tryz.prog WQ:=(((EnvOk.none.add vcParse).add vcHoldX).add vcCheck).add vcNum
def gfa:D:=.ag [.str ⟨#[71]⟩,.str ⟨#[]⟩,.sl 5 [.ag [.str ⟨#[70]⟩,.str ⟨#[]⟩,.sl 5 [.ag [.str ⟨#[108,97,98,101,108]⟩,.str ⟨#[97]⟩,.sl 5 [],.int .i64 4]],.int .i64 2]],.int .i64 0]
theorem hold_a:holdX Tryz.prog gfa [.str ⟨#[97]⟩] [] [.int .i64 0,.int .i64 1]=some true:=by kernel_rfl
theorem hold_b:holdX Tryz.prog gfa [.str ⟨#[97]⟩] [.int .i64 1] [.int .i64 0]=some false:=by kernel_rfl
theorem check_0:checkS Tryz.prog [] [] []=some false:=by kernel_rfl
theorem ev_alive {β:Type} (k:List TV→List TV→Option β):evalF Tryz.prog WQ Tryz.f9 [] k=k [.d false 0 (.bool true)] []:=by
 rw[Q9A.start,show parseP ⟨#[71,32,70,32,34,97,34]⟩ 9=.ok ⟨#[71]⟩ ⟨#[]⟩ [.ag [.str ⟨#[70]⟩,.str ⟨#[]⟩,.sl 5 [.ag [.str ⟨#[108,97,98,101,108]⟩,.str ⟨#[97]⟩,.sl 5 [],.int .i64 4]],.int .i64 2]] 0 from by kernel_rfl]
 simp only
 have ha:=hold_a
 have hb:=hold_b
 unfold gfa at ha hb
 rw[ha,hb,check_0]
 rfl
theorem vcAlive:VC 9 cTrue:=by
 intro β args k r hr
 change cTrue args k=some r at hr
 unfold cTrue at hr
 split at hr
 ·exact⟨_,_,hr,valid_of envwq mixed Tryz.func9 (by kernel_rfl) (ev_alive _)⟩
 ·cases hr
end Go.Sd
set_option maxRecDepth 100000
namespace Go.Sc
open Go Go.Cm
def shStem (st:List D):List D:=st.drop 1
def shLoop (st lp:List D):List D:=match st with|[]=>lp.drop 1++lp.take 1|_=>lp
def letrB (st lp:List D) (i:Int):Option (Int×Bool):=
 if i<0 then some (0,false)
 else if i<st.length then(iAt st i).map (·,true)
 else if lp.length=0 then some (0,false)
 else(iAt lp (Int.tmod (i - st.length) lp.length)).map (·,true)
end Go.Sc
namespace Go.Sd
open Go Go.Cm Go.Proofs Go.Sc
def cShiftS {β:Type} (args:List TV) (k:List TV→List TV→Option β):Option β:=
 match args with
 |[.d true 3 (.ag [.sl 0 st,.sl 0 lp])]=>chkK (intsB st=true∧intsB lp=true∧st.length+lp.length≤big) (k [.d true 3 (.ag [.sl 0 (shStem st),.sl 0 (shLoop st lp)])] [])
 |_=>none
def cLetterS {β:Type} (args:List TV) (k:List TV→List TV→Option β):Option β:=
 match args with
 |[.d true 3 (.ag [.sl 0 st,.sl 0 lp]),.d true 0 (.int .i64 i)]=>match letrB st lp i with
  |some (m,b)=>chkK (i≤9223372036854775807∧st.length+lp.length≤big) (k [.d false 0 (.int .i64 m),.d false 0 (.bool b)] [])
  |none=>none
 |_=>none
noncomputable def WZ:Env:=(WY.add 25 io0 cShiftS).add 26 io0 cLetterS
end Go.Sd
namespace Go.Sd
open Go Go.Cm Go.Proofs Go.Sc
set_option maxRecDepth 100000
namespace V27
noncomputable def X:Fx:=⟨Tryz.prog,WS,16,2⟩
end V27
namespace V28
noncomputable def X:Fx:=⟨Tryz.prog,WS,16,2⟩
def s0 (xs:List D) (ys:List D) (x27:Int):S:=⟨Tm.mk 26 [(0,.d true 0 (D.sl 0 xs)),(1,.d true 0 (D.sl 0 ys)),(5,.d false 0 (D.int .i64 x27))],[]⟩
def e0r:S:=⟨Tm.mk 26 [(4,.d false 0 (D.bool false))],[]⟩
def e0x0:S:=⟨Tm.mk 26 [],[]⟩
noncomputable abbrev L0:S→Option (S ⊕ (Ex×S)):=roundK X [(0,0)] (sub [1,1,0,1,0,0] (body Tryz.f28))
end V28
end Go.Sd
set_option maxRecDepth 100000
namespace Go.Sc
open Go Go.Cm
def eqI (xs ys:List D):Prop:=xs=ys∧intsB xs=true∧xs.length≤big
noncomputable instance (xs ys:List D):Decidable (eqI xs ys):=Classical.propDecidable _
end Go.Sc
namespace Go.Sd
open Go Go.Cm Go.Proofs Go.Sc
end Go.Sd
namespace Go.Sc
open Go Go.Cm
def oTrue:T8:=[116,114,117,101]
def oFalse:T8:=[102,97,108,115,101]
def oLabel:T8:=[108,97,98,101,108]
end Go.Sc
namespace Go.Sc
open Go Go.Cm
def nd (op:ByteArray) (ks:List Fm):Fm:=.mk op ⟨#[]⟩ ks 0
def labF (nm:ByteArray):Fm:=.mk ⟨#[108,97,98,101,108]⟩ nm [] 0
def mok (lo:Int) (b:Option Nat) (f:Fm) (l:Int):Prop:=bd b f∧f.dep≤1073741824∧lo≤l∧l≤17179869184
instance (lo:Int) (b:Option Nat) (f:Fm) (l:Int):Decidable (mok lo b f l):=by unfold mok;infer_instance
end Go.Sc
namespace Go.Sc
open Go Go.Cm
end Go.Sc
namespace Go.Sc
open Go Go.Cm
def bTrue:ByteArray:=⟨#[116,114,117,101]⟩
def bFalse:ByteArray:=⟨#[102,97,108,115,101]⟩
end Go.Sc
namespace Go.Sc
open Go Go.Cm
end Go.Sc
namespace Go.Sc
open Go Go.Cm
inductive U1 where
 |no|X|F|G
 deriving DecidableEq
inductive B2 where
 |and|or|imp|U|W|R
 deriving DecidableEq
inductive Pr where
 |tt|ff
 |lab (s:ByteArray)
 |un (o:U1) (a:Pr)
 |bi (o:B2) (a b:Pr)
 deriving DecidableEq
def U1.b:U1→ByteArray
 |.no=>⟨#[33]⟩|.X=>⟨#[88]⟩|.F=>⟨#[70]⟩|.G=>⟨#[71]⟩
def B2.b:B2→ByteArray
 |.and=>⟨#[38]⟩|.or=>⟨#[124]⟩|.imp=>⟨#[61,62]⟩|.U=>⟨#[85]⟩|.W=>⟨#[87]⟩|.R=>⟨#[82]⟩
def U1.s:U1→T8
 |.no=>[33]|.X=>[88]|.F=>[70]|.G=>[71]
def B2.s:B2→T8
 |.and=>[38]|.or=>[124]|.imp=>[61,62]|.U=>[85]|.W=>[87]|.R=>[82]
def u1? (l:T8):Option U1:=if l==[33]then some .no else if l==[88]then some .X else if l==[70]then some .F else if l==[71]then some .G else none
def b2? (l:T8):Option B2:=if l==[38]then some .and else if l==[124]then some .or else if l==[61,62]then some .imp else if l==[85]then some .U else if l==[87]then some .W else if l==[82]then some .R else none
def u1A (l:T8) (x:Option Pr):Option Pr:=match u1? l,x with|some o,some x=>some (.un o x)|_,_=>none
def b2A (l:T8) (x y:Option Pr):Option Pr:=match b2? l,x,y with|some o,some x,some y=>some (.bi o x y)|_,_,_=>none
def Fm.abs:Fm→Option Pr
 |.mk op nm ks _=>match ks with
  |[]=>if op.toList==oTrue then some .tt else if op.toList==oFalse then some .ff else if op.toList==oLabel then some (.lab nm)else none
  |[a]=>u1A op.toList a.abs
  |[a,b]=>b2A op.toList a.abs b.abs
  |_=>none
def Pr.fm:Pr→Fm
 |.tt=>nd bTrue []
 |.ff=>nd bFalse []
 |.lab s=>labF s
 |.un o a=>nd o.b [a.fm]
 |.bi o a b=>nd o.b [a.fm,b.fm]
theorem B_lit (l:T8):ByteArray.toList ⟨l.toArray⟩=l:=by rw[ByteArray.toList_eq]
theorem U1.b_s (o:U1):o.b.toList=o.s:=by cases o<;>exact B_lit _
theorem B2.b_s (o:B2):o.b.toList=o.s:=by cases o<;>exact B_lit _
theorem u1_s {l:T8} {o:U1} (h:u1? l=some o):l=o.s:=by
 unfold u1? at h
 repeat' split at h
 all_goals first|(cases h;done)|(rename_i e;cases h;exact eq_of_beq e)
theorem b2_s {l:T8} {o:B2} (h:b2? l=some o):l=o.s:=by
 unfold b2? at h
 repeat' split at h
 all_goals first|(cases h;done)|(rename_i e;cases h;exact eq_of_beq e)
theorem u1_of (o:U1):u1? o.s=some o:=by cases o<;>rfl
theorem b2_of (o:B2):b2? o.s=some o:=by cases o<;>rfl
theorem u1A_some {l:T8} {x:Option Pr} {t:Pr} (h:u1A l x=some t):∃o a,l=U1.s o∧x=some a∧t=.un o a:=by
 unfold u1A at h
 cases e:u1? l with
 |none=>simp[e]at h
 |some o=>
  cases x with
  |none=>simp[e]at h
  |some a=>simp only[e,Option.some.injEq]at h;exact⟨o,a,u1_s e,rfl,h.symm⟩
theorem b2A_some {l:T8} {x y:Option Pr} {t:Pr} (h:b2A l x y=some t):∃o a b,l=B2.s o∧x=some a∧y=some b∧t=.bi o a b:=by
 unfold b2A at h
 cases e:b2? l with
 |none=>simp[e]at h
 |some o=>
  cases x with
  |none=>simp[e]at h
  |some a=>
   cases y with
   |none=>simp[e]at h
   |some b=>simp only[e,Option.some.injEq]at h;exact⟨o,a,b,b2_s e,rfl,rfl,h.symm⟩
theorem abs_inv {f:Fm} {t:Pr} (h:f.abs=some t):
  (∃op nm p,f=.mk op nm [] p∧((op.toList=oTrue∧t=.tt)∨(op.toList=oFalse∧t=.ff)∨(op.toList=oLabel∧t=.lab nm)))∨
  (∃op nm a p o x,f=.mk op nm [a] p∧op.toList=U1.s o∧a.abs=some x∧t=.un o x)∨
  (∃op nm a b p o x y,f=.mk op nm [a,b] p∧op.toList=B2.s o∧a.abs=some x∧b.abs=some y∧t=.bi o x y):=by
 cases f with
 |mk op nm ks p=>
  unfold Fm.abs at h
  split at h
  ·left
   refine⟨op,nm,p,rfl,?_⟩
   repeat' split at h
   ·rename_i e;cases h;exact .inl ⟨by simpa using e,rfl⟩
   ·rename_i e;cases h;exact .inr (.inl ⟨by simpa using e,rfl⟩)
   ·rename_i e;cases h;exact .inr (.inr ⟨by simpa using e,rfl⟩)
   ·cases h
  ·rename_i a
   obtain⟨o,x,h1,h2,h3⟩:=u1A_some h
   exact .inr (.inl ⟨op,nm,a,p,o,x,rfl,h1,h2,h3⟩)
  ·rename_i a b
   obtain⟨o,x,y,h1,h2,h3,h4⟩:=b2A_some h
   exact .inr (.inr ⟨op,nm,a,b,p,o,x,y,rfl,h1,h2,h3,h4⟩)
  ·cases h
end Go.Sc
namespace Go.Sc
open Go Go.Cm
def Pr.sz:Pr→Nat
 |.un _ a=>a.sz+1
 |.bi _ a b=>a.sz+b.sz+1
 |_=>1
end Go.Sc
namespace Go.Sc
open Go Go.Cm
theorem size_abs:∀(t:Pr) (f:Fm),f.abs=some t→sizeF f=min (t.sz:Int) 4097
 |t,f,h=>by
  rcases abs_inv h with⟨op,nm,p,rfl,h1⟩|⟨op,nm,a,p,o,x,rfl,h1,h2,rfl⟩|⟨op,nm,a,b,p,o,x,y,rfl,h1,h2,h3,rfl⟩
  ·rcases h1 with⟨h1,rfl⟩|⟨h1,rfl⟩|⟨h1,rfl⟩<;>rfl
  ·have ih:=size_abs x a h2
   simp only[sizeF,sizeL,ih,Pr.sz]
   rw[if_pos (by omega)]
   omega
  ·have iha:=size_abs x a h2
   have ihb:=size_abs y b h3
   simp only[sizeF,sizeL,iha,ihb,Pr.sz]
   rw[if_pos (show(1:Int)≤4096 by omega)]
   split<;>omega
  termination_by t=>SizeOf.sizeOf t
end Go.Sc
namespace Go.Sc
open Go Go.Cm
def Rd (a b:Int) (op nm:ByteArray) (ks:List D) (p:Int):Prop:=
 ∃f t,ofD (fmD op nm ks p)=some f∧Fm.abs f=some t∧sameF f t.fm=true∧(t.sz:Int)≤b - a
def Good (a:Int):PR→Prop
 |.ok op nm ks p b=>Rd a b op nm ks p
 |_=>True
theorem good_deep (xs:List D) (a c:Int):Good c (deepP xs a):=by unfold deepP;split<;>trivial
theorem ofD_mk {op nm:ByteArray} {ks:List D} {p:Int} {f:Fm} (h:ofD (fmD op nm ks p)=some f):∃fs,ofDL ks=some fs∧f=.mk op nm fs p:=by
 simp only[fmD,ofD]at h
 split at h
 ·rename_i fs e;cases h;exact⟨fs,e,rfl⟩
 ·cases h
theorem rd_pos {a b:Int} {op nm:ByteArray} {ks:List D} {p:Int} (q:Int) (h:Rd a b op nm ks p):Rd a b op nm ks q:=by
 obtain⟨f,t,h1,h2,h3,h4⟩:=h
 obtain⟨fs,e,rfl⟩:=ofD_mk h1
 refine⟨.mk op nm fs q,t,by simp only[fmD,ofD,e],?_,?_,h4⟩
 ·rw[←h2];unfold Fm.abs;rfl
 ·cases ht:t.fm with
  |mk o n k r=>rw[ht]at h3;simpa only[sameF]using h3
theorem rd_two {a b c:Int} {op o1 n1 o2 n2:ByteArray} {k1 k2:List D} {p1 p2:Int} {o:B2} (ho:op.toList=o.s) (h:Rd a b o1 n1 k1 p1) (k:Rd (b+1) c o2 n2 k2 p2) (p:Int):
  Rd a c op ⟨#[]⟩ [fmD o1 n1 k1 p1,fmD o2 n2 k2 p2] p:=by
 obtain⟨f,t,h1,h2,h3,h4⟩:=h
 obtain⟨g,u,k1,k2,k3,k4⟩:=k
 refine⟨.mk op ⟨#[]⟩ [f,g] p,.bi o t u,?_,?_,?_,?_⟩
 ·simp only[fmD]at h1 k1 ⊢
  simp only[ofD,ofDL]at h1 k1 ⊢
  simp only[h1,k1]
 ·simp only[Fm.abs,b2A,ho,b2_of,h2,k2]
 ·simp only[Pr.fm,nd,sameF,sameL,h3,k3,ho,B2.b_s,beq_self_eq_true,Bool.and_true]
 ·simp only[Pr.sz];omega
theorem rd_one {a c:Int} {op o2 n2:ByteArray} {k2:List D} {p2:Int} {o:U1} (ho:op.toList=o.s) (k:Rd (a+1) c o2 n2 k2 p2) (p:Int):Rd a c op ⟨#[]⟩ [fmD o2 n2 k2 p2] p:=by
 obtain⟨g,u,k1,k2,k3,k4⟩:=k
 refine⟨.mk op ⟨#[]⟩ [g] p,.un o u,?_,?_,?_,?_⟩
 ·simp only[fmD]at k1 ⊢
  simp only[ofD,ofDL]at k1 ⊢
  simp only[k1]
 ·simp only[Fm.abs,u1A,ho,u1_of,k2]
 ·simp only[Pr.fm,nd,sameF,sameL,k3,ho,U1.b_s,beq_self_eq_true,Bool.and_true]
 ·simp only[Pr.sz];omega
theorem isT_s {c:Int} {t s:ByteArray} (h:isT c t s=true):t.toList=s.toList:=by
 unfold isT at h
 simp only[Bool.and_eq_true,beq_iff_eq]at h
 exact h.2
theorem good_chainL (xs:List D) (op:ByteArray) (o:B2) (ho:op.toList=o.s) (one:Int→PR) (h1:∀a,Good a (one a)):∀(n:Nat) (q nm:ByteArray) (ks:List D) (p a b:Int),Rd b a q nm ks p→Good b (chainL xs op one n q nm ks p a)
 |0,_,_,_,_,_,_,_=>trivial
 |n+1,q,nm,ks,p,a,b,hb=>by
  unfold chainL
  split
  ·trivial
  ·split
   ·have:=h1 (a+1)
    split
    ·rename_i e;rw[e]at this
     exact good_chainL xs op o ho one h1 n _ _ _ _ _ _ (rd_two ho hb this _)
    all_goals trivial
   ·exact hb
theorem good_chainP (xs:List D) (op:ByteArray) (o:B2) (ho:op.toList=o.s) (one:Int→PR) (h1:∀a,Good a (one a)) (a:Int):Good a (chainP xs op one a):=by
 have:=h1 a
 unfold chainP
 split
 ·rename_i e;rw[e]at this
  exact good_chainL xs op o ho one h1 _ _ _ _ _ _ _ this
 all_goals trivial
theorem good_rightP (xs:List D) (one:Int→PR) (h1:∀a,Good a (one a)) (o nm:ByteArray) (ks:List D) (p:Int):∀(ops:List ByteArray) (a b:Int),(∀op∈ops,∃o:B2,op.toList=o.s)→Rd b a o nm ks p→Good b (rightP xs one o nm ks p ops a)
 |[],a,b,_,h=>h
 |op::ops,a,b,ho,h=>by
  unfold rightP
  split
  ·trivial
  ·split
   ·have:=h1 (a+1)
    obtain⟨q,hq⟩:=ho op (.head _)
    split
    ·rename_i e;rw[e]at this
     exact rd_two hq h this _
    all_goals trivial
   ·exact good_rightP xs one h1 o nm ks p ops a b (fun x hx=>ho x (.tail _ hx)) h
theorem good_singleP (xs:List D) (P:PF) (h1:∀a,Good a (P.single a)) (h2:∀a,Good a (P.imply a)) (a:Int):Good a (singleP xs P a):=by
 have l0:(⟨#[108,97,98,101,108]⟩:ByteArray).toList=oLabel:=B_lit oLabel
 unfold singleP
 split
 ·trivial
 ·rename_i c t p hk
  split
  ·refine⟨.mk ⟨#[108,97,98,101,108]⟩ t [] p,.lab t,rfl,?_,?_,by simp only[Pr.sz];omega⟩
   ·simp only[Fm.abs,l0];rfl
   ·simp only[Pr.fm,labF,sameF,sameL,beq_self_eq_true,Bool.and_true]
  ·split
   ·rename_i h
    rcases h with h|h
    ·have e:=isT_s h
     rw[B_lit [116,114,117,101]]at e
     refine⟨.mk t ⟨#[]⟩ [] p,.tt,rfl,?_,?_,by simp only[Pr.sz];omega⟩
     ·simp only[Fm.abs,e];rfl
     ·simp only[Pr.fm,nd,bTrue,sameF,sameL,e,B_lit [116,114,117,101],beq_self_eq_true,Bool.and_true]
    ·have e:=isT_s h
     rw[B_lit [102,97,108,115,101]]at e
     refine⟨.mk t ⟨#[]⟩ [] p,.ff,rfl,?_,?_,by simp only[Pr.sz];omega⟩
     ·simp only[Fm.abs,e];rfl
     ·simp only[Pr.fm,nd,bFalse,sameF,sameL,e,B_lit [102,97,108,115,101],beq_self_eq_true,Bool.and_true]
   ·split
    ·rename_i h
     have ho:∃o:U1,t.toList=o.s:=by
      rcases h with h|h|h|h
      ·exact⟨.no,(isT_s h).trans (B_lit _)⟩
      ·exact⟨.X,(isT_s h).trans (B_lit _)⟩
      ·exact⟨.F,(isT_s h).trans (B_lit _)⟩
      ·exact⟨.G,(isT_s h).trans (B_lit _)⟩
     obtain⟨o,ho⟩:=ho
     have:=h1 (a+1)
     split
     ·rename_i e;rw[e]at this
      exact rd_one ho this _
     all_goals trivial
    ·split
     ·have:=h2 (a+1)
      split
      ·rename_i e;rw[e]at this
       split
       ·trivial
       ·split
        ·obtain⟨f,t,r1,r2,r3,r4⟩:=rd_pos p this
         exact⟨f,t,r1,r2,r3,by omega⟩
        ·trivial
      all_goals trivial
     ·trivial
theorem good_untlP (xs:List D) (s u:Int→PR) (h1:∀a,Good a (s a)) (h2:∀a,Good a (u a)) (a:Int):Good a (untlP xs s u a):=by
 have:=h1 a
 unfold untlP
 split
 ·rename_i e;rw[e]at this
  refine good_rightP xs u h2 _ _ _ _ _ _ _ (fun op ho=>?_) this
  simp only[List.mem_cons,List.not_mem_nil,or_false]at ho
  rcases ho with rfl|rfl|rfl
  ·exact⟨.U,B_lit _⟩
  ·exact⟨.W,B_lit _⟩
  ·exact⟨.R,B_lit _⟩
 all_goals trivial
theorem good_implyP (xs:List D) (u i:Int→PR) (h1:∀a,Good a (u a)) (h2:∀a,Good a (i a)) (a:Int):Good a (implyP xs u i a):=by
 have:=good_chainP xs ⟨#[124]⟩ .or (B_lit _) (kP xs u) (fun a=>good_chainP xs ⟨#[38]⟩ .and (B_lit _) u h1 a) a
 unfold implyP
 split
 ·rename_i e;rw[e]at this
  refine good_rightP xs i h2 _ _ _ _ _ _ _ (fun op ho=>?_) this
  simp only[List.mem_cons,List.not_mem_nil,or_false]at ho
  subst ho
  exact⟨.imp,B_lit _⟩
 all_goals trivial
theorem good_pf (xs:List D):∀n:Nat,(∀a,Good a ((pf xs n).single a))∧(∀a,Good a ((pf xs n).untl a))∧∀a,Good a ((pf xs n).imply a)
 |0=>⟨fun a=>good_deep xs a a,fun a=>good_deep xs a a,fun a=>good_deep xs a a⟩
 |n+1=>by
  obtain⟨h1,h2,h3⟩:=good_pf xs n
  have s:=good_singleP xs (pf xs n) h1 h3
  have u:=good_untlP xs _ _ s h2
  exact⟨s,u,good_implyP xs _ _ u h3⟩
theorem good_imply (xs:List D) (n:Nat) (a:Int):Good a (pImply xs n a):=(good_pf xs n).2.2 a
theorem toksL_len:∀(n:Nat) (l:T8) (p:Nat) (r:List Tok),toksL n l p=.inr r→r.length≤n
 |0,l,p,r,h=>by simp[toksL]at h
 |n+1,l,p,r,h=>by
  unfold toksL at h
  simp only at h
  split at h
  ·cases h;simp
  ·split at h
   ·cases h
   ·split at h
    ·cases h
    ·rename_i r' e
     cases h
     have:=toksL_len n _ _ _ e
     simp only[List.length_cons];omega
theorem parse_ok {s:ByteArray} {d:Int} {op nm:ByteArray} {ks:List D} {p:Int} (h:parseP s d=.ok op nm ks p):
  ∃f t,ofD (fmD op nm ks p)=some f∧Fm.abs f=some t∧sameF f t.fm=true∧t.sz≤s.size+1:=by
 unfold parseP at h
 split at h
 ·cases h
 ·split at h
  ·cases h
  ·rename_i hb
   split at h
   ·cases h
   ·rename_i l hl
    have hg:=good_imply (l.map tokT) d.toNat 0
    have ha:=adv_imply (l.map tokT) d.toNat 0
    unfold endP at h
    cases hp:pImply (l.map tokT) d.toNat 0 with
    |ok o n k q a=>
     rw[hp]at h hg ha
     simp only[Adv]at ha
     simp only at h
     split at h
     ·rename_i c t q2 hk
      split at h
      ·cases h
       obtain⟨f,t,r1,r2,r3,r4⟩:=hg
       have:=tk_lt hk (by omega)
       have hn:l.length≤s.size+1:=by
        rw[Nat.ble_eq]at hb
        have e:s.toList.length=s.size:=by rw[ByteArray.toList_eq];exact Array.length_toList
        have:=toksL_len _ _ _ _ hl
        omega
       rw[List.length_map]at this
       exact⟨f,t,r1,r2,r3,by omega⟩
      ·cases h
     ·cases h
    |syn=>rw[hp]at h;cases h
    |deep=>rw[hp]at h;cases h
    |no=>rw[hp]at h;cases h
mutual
theorem sm_abs:∀(f:Fm) (t:Pr),f.abs=some t→f.sm=true
 |.mk op nm ks p,t,h=>by
  match ks,h with
  |[],h=>rfl
  |[a],h=>
   simp only[Fm.abs]at h
   obtain⟨_,x,_,h2,_⟩:=u1A_some h
   simp only[Fm.sm,Fm.smL,sm_abs a x h2];rfl
  |[a,b],h=>
   simp only[Fm.abs]at h
   obtain⟨_,x,y,_,h2,h3,_⟩:=b2A_some h
   simp only[Fm.sm,Fm.smL,sm_abs a x h2,sm_abs b y h3];rfl
  |_::_::_::_,h=>simp[Fm.abs]at h
end
end Go.Sc
namespace Go.Sc
open Go Go.Cm
def finB (p q:Nat→Bool) (e:Bool):Nat→Nat→Bool
 |0,_=>e
 |r+1,i=>p i||(q i&&finB p q e r (i+1))
theorem finB_iff (p q:Nat→Bool) (e:Bool):∀(r i:Nat),finB p q e r i=true↔(∃d,d<r∧p (i+d)=true∧∀j,j<d→q (i+j)=true)∨((∀j,j<r→q (i+j)=true)∧e=true)
 |0,i=>by
  simp only[finB]
  constructor
  ·exact fun h=>.inr ⟨fun j hj=>absurd hj (Nat.not_lt_zero _),h⟩
  ·rintro(⟨d,h,_⟩|⟨_,h⟩)
   ·exact absurd h (Nat.not_lt_zero _)
   ·exact h
 |r+1,i=>by
  simp only[finB,Bool.or_eq_true,Bool.and_eq_true,finB_iff p q e r (i+1)]
  constructor
  ·rintro(h|⟨h,⟨d,h1,h2,h3⟩|⟨h1,h2⟩⟩)
   ·exact .inl ⟨0,by omega,h,fun j hj=>absurd hj (Nat.not_lt_zero _)⟩
   ·refine .inl ⟨d+1,by omega,by rw[show i+(d+1)=i+1+d by omega];exact h2,fun j hj=>?_⟩
    cases j with
    |zero=>exact h
    |succ j=>rw[show i+(j+1)=i+1+j by omega];exact h3 j (by omega)
   ·refine .inr ⟨fun j hj=>?_,h2⟩
    cases j with
    |zero=>exact h
    |succ j=>rw[show i+(j+1)=i+1+j by omega];exact h1 j (by omega)
  ·rintro(⟨d,h1,h2,h3⟩|⟨h1,h2⟩)
   ·cases d with
    |zero=>exact .inl h2
    |succ d=>
     refine .inr ⟨h3 0 (by omega),.inl ⟨d,by omega,by rw[show i+1+d=i+(d+1)by omega];exact h2,fun j hj=>?_⟩⟩
     rw[show i+1+j=i+(j+1)by omega];exact h3 (j+1) (by omega)
   ·refine .inr ⟨h1 0 (by omega),.inr ⟨fun j hj=>?_,h2⟩⟩
    rw[show i+1+j=i+(j+1)by omega];exact h1 (j+1) (by omega)
def nxN (n bk i:Nat):Nat:=if i+1<n then i+1 else bk
def posN (n bk:Nat):Nat→Nat
 |0=>0
 |k+1=>nxN n bk (posN n bk k)
section
variable {n bk:Nat} {p q:Nat→Bool}
theorem nxN_lt (h:bk<n) (i:Nat):nxN n bk i<n:=by unfold nxN;split<;>omega
theorem posN_lt (h:bk<n):∀k,posN n bk k<n
 |0=>by simp only[posN];omega
 |k+1=>nxN_lt h _
def edgeB (p q:Nat→Bool) (n bk:Nat) (t:Bool):Bool:=finB p q t (n - bk) bk
def walkB (p q:Nat→Bool) (n bk:Nat) (t:Bool) (i:Nat):Bool:=finB p q (edgeB p q n bk t) (n - i) i
theorem edge_edge (t:Bool):walkB p q n bk t bk=edgeB p q n bk t:=by
 rw[Bool.eq_iff_iff]
 unfold walkB
 rw[finB_iff]
 unfold edgeB
 rw[finB_iff]
 constructor
 ·rintro(h|⟨h,h'⟩)
  ·exact .inl h
  ·exact h'
 ·rintro(h|⟨h,h'⟩)
  ·exact .inl h
  ·exact .inr ⟨h,.inr ⟨h,h'⟩⟩
theorem walk_step (h:bk<n) (t:Bool) {i:Nat} (hi:i<n):walkB p q n bk t i=(p i||(q i&&walkB p q n bk t (nxN n bk i))):=by
 unfold nxN
 split
 ·unfold walkB
  rw[show n - i=(n - (i+1))+1 by omega]
  rfl
 ·rw[edge_edge]
  unfold walkB
  rw[show n - i=0+1 by omega]
  rfl
theorem posN_go (k:Nat):∀d,posN n bk k+d<n→posN n bk (k+d)=posN n bk k+d
 |0,h=>rfl
 |d+1,h=>by
  rw[show k+(d+1)=(k+d)+1 by omega,posN,posN_go k d (by omega),nxN,if_pos (by omega)];omega
theorem posN_edge (hb:bk<n) (k:Nat):posN n bk (k+(n - posN n bk k))=bk:=by
 have h:=posN_lt hb k
 rw[show k+(n - posN n bk k)=(k+(n - posN n bk k - 1))+1 by omega,posN,posN_go k _ (by omega),nxN,if_neg (by omega)]
def UntP (P Q:Nat→Prop) (k:Nat):Prop:=∃d,P (k+d)∧∀j,j<d→Q (k+j)
theorem walk_of_unt (hb:bk<n) (t:Bool):∀(d k:Nat),p (posN n bk (k+d))=true→(∀j,j<d→q (posN n bk (k+j))=true)→walkB p q n bk t (posN n bk k)=true
 |0,k,h1,h2=>by rw[walk_step hb t (posN_lt hb k)];simp only[Nat.add_zero]at h1;rw[h1];rfl
 |d+1,k,h1,h2=>by
  rw[walk_step hb t (posN_lt hb k),show q (posN n bk k)=true from h2 0 (by omega)]
  have:=walk_of_unt hb t d (k+1) (by rw[show k+1+d=k+(d+1)by omega];exact h1) (fun j hj=>by rw[show k+1+j=k+(j+1)by omega];exact h2 (j+1) (by omega))
  simp only[posN]at this
  rw[this];simp
theorem walk_false (hb:bk<n) (k:Nat):walkB p q n bk false (posN n bk k)=true↔UntP (fun i=>p (posN n bk i)=true) (fun i=>q (posN n bk i)=true) k:=by
 constructor
 ·intro h
  have hk:=posN_lt hb k
  unfold walkB at h
  rw[finB_iff]at h
  rcases h with⟨d,h1,h2,h3⟩|⟨h1,h2⟩
  ·exact⟨d,by show p (posN n bk (k+d))=true;rw[posN_go k d (by omega)];exact h2,fun j hj=>by show q (posN n bk (k+j))=true;rw[posN_go k j (by omega)];exact h3 j hj⟩
  ·unfold edgeB at h2
   rw[finB_iff]at h2
   rcases h2 with⟨d,h4,h5,h6⟩|⟨_,h4⟩
   ·have he:=posN_edge hb k
    have hg:∀j,j≤d→posN n bk (k+(n - posN n bk k)+j)=bk+j:=fun j hj=>by rw[posN_go _ j (by rw[he];omega),he]
    refine⟨(n - posN n bk k)+d,by show p (posN n bk (k+_))=true;rw[←Nat.add_assoc,hg d (Nat.le_refl _)];exact h5,fun j hj=>?_⟩
    show q (posN n bk (k+j))=true
    by_cases hlt:j<n - posN n bk k
    ·rw[posN_go k j (by omega)];exact h1 j hlt
    ·have:=hg (j - (n - posN n bk k)) (by omega)
     rw[show k+(n - posN n bk k)+(j - (n - posN n bk k))=k+j by omega]at this
     rw[this];exact h6 _ (by omega)
   ·cases h4
 ·rintro⟨d,h1,h2⟩
  exact walk_of_unt hb false d k h1 h2
theorem walk_true (hb:bk<n) (k:Nat):walkB p q n bk true (posN n bk k)=true↔UntP (fun i=>p (posN n bk i)=true) (fun i=>q (posN n bk i)=true) k∨∀j,q (posN n bk (k+j))=true:=by
 constructor
 ·intro h
  by_cases hu:UntP (fun i=>p (posN n bk i)=true) (fun i=>q (posN n bk i)=true) k
  ·exact .inl hu
  ·refine .inr fun j=>?_
   have key:∀j,(∀i,i<j→q (posN n bk (k+i))=true)∧walkB p q n bk true (posN n bk (k+j))=true:=by
    intro j
    induction j with
    |zero=>exact⟨fun i hi=>absurd hi (Nat.not_lt_zero _),h⟩
    |succ j ih=>
     obtain⟨h1,h2⟩:=ih
     rw[walk_step hb true (posN_lt hb _),Bool.or_eq_true,Bool.and_eq_true]at h2
     rcases h2 with h2|⟨h2,h3⟩
     ·exact(hu ⟨j,h2,h1⟩).elim
     ·refine⟨fun i hi=>?_,h3⟩
      rcases Nat.lt_or_ge i j with h|h
      ·exact h1 i h
      ·have:i=j:=by omega
       subst this;exact h2
   exact(key (j+1)).1 j (by omega)
 ·rintro(⟨d,h1,h2⟩|h)
  ·exact walk_of_unt hb true d k h1 h2
  ·have hk:=posN_lt hb k
   unfold walkB
   rw[finB_iff]
   refine .inr ⟨fun j hj=>by rw[←posN_go k j (by omega)];exact h j,?_⟩
   unfold edgeB
   rw[finB_iff]
   refine .inr ⟨fun j hj=>?_,rfl⟩
   have he:=posN_edge hb k
   have:=h ((n - posN n bk k)+j)
   rwa [←Nat.add_assoc,posN_go _ j (by rw[he];omega),he]at this
end
def Pr.sat (lb:ByteArray→Nat→Prop):Pr→Nat→Prop
 |.tt,_=>True
 |.ff,_=>False
 |.lab s,k=>lb s k
 |.un .no a,k=>¬a.sat lb k
 |.un .X a,k=>a.sat lb (k+1)
 |.un .F a,k=>∃d,a.sat lb (k+d)
 |.un .G a,k=>∀d,a.sat lb (k+d)
 |.bi .and a b,k=>a.sat lb k∧b.sat lb k
 |.bi .or a b,k=>a.sat lb k∨b.sat lb k
 |.bi .imp a b,k=>a.sat lb k→b.sat lb k
 |.bi .U a b,k=>UntP (b.sat lb) (a.sat lb) k
 |.bi .W a b,k=>UntP (b.sat lb) (a.sat lb) k∨∀d,a.sat lb (k+d)
 |.bi .R a b,k=>UntP (fun i=>b.sat lb i∧a.sat lb i) (b.sat lb) k∨∀d,b.sat lb (k+d)
def Pr.labs (ok:ByteArray→Prop):Pr→Prop
 |.tt=>True
 |.ff=>True
 |.lab s=>ok s
 |.un _ a=>a.labs ok
 |.bi _ a b=>a.labs ok∧b.labs ok
end Go.Sc
namespace Go.Sc
open Go Go.Cm
open Go.Sd (wrap_id)
theorem nxt_nat {n bk i:Nat} (hn:n≤34359738368) (hi:i<n):nxt n bk i=((nxN n bk i:Nat):Int):=by
 unfold nxt nxN
 rw[wrap_id (by omega) (by omega)]
 by_cases h:i+1<n
 ·rw[if_pos h,if_pos (by omega)];omega
 ·rw[if_neg h,if_neg (by omega)]
theorem pass_fin {now:Int→Bool→Option Bool} {p q:Nat→Bool} {n bk:Nat} (hb:bk<n) (hn:n≤34359738368) (hnow:∀(i:Nat) (l:Bool),i<n→now (i:Int) l=some (p i||(q i&&l))) (e:Bool):
  ∀(m:Nat) (l:List Bool),m≤n→l.length=n→(∀i,m≤i→i<n→l[i]? =some (finB p q e (n - i) i))→(bk<m→l[bk]? =some e)→
   ∃r,passS now n bk m l=some r∧r.length=n∧∀i,i<n→r[i]? =some (finB p q e (n - i) i)
 |0,l,hm,hl,hd,he=>⟨l,rfl,hl,fun i hi=>hd i (by omega) hi⟩
 |m+1,l,hm,hl,hd,he=>by
  have hx:l[(nxt n bk m).toNat]? =some (finB p q e (n - (m+1)) (m+1)):=by
   rw[nxt_nat hn (by omega),Int.toNat_natCast];unfold nxN
   split
   ·rename_i h;exact hd (m+1) (by omega) h
   ·rename_i h;rw[show n - (m+1)=0 by omega];exact he (by omega)
  have h0:0≤nxt n bk m:=by rw[nxt_nat hn (by omega)];omega
  simp only[passS]
  rw[if_pos h0,hx]
  simp only
  rw[hnow m _ (by omega)]
  simp only
  refine pass_fin hb hn hnow e m _ (by omega) (by rw[List.length_set];exact hl) (fun i h1 h2=>?_) (fun h=>?_)
  ·rw[List.getElem?_set]
   split
   ·rename_i hi
    subst hi
    rw[if_pos (by omega),show n - m=(n - (m+1))+1 by omega];rfl
   ·exact hd i (by omega) h2
  ·rw[List.getElem?_set,if_neg (by omega)]
   exact he (by omega)
theorem getD_of {l:List Bool} {i:Nat} {b:Bool} (h:l[i]? =some b):l.getD i false=b:=by rw[List.getD_eq_getElem?_getD,h];rfl
theorem along_ex {g:Nat} {cs:List TV} {p q:Nat→Bool} {n bk:Nat} (hb:bk<n) (hn:n≤34359738368) (t:Bool)
  (hnow:∀(i:Nat) (l:Bool),i<n→nowB g (.d true 0 (.int .i64 (i:Int))::.d true 0 (.bool l)::cs)=some (p i||(q i&&l))):
  ∃l,alongB g cs n bk t=some l∧l.length=n∧∀i,i<n→l.getD i false=walkB p q n bk t i:=by
 obtain⟨r1,h1,h2,h3⟩:=pass_fin (now:=fun i l=>nowB g (.d true 0 (.int .i64 i)::.d true 0 (.bool l)::cs)) hb hn hnow t n (List.replicate n t) (Nat.le_refl _) (by simp) (fun i a b=>absurd b (by omega)) (fun h=>by simp[h])
 obtain⟨r2,h4,h5,h6⟩:=pass_fin (now:=fun i l=>nowB g (.d true 0 (.int .i64 i)::.d true 0 (.bool l)::cs)) hb hn hnow (edgeB p q n bk t) n r1 (Nat.le_refl _) h2 (fun i a b=>absurd b (by omega)) (fun h=>h3 bk h)
 refine⟨r2,?_,h5,fun i hi=>getD_of (h6 i hi)⟩
 unfold alongB alongS
 rw[h1];exact h4
theorem each_fn {sem:Int→Option Bool} {f:Nat→Bool}:∀(m i:Nat),(∀j:Nat,i≤j→j<i+m→sem (j:Int)=some (f j))→∃bs,eachS sem i m=some bs∧bs.length=m∧∀j,j<m→bs[j]? =some (f (i+j))
 |0,i,h=>⟨[],rfl,rfl,fun j hj=>absurd hj (Nat.not_lt_zero _)⟩
 |m+1,i,h=>by
  obtain⟨bs,h1,h2,h3⟩:=each_fn m (i+1) (fun j a b=>h j (by omega) (by omega))
  refine⟨f i::bs,?_,by simp[h2],fun j hj=>?_⟩
  ·simp only[eachS]
   rw[h i (Nat.le_refl _) (by omega)]
   simp only
   rw[h1];rfl
  ·cases j with
   |zero=>rfl
   |succ j=>rw[List.getElem?_cons_succ,h3 j (by omega),show i+1+j=i+(j+1)by omega]
theorem each_ex {g:Nat} {cs:List TV} {f:Nat→Bool} {n:Nat} (h:∀i:Nat,i<n→semB g (.d true 0 (.int .i64 (i:Int))::cs)=some (f i)):
  ∃l,eachB g cs n=some l∧l.length=n∧∀i,i<n→l.getD i false=f i:=by
 obtain⟨bs,h1,h2,h3⟩:=each_fn (sem:=fun i=>semB g (.d true 0 (.int .i64 i)::cs)) (f:=f) n 0 (fun j _ b=>h j (by omega))
 exact⟨bs,h1,h2,fun i hi=>getD_of (by rw[h3 i hi,Nat.zero_add])⟩
theorem bAt_bD {l:List Bool} {i:Nat} (h:i<l.length):bAt (bD l) (i:Int)=some (l.getD i false):=by
 unfold bAt
 rw[if_pos (by omega),Int.toNat_natCast]
 simp[bD,h]
section
variable {ns al:List D} {n bk:Nat} {a:Nat→Int}
structure Wd (al:List D) (n bk:Nat) (a:Nat→Int):Prop where
 len:al.length=n
 bk:bk<n
 big:n≤34359738368
 at':∀i,i<n→al[i]? =some (.int .i64 (a i))
structure Ts (n:Nat) (l:List Bool) (f:Nat→Bool):Prop where
 len:l.length=n
 at':∀i,i<n→l.getD i false=f i
theorem Ts.b {l:List Bool} {f:Nat→Bool} (h:Ts n l f) {i:Nat} (hi:i<n):bAt (bD l) (i:Int)=some (f i):=by rw[bAt_bD (by rw[h.len];exact hi),h.at' i hi]
theorem until_ex (hw:Wd al n bk a) {x y:List Bool} {f g:Nat→Bool} (hx:Ts n x f) (hy:Ts n y g):∃l,untilB al.length bk (bD x) (bD y)=some l∧Ts n l (walkB g f n bk false):=by
 obtain⟨l,h1,h2,h3⟩:=along_ex (g:=120) (cs:=[.d true 0 (.pt 0 (.sl 0 (bD y))),.d true 0 (.pt 0 (.sl 0 (bD x)))]) (p:=g) (q:=f) hw.bk hw.big false (fun i l hi=>by
  simp only[nowB,now2]
  rw[hx.b hi,hy.b hi]
  cases g i<;>cases f i<;>cases l<;>rfl)
 exact⟨l,by rw[hw.len];exact h1,h2,h3⟩
theorem forever_ex (hw:Wd al n bk a) {x:List Bool} {f:Nat→Bool} (hx:Ts n x f):∃l,foreverB al.length bk (bD x)=some l∧Ts n l (walkB (fun _=>false) f n bk true):=by
 obtain⟨l,h1,h2,h3⟩:=along_ex (g:=121) (cs:=[.d true 0 (.pt 0 (.sl 0 (bD x)))]) (p:=fun _=>false) (q:=f) hw.bk hw.big true (fun i l hi=>by
  simp only[nowB,now1]
  rw[hx.b hi]
  cases f i<;>cases l<;>rfl)
 exact⟨l,by rw[hw.len];exact h1,h2,h3⟩
theorem rel_ex (hw:Wd al n bk a) {x y:List Bool} {f g:Nat→Bool} (hx:Ts n x f) (hy:Ts n y g):∃l,alongB 110 [.d true 0 (.pt 0 (.sl 0 (bD y))),.d true 0 (.pt 0 (.sl 0 (bD x)))] al.length bk true=some l∧Ts n l (walkB (fun i=>g i&&f i) g n bk true):=by
 obtain⟨l,h1,h2,h3⟩:=along_ex (g:=110) (cs:=[.d true 0 (.pt 0 (.sl 0 (bD y))),.d true 0 (.pt 0 (.sl 0 (bD x)))]) (p:=fun i=>g i&&f i) (q:=g) hw.bk hw.big true (fun i l hi=>by
  simp only[nowB,now2]
  rw[hx.b hi,hy.b hi]
  cases g i<;>cases f i<;>cases l<;>rfl)
 exact⟨l,by rw[hw.len];exact h1,h2,h3⟩
theorem each2_eq (o:Bool→Bool→Bool) {v w:Bool} (ho:o v w=if v then(if o true true then(if o true false then true else w)else false)else(if o false true then(if o false false then true else w)else false)):
  ((some v).bind fun v=>if v then(if o true true then(if o true false then some true else some w)else some false)else(if o false true then(if o false false then some true else some w)else some false))=some (o v w):=by
 rw[ho]
 cases v<;>cases o true true<;>cases o true false<;>cases o false true<;>cases o false false<;>rfl
theorem each2 (hw:Wd al n bk a) (c:Nat) (o:Bool→Bool→Bool) (hc:∀(i:Int) (x y:List D),sem2 c i (.sl 0 x) (.sl 0 y)=(bAt x i).bind fun v=>if v then(if o true true then(if o true false then some true else bAt y i)else some false)else(if o false true then(if o false false then some true else bAt y i)else some false))
  (ho:∀x y,o x y=if x then(if o true true then(if o true false then true else y)else false)else(if o false true then(if o false false then true else y)else false))
  {x y:List Bool} {f g:Nat→Bool} (hx:Ts n x f) (hy:Ts n y g):∃l,eachB c [.d true 0 (.pt 0 (.sl 0 (bD x))),.d true 0 (.pt 0 (.sl 0 (bD y)))] al.length=some l∧Ts n l (fun i=>o (f i) (g i)):=by
 obtain⟨l,h1,h2,h3⟩:=each_ex (g:=c) (cs:=[.d true 0 (.pt 0 (.sl 0 (bD x))),.d true 0 (.pt 0 (.sl 0 (bD y)))]) (f:=fun i=>o (f i) (g i)) (n:=n) (fun i hi=>by
  show sem2 c i (.sl 0 (bD x)) (.sl 0 (bD y))=some (o (f i) (g i))
  rw[hc,hx.b hi,hy.b hi]
  exact each2_eq o (ho (f i) (g i)))
 exact⟨l,by rw[hw.len];exact h1,h2,h3⟩
def lbAt (ns:List D) (L:Nat→Int) (s:ByteArray) (k:Nat):Prop:=∃i:Int,0≤i∧idxN s ns 0=some i∧bitA (L k) i=true
def lbOk (ns:List D) (s:ByteArray):Prop:=∃i:Int,0≤i∧idxN s ns 0=some i
theorem ts_true (hw:Wd al n bk a):∃l,eachB 99 [] al.length=some l∧Ts n l (fun _=>true):=by
 obtain⟨l,h1,h2,h3⟩:=each_ex (g:=99) (cs:=[]) (f:=fun _=>true) (n:=n) (fun i hi=>rfl)
 exact⟨l,by rw[hw.len];exact h1,h2,h3⟩
theorem truth_sat (hw:Wd al n bk a):∀(t:Pr) (f:Fm),f.abs=some t→t.labs (lbOk ns)→
  ∃l g,truthF ns al bk f=some (.inr l)∧Ts n l g∧∀k,g (posN n bk k)=true↔t.sat (lbAt ns fun k=>a (posN n bk k)) k
 |t,f,h,hl=>by
  rcases abs_inv h with⟨op,nm,p,rfl,h1⟩|⟨op,nm,b,p,o,x,rfl,h1,h2,rfl⟩|⟨op,nm,b,c,p,o,x,y,rfl,h1,h2,h3,rfl⟩
  ·simp only[truthF,truthL]
   rcases h1 with⟨h1,rfl⟩|⟨h1,rfl⟩|⟨h1,rfl⟩
   ·rw[h1]
    refine⟨List.replicate n true,fun _=>true,?_,⟨by simp,fun i hi=>getD_of (by simp[hi])⟩,fun k=>by simp[Pr.sat]⟩
    rw[hw.len];rfl
   ·rw[h1]
    refine⟨List.replicate n false,fun _=>false,?_,⟨by simp,fun i hi=>getD_of (by simp[hi])⟩,fun k=>by simp[Pr.sat]⟩
    rw[hw.len];rfl
   ·rw[h1]
    obtain⟨i,hi0,hi⟩:=hl
    obtain⟨l,e1,e2,e3⟩:=each_ex (g:=98) (cs:=[.d true 0 (.pt 0 (.pt 4 (.ag [.sl 0 ns,.sl 0 al,.int .i64 bk]))),.d true 0 (.pt 0 (.int .i64 i))]) (f:=fun j=>bitA (a j) i) (n:=n) (fun j hj=>by
     show(if 0≤i then(iAt al j).map (bitA · i)else none)=some (bitA (a j) i)
     rw[if_pos hi0]
     unfold iAt
     rw[if_pos (by omega),Int.toNat_natCast,hw.at' j hj]
     rfl)
    refine⟨l,_,?_,⟨e2,e3⟩,fun k=>?_⟩
    ·rw[if_neg (by decide),if_pos (by decide)]
     unfold labelB
     rw[hi]
     simp only
     rw[if_neg (by omega),hw.len,e1]
     rfl
    ·simp only[Pr.sat,lbAt]
     constructor
     ·exact fun h=>⟨i,hi0,hi,h⟩
     ·rintro⟨j,_,hj,h⟩
      rw[hi]at hj
      cases hj;exact h
  ·obtain⟨l,g,e1,e2,e3⟩:=truth_sat hw x b h2 hl
   obtain⟨yes,y1,y2⟩:=ts_true hw
   simp only[truthF,truthL,e1]
   unfold oneB
   rw[y1,h1]
   simp only
   cases o with
   |no=>
    obtain⟨r,r1,r2,r3⟩:=each_ex (g:=100) (cs:=[.d true 0 (.pt 0 (.sl 0 (bD l)))]) (f:=fun i=> !g i) (n:=n) (fun i hi=>by
     show(bAt (bD l) i).map (!·)=some (!g i)
     rw[e2.b hi];rfl)
    refine⟨r,_,?_,⟨r2,r3⟩,fun k=>?_⟩
    ·rw[if_pos (by decide),hw.len,r1];rfl
    ·simp only[Pr.sat, ←e3 k,Bool.not_eq_true',Bool.not_eq_true]
   |X=>
    obtain⟨r,r1,r2,r3⟩:=each_ex (g:=101) (cs:=[.d true 0 (.pt 0 (.sl 0 (bD l))),.d true 0 (.pt 0 (.pt 4 (.ag [.sl 0 ns,.sl 0 al,.int .i64 bk])))]) (f:=fun i=>g (nxN n bk i)) (n:=n) (fun i hi=>by
     show bAt (bD l) (nxt al.length bk i)=some (g (nxN n bk i))
     rw[hw.len,nxt_nat hw.big hi,e2.b (nxN_lt hw.bk i)])
    refine⟨r,_,?_,⟨r2,r3⟩,fun k=>?_⟩
    ·rw[if_neg (by decide),if_pos (by decide),hw.len,r1];rfl
    ·simp only[Pr.sat];exact e3 (k+1)
   |F=>
    obtain⟨r,r1,r2⟩:=until_ex hw y2 e2
    refine⟨r,_,?_,r2,fun k=>?_⟩
    ·rw[if_neg (by decide),if_neg (by decide),if_pos (by decide),r1];rfl
    ·rw[walk_false hw.bk]
     simp only[Pr.sat,UntP]
     exact⟨fun⟨d,h,_⟩=>⟨d,(e3 _).1 h⟩,fun⟨d,h⟩=>⟨d,(e3 _).2 h,fun _ _=>trivial⟩⟩
   |G=>
    obtain⟨r,r1,r2⟩:=forever_ex hw e2
    refine⟨r,_,?_,r2,fun k=>?_⟩
    ·rw[if_neg (by decide),if_neg (by decide),if_neg (by decide),if_pos (by decide),r1];rfl
    ·rw[walk_true hw.bk]
     simp only[Pr.sat,UntP]
     constructor
     ·rintro(⟨d,h,_⟩|h)
      ·cases h
      ·exact fun d=>(e3 _).1 (h d)
     ·exact fun h=>.inr fun d=>(e3 _).2 (h d)
  ·obtain⟨l,g,e1,e2,e3⟩:=truth_sat hw x b h2 hl.1
   obtain⟨m,u,f1,f2,f3⟩:=truth_sat hw y c h3 hl.2
   simp only[truthF,truthL,e1,f1]
   unfold twoB
   rw[h1]
   have hun:∀{k},UntP (fun i=>u (posN n bk i)=true) (fun i=>g (posN n bk i)=true) k↔UntP (y.sat (lbAt ns fun k=>a (posN n bk k))) (x.sat (lbAt ns fun k=>a (posN n bk k))) k:=by
    intro k
    exact⟨fun⟨d,h,h'⟩=>⟨d,(f3 _).1 h,fun j hj=>(e3 _).1 (h' j hj)⟩,fun⟨d,h,h'⟩=>⟨d,(f3 _).2 h,fun j hj=>(e3 _).2 (h' j hj)⟩⟩
   cases o with
   |and=>
    obtain⟨r,r1,r2⟩:=each2 hw 105 and (fun i x y=>rfl) (by decide) e2 f2
    refine⟨r,_,?_,r2,fun k=>?_⟩
    ·rw[if_pos (by decide),r1];rfl
    ·simp only[Pr.sat, ←e3 k, ←f3 k,Bool.and_eq_true]
   |or=>
    obtain⟨r,r1,r2⟩:=each2 hw 106 or (fun i x y=>rfl) (by decide) e2 f2
    refine⟨r,_,?_,r2,fun k=>?_⟩
    ·rw[if_neg (by decide),if_pos (by decide),r1];rfl
    ·simp only[Pr.sat, ←e3 k, ←f3 k,Bool.or_eq_true]
   |imp=>
    obtain⟨r,r1,r2⟩:=each2 hw 107 (fun x y=> !x||y) (fun i x y=>rfl) (by decide) e2 f2
    refine⟨r,_,?_,r2,fun k=>?_⟩
    ·rw[if_neg (by decide),if_neg (by decide),if_pos (by decide),r1];rfl
    ·simp only[Pr.sat, ←e3 k, ←f3 k]
     cases g (posN n bk k)<;>cases u (posN n bk k)<;>simp
   |U=>
    obtain⟨r,r1,r2⟩:=until_ex hw e2 f2
    refine⟨r,_,?_,r2,fun k=>?_⟩
    ·rw[if_neg (by decide),if_neg (by decide),if_neg (by decide),if_pos (by decide),r1];rfl
    ·rw[walk_false hw.bk]
     exact hun
   |W=>
    obtain⟨r,r1,r2⟩:=until_ex hw e2 f2
    obtain⟨v,v1,v2⟩:=forever_ex hw e2
    obtain⟨z,z1,z2⟩:=each2 hw 108 or (fun i x y=>rfl) (by decide) r2 v2
    refine⟨z,_,?_,z2,fun k=>?_⟩
    ·rw[if_neg (by decide),if_neg (by decide),if_neg (by decide),if_neg (by decide),if_pos (by decide),r1,v1]
     simp only
     rw[z1];rfl
    ·rw[Bool.or_eq_true,walk_false hw.bk,walk_true hw.bk,hun]
     simp only[Pr.sat]
     constructor
     ·rintro(h|⟨d,h,_⟩|h)
      ·exact .inl h
      ·cases h
      ·exact .inr fun d=>(e3 _).1 (h d)
     ·rintro(h|h)
      ·exact .inl h
      ·exact .inr (.inr fun d=>(e3 _).2 (h d))
   |R=>
    obtain⟨r,r1,r2⟩:=rel_ex hw e2 f2
    refine⟨r,_,?_,r2,fun k=>?_⟩
    ·rw[if_neg (by decide),if_neg (by decide),if_neg (by decide),if_neg (by decide),if_neg (by decide),if_pos (by decide),r1];rfl
    ·rw[walk_true hw.bk]
     simp only[Pr.sat]
     constructor
     ·rintro(⟨d,h,h'⟩|h)
      ·have h:(u (posN n bk (k+d))&&g (posN n bk (k+d)))=true:=h
       rw[Bool.and_eq_true]at h
       exact .inl ⟨d,⟨(f3 _).1 h.1,(e3 _).1 h.2⟩,fun j hj=>(f3 _).1 (h' j hj)⟩
      ·exact .inr fun d=>(f3 _).1 (h d)
     ·rintro(⟨d,h,h'⟩|h)
      ·exact .inl ⟨d,by show(u (posN n bk (k+d))&&g (posN n bk (k+d)))=true;rw[Bool.and_eq_true];exact⟨(f3 _).2 h.1,(e3 _).2 h.2⟩,fun j hj=>(f3 _).2 (h' j hj)⟩
      ·exact .inr fun d=>(f3 _).2 (h d)
theorem truth_labs (bk:Int):∀(t:Pr) (f:Fm) (l:List Bool),f.abs=some t→truthF ns al bk f=some (.inr l)→t.labs (lbOk ns)
 |t,f,l,h,hl=>by
  rcases abs_inv h with⟨op,nm,p,rfl,h1⟩|⟨op,nm,b,p,o,x,rfl,h1,h2,rfl⟩|⟨op,nm,b,c,p,o,x,y,rfl,h1,h2,h3,rfl⟩
  ·rcases h1 with⟨h1,rfl⟩|⟨h1,rfl⟩|⟨h1,rfl⟩
   ·trivial
   ·trivial
   ·simp only[truthF,truthL]at hl
    rw[h1,if_neg (by decide),if_pos (by decide)]at hl
    unfold labelB at hl
    split at hl
    ·rename_i i hi
     split at hl
     ·cases hl
     ·exact⟨i,by omega,hi⟩
    ·cases hl
  ·simp only[truthF,truthL]at hl
   cases e:truthF ns al bk b with
   |none=>rw[e]at hl;cases hl
   |some r=>
    cases r with
    |inl v=>rw[e]at hl;cases hl
    |inr m=>exact truth_labs bk x b m h2 e
  ·simp only[truthF,truthL]at hl
   cases e:truthF ns al bk b with
   |none=>rw[e]at hl;cases hl
   |some r=>
    cases r with
    |inl v=>rw[e]at hl;cases hl
    |inr m=>
     cases e':truthF ns al bk c with
     |none=>rw[e,e']at hl;cases hl
     |some r=>
      cases r with
      |inl v=>rw[e,e']at hl;cases hl
      |inr m'=>exact⟨truth_labs bk x b m h2 e,truth_labs bk y c m' h3 e'⟩
theorem idxN_any (s:ByteArray):∀(ns:List D) (k:Nat),(∀d∈ns,∃u,d=.str u)→∃i,idxN s ns k=some i
 |[],k,h=>⟨_,rfl⟩
 |x::r,k,h=>by
  obtain⟨u,rfl⟩:=h x (.head _)
  simp only[idxN]
  split
  ·exact⟨_,rfl⟩
  ·exact idxN_any s r (k+1) fun d hd=>h d (.tail _ hd)
theorem truth_any (hw:Wd al n bk a) (hn:∀d∈ns,∃u,d=.str u):∀(t:Pr) (f:Fm),f.abs=some t→∃r,truthF ns al bk f=some r
 |t,f,h=>by
  by_cases hl:t.labs (lbOk ns)
  ·obtain⟨l,g,e,_⟩:=truth_sat hw t f h hl
   exact⟨_,e⟩
  rcases abs_inv h with⟨op,nm,p,rfl,h1⟩|⟨op,nm,b,p,o,x,rfl,h1,h2,rfl⟩|⟨op,nm,b,c,p,o,x,y,rfl,h1,h2,h3,rfl⟩
  ·rcases h1 with⟨h1,rfl⟩|⟨h1,rfl⟩|⟨h1,rfl⟩
   ·exact(hl trivial).elim
   ·exact(hl trivial).elim
   ·simp only[truthF,truthL]
    rw[h1,if_neg (by decide),if_pos (by decide)]
    obtain⟨i,hi⟩:=idxN_any nm ns 0 hn
    unfold labelB
    rw[hi]
    simp only
    by_cases h0:i<0
    ·rw[if_pos h0];exact⟨_,rfl⟩
    ·exact(hl ⟨i,by omega,hi⟩).elim
  ·obtain⟨r,e⟩:=truth_any hw hn x b h2
   simp only[truthF,truthL,e]
   cases r with
   |inl v=>exact⟨_,rfl⟩
   |inr m=>exact(hl (truth_labs bk x b m h2 e)).elim
  ·obtain⟨r,e⟩:=truth_any hw hn x b h2
   obtain⟨r',e'⟩:=truth_any hw hn y c h3
   simp only[truthF,truthL,e,e']
   cases r with
   |inl v=>exact⟨_,rfl⟩
   |inr m=>
    cases r' with
    |inl v=>exact⟨_,rfl⟩
    |inr m'=>exact(hl ⟨truth_labs bk x b m h2 e,truth_labs bk y c m' h3 e'⟩).elim
end
end Go.Sc
namespace Go.Sc
open Go Go.Cm Go.Proofs
def LW (l:List D):Prop:=∀d∈l,∃v:Int,d=.int .i64 v∧0≤v∧v<8
def aD (l:List D) (i:Nat):Int:=match l[i]? with|some (.int .i64 v)=>v|_=>0
def strm (st lp:List D) (k:Nat):Int:=aD (st++lp) (posN (st.length+lp.length) st.length k)
theorem lform_abs:∀(t:Pr) (f:Fm),f.abs=some t→lformF f=true
 |t,f,h=>by
  rcases abs_inv h with⟨op,nm,p,rfl,h1⟩|⟨op,nm,a,p,o,x,rfl,h1,h2,rfl⟩|⟨op,nm,a,b,p,o,x,y,rfl,h1,h2,h3,rfl⟩
  ·simp only[lformF,lformL,Bool.and_true,decide_eq_true_eq]
   unfold wantN
   rcases h1 with⟨h1,rfl⟩|⟨h1,rfl⟩|⟨h1,rfl⟩<;>rw[h1]<;>rfl
  ·simp only[lformF,lformL,lform_abs x a h2,Bool.and_true,decide_eq_true_eq]
   unfold wantN
   rw[h1]
   cases o<;>rfl
  ·simp only[lformF,lformL,lform_abs x a h2,lform_abs y b h3,Bool.and_true,decide_eq_true_eq]
   unfold wantN
   rw[h1]
   cases o<;>rfl
end Go.Sc
namespace Go.Sc
open Go Go.Cm Go.Proofs
section
variable (lb:ByteArray→Nat→Prop) (a b:Pr) (k:Nat)
end
structure Fa (x:D) (t:Pr):Prop where
 fm:∃f,ofD x=some f∧f.abs=some t
 lab:t.labs (lbOk namesD)
structure Wo (st lp:List D):Prop where
 hs:LW st
 hl:LW lp
 ne:lp≠[]
 len:st.length+lp.length≤64
theorem parse_fm {s:ByteArray} {d:Int} {op nm:ByteArray} {ks:List D} {p:Int} (h:parseP s d=.ok op nm ks p) (hs:s.size≤200):∃f t,ofD (.ag [.str op,.str nm,.sl 5 ks,.int .i64 p])=some f∧f.abs=some t∧t.sz≤201:=by
 obtain⟨f,t,h1,h2,_,h4⟩:=parse_ok h
 exact⟨f,t,h1,h2,by omega⟩
end Go.Sc
namespace Go.Sc
open Go Go.Cm Go.Proofs
end Go.Sc
namespace Go.Sc
open Go Go.Cm Go.Proofs
end Go.Sc

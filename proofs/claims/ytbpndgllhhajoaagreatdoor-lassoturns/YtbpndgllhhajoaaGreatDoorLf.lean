/- Made by a program of the session's own (tools/gen_scan.py): what functions come to, segment by segment. -/
import Derived.Test.YtbpndgllhhajoaaGreatDoorLd
import Derived.Test.YtbpndgllhhajoaaGreatDoorLe
set_option linter.unusedVariables false
set_option linter.unusedSimpArgs false
namespace Go.Sd
open Go Go.Cm Go.Proofs Go.Sc
set_option maxRecDepth 100000
namespace Q9A
noncomputable def X:Fx:=⟨Tryz.prog,WQ,1,0⟩
theorem start {β:Type} (k:List TV→List TV→Option β):evalF Tryz.prog WQ Tryz.f9 [] k=match parseP (ByteArray.mk #[71,32,70,32,34,97,34]) (9:Int)with
   |PA.ok op2 nm3 ks4 p5=>match holdX Tryz.prog (D.ag [D.str op2,D.str nm3,D.sl 5 ks4,D.int .i64 p5]) [D.str (ByteArray.mk #[97])] [] [D.int .i64 0,D.int .i64 1]with
    |some b7=>match holdX Tryz.prog (D.ag [D.str op2,D.str nm3,D.sl 5 ks4,D.int .i64 p5]) [D.str (ByteArray.mk #[97])] [D.int .i64 1] [D.int .i64 0]with
     |some b9=>if b7=true then if(!b9)=true then match checkS Tryz.prog [] [] []with
      |some true=>k [.d false 0 (D.bool false)] []
      |some false=>k [.d false 0 (D.bool true)] []
      |none=>none else k [.d false 0 (D.bool false)] []else k [.d false 0 (D.bool false)] []
     |none=>none
    |none=>none
   |PA.no n13=>match holdX Tryz.prog (D.ag [D.str (ByteArray.mk #[]),D.str (ByteArray.mk #[]),D.sl 5 [],D.int .i64 0]) [D.str (ByteArray.mk #[97])] [] [D.int .i64 0,D.int .i64 1]with
    |some b15=>match holdX Tryz.prog (D.ag [D.str (ByteArray.mk #[]),D.str (ByteArray.mk #[]),D.sl 5 [],D.int .i64 0]) [D.str (ByteArray.mk #[97])] [D.int .i64 1] [D.int .i64 0]with
     |some b17=>k [.d false 0 (D.bool false)] []
     |none=>none
    |none=>none
   |PA.er p19 n20=>match holdX Tryz.prog (D.ag [D.str (ByteArray.mk #[]),D.str (ByteArray.mk #[]),D.sl 5 [],D.int .i64 0]) [D.str (ByteArray.mk #[97])] [] [D.int .i64 0,D.int .i64 1]with
    |some b22=>match holdX Tryz.prog (D.ag [D.str (ByteArray.mk #[]),D.str (ByteArray.mk #[]),D.sl 5 [],D.int .i64 0]) [D.str (ByteArray.mk #[97])] [D.int .i64 1] [D.int .i64 0]with
     |some b24=>k [.d false 0 (D.bool false)] []
     |none=>none
    |none=>none
   |PA.bad=>none:=by kernel_rfl
end Q9A
end Go.Sd
set_option maxRecDepth 100000
namespace Go.Sd
open Go Go.Cm Go.Proofs Go.Sc
theorem vcParse:VC 10 cParse:=fun β args k r hr=>envq5 β 10 args k r hr
theorem vcNum:VC 16 cNum:=fun β args k r hr=>envq0 β 16 args k r hr
theorem vcCheck:VC 38 cCheck:=fun β args k r hr=>envw11 β 38 args k r hr
theorem vcNames:VC 21 cNames:=fun β args k r hr=>envwx β 21 args k r hr
theorem envwq:EnvOk glS Tryz.prog WQ:=(((EnvOk.none.add vcParse).add vcHoldX).add vcCheck).add vcNum
def gfa:D:=.ag [.str ⟨#[71]⟩,.str ⟨#[]⟩,.sl 5 [.ag [.str ⟨#[70]⟩,.str ⟨#[]⟩,.sl 5 [.ag [.str ⟨#[108,97,98,101,108]⟩,.str ⟨#[97]⟩,.sl 5 [],.int .i64 4]],.int .i64 2]],.int .i64 0]
theorem hold_a:holdX Tryz.prog gfa [.str ⟨#[97]⟩] [] [.int .i64 0,.int .i64 1]=some true:=by kernel_rfl
theorem hold_b:holdX Tryz.prog gfa [.str ⟨#[97]⟩] [.int .i64 1] [.int .i64 0]=some false:=by kernel_rfl
theorem check_0:checkS Tryz.prog [] [] []=some false:=by kernel_rfl
theorem ev_alive {β:Type} (k:List TV→List TV→Option β):evalF Tryz.prog WQ Tryz.f9 [] k=k [.d false 0 (.bool true)] []:=by
 rw[Q9A.start,show parseP ⟨#[71,32,70,32,34,97,34]⟩ 9=.ok ⟨#[71]⟩ ⟨#[]⟩ [.ag [.str ⟨#[70]⟩,.str ⟨#[]⟩,.sl 5 [.ag [.str ⟨#[108,97,98,101,108]⟩,.str ⟨#[97]⟩,.sl 5 [],.int .i64 4]],.int .i64 2]] 0 from by kernel_rfl]
 simp only
 have ha:=hold_a
 have hb:=hold_b
 unfold gfa at ha hb
 rw[ha,hb,check_0]
 rfl
theorem vcAlive:VC 9 cTrue:=by
 intro β args k r hr
 change cTrue args k=some r at hr
 unfold cTrue at hr
 split at hr
 ·exact⟨_,_,hr,valid_of envwq mixed Tryz.func9 (by kernel_rfl) (ev_alive _)⟩
 ·cases hr
theorem envwy:EnvOk glS Tryz.prog WY:=((((((((EnvOk.none.add vcAlive).add vcParse).add vcHoldX).add vcOtherX).add vcWord).add vcNames).add vcFm1X).add vcFmNotX).add vcFm2X
end Go.Sd
namespace Go.Sc
open Go Go.Cm Go.Proofs
def U8D (l:List D):Prop:=∀d∈l,∃m:Int,d=.int .u8 m∧0≤m∧m<256
theorem lett_ok:∀{l:List D},U8D l→∃x,lettS l=some x∧LW x∧x.length=l.length
 |[],_=>⟨[],rfl,(fun d hd=>by cases hd),rfl⟩
 |d::r,h=>by
  obtain⟨m,e,h0,h1⟩:=h d (.head _)
  subst e
  obtain⟨x,e,hx,hl⟩:=lett_ok (l:=r) fun d hd=>h d (.tail _ hd)
  have hw:IntKind.wrap .i64 m=m:=Go.Sd.wrap_id (by omega) (by omega)
  refine⟨.int .i64 (Int.tmod m 8)::x,by simp only[lettS,e,hw],fun d hd=>?_,by simp[hl]⟩
  rcases List.mem_cons.1 hd with rfl|hd
  ·exact⟨_,rfl,Int.tmod_nonneg _ h0,Int.tmod_lt_of_pos _ (by decide)⟩
  ·exact hx d hd
theorem loopOf_ok {y:List D} (h:LW y):LW (loopOf y)∧loopOf y≠[]∧(loopOf y).length≤max y.length 1:=by
 unfold loopOf
 split
 ·exact⟨lw_zero,by simp,by simp⟩
 ·rename_i h1
  exact⟨h,h1,by omega⟩
theorem word_ok {a b:List D} (ha:U8D a) (hb:U8D b):∃x y,lettS (a.take 8)=some x∧lettS (b.take 8)=some y∧LW x∧LW (loopOf y)∧loopOf y≠[]∧x.length≤8∧(loopOf y).length≤8:=by
 obtain⟨x,e1,h1,l1⟩:=lett_ok (l:=a.take 8) fun d hd=>ha d (List.mem_of_mem_take hd)
 obtain⟨y,e2,h2,l2⟩:=lett_ok (l:=b.take 8) fun d hd=>hb d (List.mem_of_mem_take hd)
 obtain⟨h3,h4,h5⟩:=loopOf_ok h2
 rw[List.length_take]at l1 l2
 exact⟨x,y,e1,e2,h1,h3,h4,by omega,by omega⟩
theorem all_step (Q:Nat→Prop) (k:Nat):(∀d,Q (k+d))↔Q k∧∀d,Q (k+1+d):=by
 constructor
 ·exact fun h=>⟨h 0,fun d=>by rw[show k+1+d=k+(d+1)by omega];exact h _⟩
 ·rintro⟨h,h1⟩ d
  cases d with
  |zero=>exact h
  |succ d=>rw[show k+(d+1)=k+1+d by omega];exact h1 d
section
variable (lb:ByteArray→Nat→Prop) (a b:Pr) (k:Nat)
end
theorem fm_two {x y:D} {f g:Fm} {t u:Pr} {ob nm:ByteArray} {p:Int} (o:B2) (ho:ob.toList=o.s) (hf:ofD x=some f) (ha:f.abs=some t) (hg:ofD y=some g) (hb:g.abs=some u):
  ∃h,ofD (.ag [.str ob,.str nm,.sl 5 [x,y],.int .i64 p])=some h∧h.abs=some (.bi o t u):=
 ⟨.mk ob nm [f,g] p,by simp only[ofD,ofDL,hf,hg],by simp only[Fm.abs,b2A,ho,b2_of,ha,hb]⟩
theorem fm_one {x:D} {f:Fm} {t:Pr} {ob nm:ByteArray} {p:Int} (o:U1) (ho:ob.toList=o.s) (hf:ofD x=some f) (ha:f.abs=some t):
  ∃h,ofD (.ag [.str ob,.str nm,.sl 5 [x],.int .i64 p])=some h∧h.abs=some (.un o t):=
 ⟨.mk ob nm [f] p,by simp only[ofD,ofDL,hf],by simp only[Fm.abs,u1A,ho,u1_of,ha]⟩
theorem isFm_of {x:D} {f:Fm} (h:ofD x=some f):isFm x=true:=by unfold isFm;rw[h];rfl
structure Fa (x:D) (t:Pr):Prop where
 fm:∃f,ofD x=some f∧f.abs=some t
 lab:t.labs (lbOk namesD)
theorem Fa.two {x y:D} {t u:Pr} {ob nm:ByteArray} {p:Int} (h:Fa x t) (k:Fa y u) (o:B2) (ho:ob.toList=o.s):Fa (.ag [.str ob,.str nm,.sl 5 [x,y],.int .i64 p]) (.bi o t u):=by
 obtain⟨f,h1,h2⟩:=h.fm
 obtain⟨g,k1,k2⟩:=k.fm
 exact⟨fm_two o ho h1 h2 k1 k2,h.lab,k.lab⟩
theorem Fa.one {x:D} {t:Pr} {ob nm:ByteArray} {p:Int} (h:Fa x t) (o:U1) (ho:ob.toList=o.s):Fa (.ag [.str ob,.str nm,.sl 5 [x],.int .i64 p]) (.un o t):=by
 obtain⟨f,h1,h2⟩:=h.fm
 exact⟨fm_one o ho h1 h2,h.lab⟩
theorem Fa.is {x:D} {t:Pr} (h:Fa x t):isFm x=true:=by obtain⟨f,h1,_⟩:=h.fm;exact isFm_of h1
structure Wo (st lp:List D):Prop where
 hs:LW st
 hl:LW lp
 ne:lp≠[]
 len:st.length+lp.length≤64
open Classical in
noncomputable def HB (t:Pr) (L:Nat→Int) (k:Nat):Bool:=decide (t.sat (lbAt namesD L) k)
open Classical in
theorem HB_iff {t:Pr} {L:Nat→Int} {k:Nat}:HB t L k=true↔t.sat (lbAt namesD L) k:=by unfold HB;exact decide_eq_true_iff
theorem Fa.hold {x:D} {t:Pr} {st lp:List D} (h:Fa x t) (w:Wo st lp) (hz:t.sz≤4096):holdX Tryz.prog x namesD st lp=some (HB t (strm st lp) 0):=by
 obtain⟨f,h1,h2⟩:=h.fm
 rw[holdX_of h1 h2 hz h.lab w.hs w.hl w.ne w.len];rfl
theorem parse_fm {s:ByteArray} {d:Int} {op nm:ByteArray} {ks:List D} {p:Int} (h:parseP s d=.ok op nm ks p) (hs:s.size≤200):∃f t,ofD (.ag [.str op,.str nm,.sl 5 ks,.int .i64 p])=some f∧f.abs=some t∧t.sz≤201:=by
 obtain⟨f,t,h1,h2,_,h4⟩:=parse_ok h
 exact⟨f,t,h1,h2,by omega⟩
end Go.Sc
namespace Go.Sc
open Go Go.Cm Go.Proofs
section
variable (a b:Pr) (L:Nat→Int) (k:Nat)
theorem HB_X:HB (.un .X a) L k=HB a L (k+1):=by rw[Bool.eq_iff_iff,HB_iff,HB_iff];exact Iff.rfl
theorem HB_and:HB (.bi .and a b) L k=(HB a L k&&HB b L k):=by rw[Bool.eq_iff_iff,Bool.and_eq_true,HB_iff,HB_iff,HB_iff];exact Iff.rfl
theorem HB_or:HB (.bi .or a b) L k=(HB a L k||HB b L k):=by rw[Bool.eq_iff_iff,Bool.or_eq_true,HB_iff,HB_iff,HB_iff];exact Iff.rfl
theorem HB_F:HB (.un .F a) L k=(HB a L k||HB (.un .F a) L (k+1)):=by
 rw[Bool.eq_iff_iff,Bool.or_eq_true,HB_iff,HB_iff,HB_iff]
 simp only[Pr.sat]
 constructor
 ·rintro⟨d,h⟩
  cases d with
  |zero=>exact .inl h
  |succ d=>exact .inr ⟨d,by rw[show k+1+d=k+(d+1)by omega];exact h⟩
 ·rintro(h|⟨d,h⟩)
  ·exact⟨0,h⟩
  ·exact⟨d+1,by rw[show k+(d+1)=k+1+d by omega];exact h⟩
theorem HB_G:HB (.un .G a) L k=(HB a L k&&HB (.un .G a) L (k+1)):=by
 rw[Bool.eq_iff_iff,Bool.and_eq_true,HB_iff,HB_iff,HB_iff]
 exact all_step _ _
theorem HB_GN:HB (.un .G (.un .no a)) L k= !HB (.un .F a) L k:=by
 rw[Bool.eq_iff_iff,HB_iff,Bool.not_eq_true', ←Bool.not_eq_true,HB_iff]
 simp only[Pr.sat]
 exact⟨fun h ⟨d,hd⟩=>h d hd,fun h d hd=>h ⟨d,hd⟩⟩
theorem HB_FF:HB (.un .F (.un .F a)) L k=HB (.un .F a) L k:=by
 rw[Bool.eq_iff_iff,HB_iff,HB_iff]
 simp only[Pr.sat]
 constructor
 ·rintro⟨d,e,h⟩;exact⟨d+e,by rw[←Nat.add_assoc];exact h⟩
 ·rintro⟨d,h⟩;exact⟨0,d,h⟩
end
theorem Wo.draw {st lr:List D} {x:D} (w:Wo st (x::lr)) (h:st.length+(x::lr).length≤63):Wo (st++[x]) (lr++[x]):=by
 have hx:LW [x]:=fun d hd=>w.hl d (by rw[List.mem_singleton.1 hd];exact .head _)
 exact⟨w.hs.app hx,w.hl.tl.app hx,by simp,by simp at h ⊢;omega⟩
theorem Wo.twice {st lp:List D} (w:Wo st lp) (h:st.length+lp.length+lp.length≤64):Wo st (lp++lp):=by
 refine⟨w.hs,w.hl.app w.hl,?_,by simp;omega⟩
 intro e
 exact w.ne (List.append_eq_nil_iff.1 e).1
theorem Fa.hold_draw {x:D} {t:Pr} {st lr:List D} {d:D} (h:Fa x t) (w:Wo st (d::lr)) (hz:t.sz≤4096) (hl:st.length+(d::lr).length≤63):
  holdX Tryz.prog x namesD (st++[d]) (lr++[d])=some (HB t (strm st (d::lr)) 0):=by rw[h.hold (w.draw hl) hz,strm_draw]
theorem Fa.hold_twice {x:D} {t:Pr} {st lp:List D} (h:Fa x t) (w:Wo st lp) (hz:t.sz≤4096) (hl:st.length+lp.length+lp.length≤64):
  holdX Tryz.prog x namesD st (lp++lp)=some (HB t (strm st lp) 0):=by rw[h.hold (w.twice hl) hz,strm_twice _ _ (List.length_pos_iff.2 w.ne)]
end Go.Sc

/- Made by a program of the session's own (tools/gen_scan.py): what functions come to, segment by segment. -/
import Derived.Test.YtbpndgllhhajoaaGreatDoorMal
import Derived.Test.YtbpndgllhhajoaaGreatDoorMak
import Derived.Test.YtbpndgllhhajoaaGreatDoorMai
set_option linter.unusedVariables false
set_option linter.unusedSimpArgs false
namespace Go.Sd
open Go Go.Cm Go.Proofs Go.Sc
set_option maxRecDepth 100000
namespace V25
noncomputable def X:Fx:=⟨Tryz.prog,WS,4,1⟩
theorem start {β:Type} (st:List D) (lp:List D) (k:List TV→List TV→Option β):evalF Tryz.prog WS Tryz.f25 [.d true 3 (D.ag [D.sl 0 st,D.sl 0 lp])] k=if decide ((st.length:Int)>0)=true then if(0:Int)≤(st.length:Int)∧(st.length:Int)≤(st.length:Int)∧(0:Int)≤1∧(1:Int)≤(st.length:Int)then if intsB (List.take (Int.toNat (st.length:Int) - 1) (List.drop 1 st))=true∧List.length (List.take (Int.toNat (st.length:Int) - 1) (List.drop 1 st))≤34359738368 then if intsB lp=true∧lp.length≤34359738368 then k [.d false 3 (D.ag [D.sl 0 (List.take (Int.toNat (st.length:Int) - 1) (List.drop 1 st)),D.sl 0 lp])] []else none else none else none else if decide ((lp.length:Int)>0)=true then if(0:Int)≤1∧(1:Int)≤(lp.length:Int)∧(0:Int)≤0∧(0:Int)≤1 then if(0:Int)≤(lp.length:Int)∧(lp.length:Int)≤(lp.length:Int)∧(0:Int)≤1∧(1:Int)≤(lp.length:Int)then if List.length (List.take (Int.toNat (lp.length:Int) - 1) (List.drop 1 lp))+List.length (List.take 1 (List.drop 0 lp))≤34359738368 then k [.d true 3 (D.ag [D.sl 0 [],D.sl 0 (List.take (Int.toNat (lp.length:Int) - 1) (List.drop 1 lp)++List.take 1 (List.drop 0 lp))])] []else none else none else none else k [.d false 3 (D.ag [D.sl 0 [],D.sl 0 []])] []:=by kernel_rfl
end V25
namespace V26
noncomputable def X:Fx:=⟨Tryz.prog,WS,48,2⟩
theorem start {β:Type} (st:List D) (lp:List D) (i:Int) (k:List TV→List TV→Option β):evalF Tryz.prog WS Tryz.f26 [.d true 3 (D.ag [D.sl 0 st,D.sl 0 lp]),.d true 0 (D.int .i64 i)] k=if decide (i<0)=true then k [.d false 0 (D.int .i64 0),.d false 0 (D.bool false)] []else if decide (i<(st.length:Int))=true then if 0≤i then match st[i.toNat]? with
   |some x7=>match x7 with
    |D.int j8 m9=>if j8=IntKind.i64 then k [.d false 0 (D.int .i64 m9),.d false 0 (D.bool true)] []else none
    |x=>none
   |none=>none else none else if((lp.length:Int)==0)=true then k [.d false 0 (D.int .i64 0),.d false 0 (D.bool false)] []else if(lp.length:Int)≠(0:Int)then if 0≤Int.tmod (IntKind.wrap .i64 (i - (st.length:Int))) (lp.length:Int)then match lp[Int.toNat (Int.tmod (IntKind.wrap .i64 (i - (st.length:Int))) (lp.length:Int))]? with
    |some x14=>match x14 with
     |D.int j15 m16=>if j15=IntKind.i64 then k [.d false 0 (D.int .i64 m16),.d false 0 (D.bool true)] []else none
     |x=>none
    |none=>none else none else none:=by kernel_rfl
end V26
end Go.Sd
namespace Go.Sd
open Go Go.Cm Go.Proofs Go.Sc
set_option maxRecDepth 100000
namespace Q9A
noncomputable def X:Fx:=⟨Tryz.prog,WQ,1,0⟩
theorem start {β:Type} (k:List TV→List TV→Option β):evalF Tryz.prog WQ Tryz.f9 [] k=match parseP (ByteArray.mk #[71,32,70,32,34,97,34]) (9:Int)with
   |PA.ok op2 nm3 ks4 p5=>match holdX Tryz.prog (D.ag [D.str op2,D.str nm3,D.sl 5 ks4,D.int .i64 p5]) [D.str (ByteArray.mk #[97])] [] [D.int .i64 0,D.int .i64 1]with
    |some b7=>match holdX Tryz.prog (D.ag [D.str op2,D.str nm3,D.sl 5 ks4,D.int .i64 p5]) [D.str (ByteArray.mk #[97])] [D.int .i64 1] [D.int .i64 0]with
     |some b9=>if b7=true then if(!b9)=true then match checkS Tryz.prog [] [] []with
      |some true=>k [.d false 0 (D.bool false)] []
      |some false=>k [.d false 0 (D.bool true)] []
      |none=>none else k [.d false 0 (D.bool false)] []else k [.d false 0 (D.bool false)] []
     |none=>none
    |none=>none
   |PA.no n13=>match holdX Tryz.prog (D.ag [D.str (ByteArray.mk #[]),D.str (ByteArray.mk #[]),D.sl 5 [],D.int .i64 0]) [D.str (ByteArray.mk #[97])] [] [D.int .i64 0,D.int .i64 1]with
    |some b15=>match holdX Tryz.prog (D.ag [D.str (ByteArray.mk #[]),D.str (ByteArray.mk #[]),D.sl 5 [],D.int .i64 0]) [D.str (ByteArray.mk #[97])] [D.int .i64 1] [D.int .i64 0]with
     |some b17=>k [.d false 0 (D.bool false)] []
     |none=>none
    |none=>none
   |PA.er p19 n20=>match holdX Tryz.prog (D.ag [D.str (ByteArray.mk #[]),D.str (ByteArray.mk #[]),D.sl 5 [],D.int .i64 0]) [D.str (ByteArray.mk #[97])] [] [D.int .i64 0,D.int .i64 1]with
    |some b22=>match holdX Tryz.prog (D.ag [D.str (ByteArray.mk #[]),D.str (ByteArray.mk #[]),D.sl 5 [],D.int .i64 0]) [D.str (ByteArray.mk #[97])] [D.int .i64 1] [D.int .i64 0]with
     |some b24=>k [.d false 0 (D.bool false)] []
     |none=>none
    |none=>none
   |PA.bad=>none:=by kernel_rfl
end Q9A
end Go.Sd
set_option maxRecDepth 100000
namespace Go.Sd
open Go Go.Cm Go.Proofs Go.Sc
theorem vcParse:VC 10 cParse:=fun β args k r hr=>envq5 β 10 args k r hr
theorem vcNum:VC 16 cNum:=fun β args k r hr=>envq0 β 16 args k r hr
theorem vcCheck:VC 38 cCheck:=fun β args k r hr=>envw11 β 38 args k r hr
theorem vcNames:VC 21 cNames:=fun β args k r hr=>envwx β 21 args k r hr
theorem envwq:EnvOk glS Tryz.prog WQ:=(((EnvOk.none.add vcParse).add vcHoldX).add vcCheck).add vcNum
def gfa:D:=.ag [.str ⟨#[71]⟩,.str ⟨#[]⟩,.sl 5 [.ag [.str ⟨#[70]⟩,.str ⟨#[]⟩,.sl 5 [.ag [.str ⟨#[108,97,98,101,108]⟩,.str ⟨#[97]⟩,.sl 5 [],.int .i64 4]],.int .i64 2]],.int .i64 0]
theorem hold_a:holdX Tryz.prog gfa [.str ⟨#[97]⟩] [] [.int .i64 0,.int .i64 1]=some true:=by kernel_rfl
theorem hold_b:holdX Tryz.prog gfa [.str ⟨#[97]⟩] [.int .i64 1] [.int .i64 0]=some false:=by kernel_rfl
theorem check_0:checkS Tryz.prog [] [] []=some false:=by kernel_rfl
theorem ev_alive {β:Type} (k:List TV→List TV→Option β):evalF Tryz.prog WQ Tryz.f9 [] k=k [.d false 0 (.bool true)] []:=by
 rw[Q9A.start,show parseP ⟨#[71,32,70,32,34,97,34]⟩ 9=.ok ⟨#[71]⟩ ⟨#[]⟩ [.ag [.str ⟨#[70]⟩,.str ⟨#[]⟩,.sl 5 [.ag [.str ⟨#[108,97,98,101,108]⟩,.str ⟨#[97]⟩,.sl 5 [],.int .i64 4]],.int .i64 2]] 0 from by kernel_rfl]
 simp only
 have ha:=hold_a
 have hb:=hold_b
 unfold gfa at ha hb
 rw[ha,hb,check_0]
 rfl
theorem vcAlive:VC 9 cTrue:=by
 intro β args k r hr
 change cTrue args k=some r at hr
 unfold cTrue at hr
 split at hr
 ·exact⟨_,_,hr,valid_of envwq mixed Tryz.func9 (by kernel_rfl) (ev_alive _)⟩
 ·cases hr
theorem envwy:EnvOk glS Tryz.prog WY:=((((((((EnvOk.none.add vcAlive).add vcParse).add vcHoldX).add vcOtherX).add vcWord).add vcNames).add vcFm1X).add vcFmNotX).add vcFm2X
end Go.Sd
set_option maxRecDepth 100000
namespace Go.Sc
open Go Go.Cm
def shStem (st:List D):List D:=st.drop 1
def shLoop (st lp:List D):List D:=match st with|[]=>lp.drop 1++lp.take 1|_=>lp
theorem intsB_drop:∀(n:Nat) (l:List D),intsB l=true→intsB (l.drop n)=true
 |0,l,h=>h
 |n+1,[],h=>rfl
 |n+1,x::r,h=>by
  unfold intsB at h
  split at h
  ·exact intsB_drop n r h
  ·cases h
def letrB (st lp:List D) (i:Int):Option (Int×Bool):=
 if i<0 then some (0,false)
 else if i<st.length then(iAt st i).map (·,true)
 else if lp.length=0 then some (0,false)
 else(iAt lp (Int.tmod (i - st.length) lp.length)).map (·,true)
end Go.Sc
namespace Go.Sd
open Go Go.Cm Go.Proofs Go.Sc
theorem valid_any {f:FuncId} {args:List TV} {sh:Nat} {x:D} (h:Valid glS Tryz.prog f args [.d false sh x] []):Valid glS Tryz.prog f args [.d true sh x] []:=by
 intro w us M g hG hr ha hM
 have:=h w us M g hG hr ha hM
 refine Runs.mono this fun e w'=>?_
 rintro⟨rs,M',rfl,B⟩
 refine⟨rs,M',rfl,{B with len:=B.len,rt:=?_ }⟩
 have hrt:=B.rt
 rw[List.append_nil]at hrt ⊢
 simp only[RTs]at hrt ⊢
 obtain⟨u,rest,M1,M2,e1,e2,h1,h2⟩:=hrt
 refine⟨u,rest,M1,M2,e1,e2,?_,h2⟩
 rw[RT]at h1 ⊢
 exact⟨h1.1,h1.2.1,RA.mono (fun b hb=>⟨⟨hb.1,hb.2.1,by rcases hb.2.2 with⟨h,_⟩|h;cases h;exact .inr h⟩,rfl⟩) _ _ h1.2.2⟩
def cShiftS {β:Type} (args:List TV) (k:List TV→List TV→Option β):Option β:=
 match args with
 |[.d true 3 (.ag [.sl 0 st,.sl 0 lp])]=>chkK (intsB st=true∧intsB lp=true∧st.length+lp.length≤big) (k [.d true 3 (.ag [.sl 0 (shStem st),.sl 0 (shLoop st lp)])] [])
 |_=>none
def cLetterS {β:Type} (args:List TV) (k:List TV→List TV→Option β):Option β:=
 match args with
 |[.d true 3 (.ag [.sl 0 st,.sl 0 lp]),.d true 0 (.int .i64 i)]=>match letrB st lp i with
  |some (m,b)=>chkK (i≤9223372036854775807∧st.length+lp.length≤big) (k [.d false 0 (.int .i64 m),.d false 0 (.bool b)] [])
  |none=>none
 |_=>none
theorem take_all {l:List D} {n:Nat} (h:l.length≤n):l.take n=l:=List.take_of_length_le h
theorem vcShift:VC 25 cShiftS:=by
 intro β args k r hr
 change cShiftS args k=some r at hr
 have hbig:big=34359738368:=rfl
 unfold cShiftS at hr
 split at hr
 ·rename_i st lp
  obtain⟨⟨h0,h1,h2⟩,hr⟩:=chkK_ok hr
  cases st with
  |cons x st=>
   refine⟨_,_,hr,valid_any (valid_of envws mixed Tryz.func25 (by kernel_rfl) ?_)⟩
   have hd:=intsB_drop 1 _ h0
   rw[V25.start,if_pos (by rw[decide_eq_true_eq];simp only[List.length_cons];omega),if_pos (by simp only[List.length_cons];omega),take_all (by simp),if_pos ⟨hd,by simp at h2 ⊢;omega⟩,if_pos ⟨h1,by omega⟩]
   rfl
  |nil=>
   cases lp with
   |cons x lp=>
    refine⟨_,_,hr,valid_of envws mixed Tryz.func25 (by kernel_rfl) ?_⟩
    rw[V25.start,if_neg (by simp),if_pos (by rw[decide_eq_true_eq];simp only[List.length_cons];omega),if_pos (by simp only[List.length_cons];omega),if_pos (by simp only[List.length_cons];omega),take_all (by simp),if_pos (by simp at h2 ⊢;omega)]
    rfl
   |nil=>
    refine⟨_,_,hr,valid_any (valid_of envws mixed Tryz.func25 (by kernel_rfl) ?_)⟩
    rw[V25.start,if_neg (by simp),if_neg (by simp)]
    rfl
 ·cases hr
theorem vcLetter:VC 26 cLetterS:=by
 intro β args k r hr
 change cLetterS args k=some r at hr
 have hbig:big=34359738368:=rfl
 unfold cLetterS at hr
 split at hr
 ·rename_i st lp i
  split at hr
  ·rename_i m b hl
   obtain⟨⟨h0,h1⟩,hr⟩:=chkK_ok hr
   refine⟨_,_,hr,valid_of envws mixed Tryz.func26 (by kernel_rfl) ?_⟩
   rw[V26.start]
   unfold letrB at hl
   split at hl
   ·rename_i hi
    cases hl
    rw[if_pos (by simpa using hi)]
   ·rename_i hi
    rw[if_neg (by simpa using hi)]
    split at hl
    ·rename_i hs
     rw[if_pos (by simpa using hs),if_pos (by omega)]
     cases hx:iAt st i with
     |none=>rw[hx]at hl;cases hl
     |some v=>
      rw[hx]at hl
      cases hl
      obtain⟨_,e⟩:=iAt_ok hx
      rw[e]
      simp
    ·rename_i hs
     rw[if_neg (by simpa using hs)]
     split at hl
     ·rename_i h
      cases hl
      rw[if_pos (by simp[h])]
     ·rename_i h
      rw[if_neg (by rw[beq_iff_eq];omega),if_pos (show((lp.length:Int))≠0 by omega),wrap_id (by omega) (by omega)]
      cases hx:iAt lp (Int.tmod (i - st.length) lp.length)with
      |none=>rw[hx]at hl;cases hl
      |some v=>
       rw[hx]at hl
       cases hl
       obtain⟨h5,e⟩:=iAt_ok hx
       rw[if_pos h5,e]
       simp
  ·cases hr
 ·cases hr
noncomputable def WZ:Env:=(WY.add 25 io0 cShiftS).add 26 io0 cLetterS
theorem envwz:EnvOk glS Tryz.prog WZ:=(envwy.add vcShift).add vcLetter
end Go.Sd
namespace Go.Cm
theorem regA_quiet {β:Type} {P:Program} {E:Env} {ops:Array Oper} {ms acc acc':List Nat} {n j:Nat} {s z z':S} {k:S→Option β} (h1:nextQ ops acc=some j) (h2:∀K:S→Option β,opsG P E ops ms acc [j] s K=K z')
  (h3:z'.srt=z) (h4:insN j acc=acc'):regA P E ops ms (n+1) acc s k=regA P E ops ms n acc' z k:=by
 rw[regA,h1]
 simp only
 rw[h2,h3,h4]
end Go.Cm
set_option maxRecDepth 100000
namespace Go.Sc
open Go Go.Cm
noncomputable def hR (P:Program) (x:D) (ns st lp:List D):Option (Int ⊕ Bool):=
 match ofD x with
 |some f=>if bd none f∧ns.length≤big∧st.length+lp.length≤big then holdN P ns f st lp else none
 |none=>none
noncomputable def hB (P:Program) (x:D) (ns st lp:List D):Bool:=match hR P x ns st lp with|some (.inr b)=>b|_=>false
noncomputable def hE (P:Program) (x:D) (ns st lp:List D):D:=match hR P x ns st lp with|some (.inl e)=>.ifc 84 (.int .i64 e)|_=>.nili
def hOk (P:Program) (x:D) (ns st lp:List D):Prop:=(hR P x ns st lp).isSome=true
noncomputable instance (P:Program) (x:D) (ns st lp:List D):Decidable (hOk P x ns st lp):=Classical.propDecidable _
end Go.Sc
namespace Go.Sd
open Go Go.Cm Go.Proofs Go.Sc
noncomputable def cHoldR {β:Type} (args:List TV) (k:List TV→List TV→Option β):Option β:=
 match args with
 |[.d true 5 x,.d true 0 (.sl 0 ns),.d true 3 (.ag [.sl 0 st,.sl 0 lp])]=>if hOk Tryz.prog x ns st lp then k [.d false 0 (.bool (hB Tryz.prog x ns st lp)),.d false 0 (hE Tryz.prog x ns st lp)] []else none
 |_=>none
theorem vcHoldR:VC 18 cHoldR:=by
 intro β args k r hr
 change cHoldR args k=some r at hr
 unfold cHoldR at hr
 split at hr
 ·rename_i x ns st lp
  split at hr
  ·rename_i ho
   refine vcHoldN β _ k r ?_
   show cHoldN [.d true 5 x,.d true 0 (.sl 0 ns),.d true 3 (.ag [.sl 0 st,.sl 0 lp])] k=some r
   unfold hOk at ho
   unfold hB hE at hr
   unfold hR at ho hr
   split at ho
   ·rename_i f hf
    simp only[hf]at hr
    split at ho
    ·rename_i hc
     simp only[if_pos hc]at hr
     unfold cHoldN chkK
     simp only[hf]
     rw[if_pos hc]
     cases he:holdN Tryz.prog ns f st lp with
     |none=>rw[he]at ho;cases ho
     |some v=>
      rw[he]at hr
      cases v with
      |inl e=>exact hr
      |inr b=>exact hr
    ·cases ho
   ·cases ho
  ·cases hr
 ·cases hr
noncomputable def WS6:Env:=WZ.add 18 io0 cHoldR
theorem envws6:EnvOk glS Tryz.prog WS6:=envwz.add vcHoldR
end Go.Sd
namespace Go.Sd
open Go Go.Cm Go.Proofs Go.Sc
set_option maxRecDepth 100000
namespace Q6H
noncomputable def X:Fx:=⟨Tryz.prog,WS6,256,4⟩
noncomputable def s0 (op7:ByteArray) (nm8:ByteArray) (ks9:List D) (p10:Int) (op12:ByteArray) (nm13:ByteArray) (ks14:List D) (p15:Int) (x19:List D) (y20:List D) (x228:Int):S:=⟨Tm.mk 225 [(9,.rp 10 0),(11,.rp 12 0),(12,.d false 0 D.nili),(13,.rp 14 0),(17,.d false 0 (hE Tryz.prog (D.ag [D.str op7,D.str nm8,D.sl 5 ks9,D.int .i64 p10]) [D.str (ByteArray.mk #[97]),D.str (ByteArray.mk #[98]),D.str (ByteArray.mk #[103,111,97,108])] (shStem x19) (shLoop x19 (loopOf y20)))),(18,.rp 19 0),(19,.d false 0 (D.int .i64 x228))],[(10,true,[.d false 0 (D.str op7),.d false 0 (D.str nm8),.d false 0 (D.sl 5 ks9),.d false 0 (D.int .i64 p10)]),(12,true,[.d false 0 (D.str op12),.d false 0 (D.str nm13),.d false 0 (D.sl 5 ks14),.d false 0 (D.int .i64 p15)]),(14,true,[.d false 0 (D.sl 0 x19),.d false 0 (D.sl 0 (loopOf y20))]),(19,true,[.own false 0 (x19++loopOf y20),.own false 0 (loopOf y20++loopOf y20)])]⟩
noncomputable def e0r:S:=⟨Tm.mk 225 [(8,.d false 0 (D.bool false))],[]⟩
noncomputable def e0x0 (op7:ByteArray) (nm8:ByteArray) (ks9:List D) (p10:Int) (op12:ByteArray) (nm13:ByteArray) (ks14:List D) (p15:Int) (x19:List D) (y20:List D):S:=⟨Tm.mk 225 [(9,.rp 10 0),(11,.rp 12 0),(12,.d false 0 D.nili),(13,.rp 14 0),(17,.d false 0 (hE Tryz.prog (D.ag [D.str op7,D.str nm8,D.sl 5 ks9,D.int .i64 p10]) [D.str (ByteArray.mk #[97]),D.str (ByteArray.mk #[98]),D.str (ByteArray.mk #[103,111,97,108])] (shStem x19) (shLoop x19 (loopOf y20)))),(18,.rp 19 0)],[(10,true,[.d false 0 (D.str op7),.d false 0 (D.str nm8),.d false 0 (D.sl 5 ks9),.d false 0 (D.int .i64 p10)]),(12,true,[.d false 0 (D.str op12),.d false 0 (D.str nm13),.d false 0 (D.sl 5 ks14),.d false 0 (D.int .i64 p15)]),(14,true,[.d false 0 (D.sl 0 x19),.d false 0 (D.sl 0 (loopOf y20))]),(19,true,[.own false 0 (x19++loopOf y20),.own false 0 (loopOf y20++loopOf y20)])]⟩
noncomputable def j0 (a:List D) (b:List D) (op7:ByteArray) (nm8:ByteArray) (ks9:List D) (p10:Int) (op12:ByteArray) (nm13:ByteArray) (ks14:List D) (p15:Int) (x19:List D) (y20:List D):S:=⟨Tm.mk 225 [(2,.d true 0 (D.sl 0 a)),(3,.d true 0 (D.sl 0 b)),(9,.rp 10 0),(11,.rp 12 0),(12,.d false 0 D.nili),(13,.rp 14 0),(14,.d false 0 (D.bool (hB Tryz.prog (D.ag [D.str (ByteArray.mk #[88]),D.str (ByteArray.mk #[]),D.sl 5 [D.ag [D.str op7,D.str nm8,D.sl 5 ks9,D.int .i64 p10]],D.int .i64 0]) [D.str (ByteArray.mk #[97]),D.str (ByteArray.mk #[98]),D.str (ByteArray.mk #[103,111,97,108])] x19 (loopOf y20)))),(15,.d false 0 (hE Tryz.prog (D.ag [D.str (ByteArray.mk #[88]),D.str (ByteArray.mk #[]),D.sl 5 [D.ag [D.str op7,D.str nm8,D.sl 5 ks9,D.int .i64 p10]],D.int .i64 0]) [D.str (ByteArray.mk #[97]),D.str (ByteArray.mk #[98]),D.str (ByteArray.mk #[103,111,97,108])] x19 (loopOf y20))),(60,.d true 0 (D.sl 0 a)),(61,.d true 0 (D.sl 0 b)),(62,.d false 3 (D.ag [D.sl 0 x19,D.sl 0 (loopOf y20)])),(63,.tup [.d false 0 (D.bool (hB Tryz.prog (D.ag [D.str (ByteArray.mk #[88]),D.str (ByteArray.mk #[]),D.sl 5 [D.ag [D.str op7,D.str nm8,D.sl 5 ks9,D.int .i64 p10]],D.int .i64 0]) [D.str (ByteArray.mk #[97]),D.str (ByteArray.mk #[98]),D.str (ByteArray.mk #[103,111,97,108])] x19 (loopOf y20))),.d false 0 (hE Tryz.prog (D.ag [D.str (ByteArray.mk #[88]),D.str (ByteArray.mk #[]),D.sl 5 [D.ag [D.str op7,D.str nm8,D.sl 5 ks9,D.int .i64 p10]],D.int .i64 0]) [D.str (ByteArray.mk #[97]),D.str (ByteArray.mk #[98]),D.str (ByteArray.mk #[103,111,97,108])] x19 (loopOf y20))]),(64,.ag [.d false 0 (D.str op7),.d false 0 (D.str nm8),.d false 0 (D.sl 5 ks9),.d false 0 (D.int .i64 p10)]),(65,.own false 5 [D.ag [D.str op7,D.str nm8,D.sl 5 ks9,D.int .i64 p10]]),(66,.ag [.d false 0 (D.str (ByteArray.mk #[88])),.d false 0 (D.str (ByteArray.mk #[])),.bf 0 65,.d false 0 (D.int .i64 0)]),(67,.bf 1152921504606847043 0),(68,.ag [.d false 0 (D.sl 0 x19),.d false 0 (D.sl 0 (loopOf y20))]),(69,.tup [.d false 0 (D.bool (hB Tryz.prog (D.ag [D.str (ByteArray.mk #[88]),D.str (ByteArray.mk #[]),D.sl 5 [D.ag [D.str op7,D.str nm8,D.sl 5 ks9,D.int .i64 p10]],D.int .i64 0]) [D.str (ByteArray.mk #[97]),D.str (ByteArray.mk #[98]),D.str (ByteArray.mk #[103,111,97,108])] x19 (loopOf y20))),.d false 0 (hE Tryz.prog (D.ag [D.str (ByteArray.mk #[88]),D.str (ByteArray.mk #[]),D.sl 5 [D.ag [D.str op7,D.str nm8,D.sl 5 ks9,D.int .i64 p10]],D.int .i64 0]) [D.str (ByteArray.mk #[97]),D.str (ByteArray.mk #[98]),D.str (ByteArray.mk #[103,111,97,108])] x19 (loopOf y20))]),(70,.d false 0 (D.bool (hB Tryz.prog (D.ag [D.str (ByteArray.mk #[88]),D.str (ByteArray.mk #[]),D.sl 5 [D.ag [D.str op7,D.str nm8,D.sl 5 ks9,D.int .i64 p10]],D.int .i64 0]) [D.str (ByteArray.mk #[97]),D.str (ByteArray.mk #[98]),D.str (ByteArray.mk #[103,111,97,108])] x19 (loopOf y20)))),(71,.d false 0 (hE Tryz.prog (D.ag [D.str (ByteArray.mk #[88]),D.str (ByteArray.mk #[]),D.sl 5 [D.ag [D.str op7,D.str nm8,D.sl 5 ks9,D.int .i64 p10]],D.int .i64 0]) [D.str (ByteArray.mk #[97]),D.str (ByteArray.mk #[98]),D.str (ByteArray.mk #[103,111,97,108])] x19 (loopOf y20)))],[(10,true,[.d false 0 (D.str op7),.d false 0 (D.str nm8),.d false 0 (D.sl 5 ks9),.d false 0 (D.int .i64 p10)]),(12,true,[.d false 0 (D.str op12),.d false 0 (D.str nm13),.d false 0 (D.sl 5 ks14),.d false 0 (D.int .i64 p15)]),(14,true,[.d false 0 (D.sl 0 x19),.d false 0 (D.sl 0 (loopOf y20))]),(1152921504606847038,true,[.d false 3 (D.ag [D.sl 0 x19,D.sl 0 (loopOf y20)])]),(1152921504606847043,true,[.own false 0 [D.str (ByteArray.mk #[97]),D.str (ByteArray.mk #[98]),D.str (ByteArray.mk #[103,111,97,108])]]),(1152921504606847045,true,[.d false 0 (D.bool (hB Tryz.prog (D.ag [D.str (ByteArray.mk #[88]),D.str (ByteArray.mk #[]),D.sl 5 [D.ag [D.str op7,D.str nm8,D.sl 5 ks9,D.int .i64 p10]],D.int .i64 0]) [D.str (ByteArray.mk #[97]),D.str (ByteArray.mk #[98]),D.str (ByteArray.mk #[103,111,97,108])] x19 (loopOf y20))),.d false 0 (hE Tryz.prog (D.ag [D.str (ByteArray.mk #[88]),D.str (ByteArray.mk #[]),D.sl 5 [D.ag [D.str op7,D.str nm8,D.sl 5 ks9,D.int .i64 p10]],D.int .i64 0]) [D.str (ByteArray.mk #[97]),D.str (ByteArray.mk #[98]),D.str (ByteArray.mk #[103,111,97,108])] x19 (loopOf y20))])]⟩
noncomputable def j1 (op7:ByteArray) (nm8:ByteArray) (ks9:List D) (p10:Int) (op12:ByteArray) (nm13:ByteArray) (ks14:List D) (p15:Int) (x19:List D) (y20:List D):S:=⟨Tm.mk 225 [(9,.rp 10 0),(11,.rp 12 0),(12,.d false 0 D.nili),(13,.rp 14 0),(17,.d false 0 (hE Tryz.prog (D.ag [D.str op7,D.str nm8,D.sl 5 ks9,D.int .i64 p10]) [D.str (ByteArray.mk #[97]),D.str (ByteArray.mk #[98]),D.str (ByteArray.mk #[103,111,97,108])] (shStem x19) (shLoop x19 (loopOf y20)))),(18,.rp 19 0),(90,.undef),(91,.rp 14 0),(92,.d false 0 (D.sl 0 x19)),(93,.undef),(94,.rp 14 1),(95,.d false 0 (D.sl 0 (loopOf y20))),(96,.undef),(97,.undef),(98,.rp 14 1),(99,.d false 0 (D.sl 0 (loopOf y20))),(100,.undef),(101,.rp 14 1),(102,.d false 0 (D.sl 0 (loopOf y20))),(103,.undef),(104,.undef)],[(10,true,[.d false 0 (D.str op7),.d false 0 (D.str nm8),.d false 0 (D.sl 5 ks9),.d false 0 (D.int .i64 p10)]),(12,true,[.d false 0 (D.str op12),.d false 0 (D.str nm13),.d false 0 (D.sl 5 ks14),.d false 0 (D.int .i64 p15)]),(14,true,[.d false 0 (D.sl 0 x19),.d false 0 (D.sl 0 (loopOf y20))]),(19,true,[.own false 0 (x19++loopOf y20),.own false 0 (loopOf y20++loopOf y20)])]⟩
noncomputable abbrev L0:S→Option (S ⊕ (Ex×S)):=roundK X [(0,408064)] (sub [1,1,1,1,1,1,1,1,1,1,1,0,1,0,0] (body Tryz.f6))
noncomputable abbrev G0 {β:Type} (s:ByteArray) (t:ByteArray) (a:List D) (b:List D) (k:List TV→List TV→Option β):S→Option β:=goLp X [(0,408064)] (sub [1,1,1,1,1,1,1,1,1,1,1,0,1,0,0] (body Tryz.f6)) [Kf.block 0 408064,Kf.seq [] (sub [1,1,1,1,1,1,1,1,1,1,1,1] (body Tryz.f6)) 256] (finK Tryz.prog Tryz.f6 [.d true 0 (D.str s),.d true 0 (D.str t),.d true 0 (D.sl 0 a),.d true 0 (D.sl 0 b)] k)
noncomputable abbrev J0 {β:Type} (s:ByteArray) (t:ByteArray) (a:List D) (b:List D) (k:List TV→List TV→Option β):S→Option β:=applyK X (finK Tryz.prog Tryz.f6 [.d true 0 (D.str s),.d true 0 (D.str t),.d true 0 (D.sl 0 a),.d true 0 (D.sl 0 b)] k) [Kf.seq [] (sub [1,1,1,1,1,1,1,1] (body Tryz.f6)) 256] Ex.norm
noncomputable abbrev J1 {β:Type} (s:ByteArray) (t:ByteArray) (a:List D) (b:List D) (k:List TV→List TV→Option β):S→Option β:=applyK X (finK Tryz.prog Tryz.f6 [.d true 0 (D.str s),.d true 0 (D.str t),.d true 0 (D.sl 0 a),.d true 0 (D.sl 0 b)] k) [Kf.seq [] (sub [1,1,1,1,1,1,1,1,1,1,1] (body Tryz.f6)) 256] Ex.norm
noncomputable def R0:Array Oper:=regOps (sub [1,1,1,1,1,1,1,0] (body Tryz.f6))
def B0:List Nat:=[0,1,3,0,0,31,63,127,127,255,1023]
  section
  variable {β:Type} (a:List D) (b:List D) (op7:ByteArray) (nm8:ByteArray) (ks9:List D) (p10:Int) (op12:ByteArray) (nm13:ByteArray) (ks14:List D) (p15:Int) (x19:List D) (y20:List D) (kont21:S→Option β)
noncomputable def z0_0:S:=⟨Tm.mk 225 [(2,.d true 0 (D.sl 0 a)),(3,.d true 0 (D.sl 0 b)),(9,.rp 10 0),(11,.rp 12 0),(12,.d false 0 D.nili),(13,.rp 14 0),(14,.d false 0 (D.bool (hB Tryz.prog (D.ag [D.str (ByteArray.mk #[88]),D.str (ByteArray.mk #[]),D.sl 5 [D.ag [D.str op7,D.str nm8,D.sl 5 ks9,D.int .i64 p10]],D.int .i64 0]) [D.str (ByteArray.mk #[97]),D.str (ByteArray.mk #[98]),D.str (ByteArray.mk #[103,111,97,108])] x19 (loopOf y20)))),(15,.d false 0 (hE Tryz.prog (D.ag [D.str (ByteArray.mk #[88]),D.str (ByteArray.mk #[]),D.sl 5 [D.ag [D.str op7,D.str nm8,D.sl 5 ks9,D.int .i64 p10]],D.int .i64 0]) [D.str (ByteArray.mk #[97]),D.str (ByteArray.mk #[98]),D.str (ByteArray.mk #[103,111,97,108])] x19 (loopOf y20))),(60,.d true 0 (D.sl 0 a)),(61,.d true 0 (D.sl 0 b)),(62,.d false 3 (D.ag [D.sl 0 x19,D.sl 0 (loopOf y20)])),(63,.tup [.d false 0 (D.bool (hB Tryz.prog (D.ag [D.str (ByteArray.mk #[88]),D.str (ByteArray.mk #[]),D.sl 5 [D.ag [D.str op7,D.str nm8,D.sl 5 ks9,D.int .i64 p10]],D.int .i64 0]) [D.str (ByteArray.mk #[97]),D.str (ByteArray.mk #[98]),D.str (ByteArray.mk #[103,111,97,108])] x19 (loopOf y20))),.d false 0 (hE Tryz.prog (D.ag [D.str (ByteArray.mk #[88]),D.str (ByteArray.mk #[]),D.sl 5 [D.ag [D.str op7,D.str nm8,D.sl 5 ks9,D.int .i64 p10]],D.int .i64 0]) [D.str (ByteArray.mk #[97]),D.str (ByteArray.mk #[98]),D.str (ByteArray.mk #[103,111,97,108])] x19 (loopOf y20))]),(64,.ag [.d false 0 (D.str op7),.d false 0 (D.str nm8),.d false 0 (D.sl 5 ks9),.d false 0 (D.int .i64 p10)]),(65,.own false 5 [D.ag [D.str op7,D.str nm8,D.sl 5 ks9,D.int .i64 p10]]),(66,.ag [.d false 0 (D.str (ByteArray.mk #[88])),.d false 0 (D.str (ByteArray.mk #[])),.bf 0 65,.d false 0 (D.int .i64 0)]),(67,.bf 1152921504606847043 0),(68,.ag [.d false 0 (D.sl 0 x19),.d false 0 (D.sl 0 (loopOf y20))]),(69,.tup [.d false 0 (D.bool (hB Tryz.prog (D.ag [D.str (ByteArray.mk #[88]),D.str (ByteArray.mk #[]),D.sl 5 [D.ag [D.str op7,D.str nm8,D.sl 5 ks9,D.int .i64 p10]],D.int .i64 0]) [D.str (ByteArray.mk #[97]),D.str (ByteArray.mk #[98]),D.str (ByteArray.mk #[103,111,97,108])] x19 (loopOf y20))),.d false 0 (hE Tryz.prog (D.ag [D.str (ByteArray.mk #[88]),D.str (ByteArray.mk #[]),D.sl 5 [D.ag [D.str op7,D.str nm8,D.sl 5 ks9,D.int .i64 p10]],D.int .i64 0]) [D.str (ByteArray.mk #[97]),D.str (ByteArray.mk #[98]),D.str (ByteArray.mk #[103,111,97,108])] x19 (loopOf y20))]),(70,.d false 0 (D.bool (hB Tryz.prog (D.ag [D.str (ByteArray.mk #[88]),D.str (ByteArray.mk #[]),D.sl 5 [D.ag [D.str op7,D.str nm8,D.sl 5 ks9,D.int .i64 p10]],D.int .i64 0]) [D.str (ByteArray.mk #[97]),D.str (ByteArray.mk #[98]),D.str (ByteArray.mk #[103,111,97,108])] x19 (loopOf y20)))),(71,.d false 0 (hE Tryz.prog (D.ag [D.str (ByteArray.mk #[88]),D.str (ByteArray.mk #[]),D.sl 5 [D.ag [D.str op7,D.str nm8,D.sl 5 ks9,D.int .i64 p10]],D.int .i64 0]) [D.str (ByteArray.mk #[97]),D.str (ByteArray.mk #[98]),D.str (ByteArray.mk #[103,111,97,108])] x19 (loopOf y20)))],[(10,true,[.d false 0 (D.str op7),.d false 0 (D.str nm8),.d false 0 (D.sl 5 ks9),.d false 0 (D.int .i64 p10)]),(12,true,[.d false 0 (D.str op12),.d false 0 (D.str nm13),.d false 0 (D.sl 5 ks14),.d false 0 (D.int .i64 p15)]),(14,true,[.d false 0 (D.sl 0 x19),.d false 0 (D.sl 0 (loopOf y20))]),(1152921504606847038,true,[.d false 3 (D.ag [D.sl 0 x19,D.sl 0 (loopOf y20)])]),(1152921504606847043,true,[.own false 0 [D.str (ByteArray.mk #[97]),D.str (ByteArray.mk #[98]),D.str (ByteArray.mk #[103,111,97,108])]]),(1152921504606847045,true,[.d false 0 (D.bool (hB Tryz.prog (D.ag [D.str (ByteArray.mk #[88]),D.str (ByteArray.mk #[]),D.sl 5 [D.ag [D.str op7,D.str nm8,D.sl 5 ks9,D.int .i64 p10]],D.int .i64 0]) [D.str (ByteArray.mk #[97]),D.str (ByteArray.mk #[98]),D.str (ByteArray.mk #[103,111,97,108])] x19 (loopOf y20))),.d false 0 (hE Tryz.prog (D.ag [D.str (ByteArray.mk #[88]),D.str (ByteArray.mk #[]),D.sl 5 [D.ag [D.str op7,D.str nm8,D.sl 5 ks9,D.int .i64 p10]],D.int .i64 0]) [D.str (ByteArray.mk #[97]),D.str (ByteArray.mk #[98]),D.str (ByteArray.mk #[103,111,97,108])] x19 (loopOf y20))])]⟩
noncomputable def z0_13:S:=⟨Tm.mk 225 [(2,.d true 0 (D.sl 0 a)),(3,.d true 0 (D.sl 0 b)),(9,.rp 10 0),(11,.rp 12 0),(12,.d false 0 D.nili),(13,.rp 14 0),(60,.d true 0 (D.sl 0 a)),(61,.d true 0 (D.sl 0 b)),(62,.d false 3 (D.ag [D.sl 0 x19,D.sl 0 (loopOf y20)]))],[(14,true,[.d false 0 (D.sl 0 x19),.d false 0 (D.sl 0 (loopOf y20))]),(1152921504606847038,true,[.d false 3 (D.ag [D.sl 0 x19,D.sl 0 (loopOf y20)])]),(10,true,[.d false 0 (D.str op7),.d false 0 (D.str nm8),.d false 0 (D.sl 5 ks9),.d false 0 (D.int .i64 p10)]),(12,true,[.d false 0 (D.str op12),.d false 0 (D.str nm13),.d false 0 (D.sl 5 ks14),.d false 0 (D.int .i64 p15)])]⟩
noncomputable def u0_0:List (Nat×V):=[(2,.d true 0 (D.sl 0 a)),(3,.d true 0 (D.sl 0 b)),(9,.rp 10 0),(11,.rp 12 0),(12,.d false 0 D.nili),(13,.rp 14 0),(14,.d false 0 (D.bool (hB Tryz.prog (D.ag [D.str (ByteArray.mk #[88]),D.str (ByteArray.mk #[]),D.sl 5 [D.ag [D.str op7,D.str nm8,D.sl 5 ks9,D.int .i64 p10]],D.int .i64 0]) [D.str (ByteArray.mk #[97]),D.str (ByteArray.mk #[98]),D.str (ByteArray.mk #[103,111,97,108])] x19 (loopOf y20)))),(60,.d true 0 (D.sl 0 a)),(61,.d true 0 (D.sl 0 b)),(62,.d false 3 (D.ag [D.sl 0 x19,D.sl 0 (loopOf y20)])),(63,.tup [.d false 0 (D.bool (hB Tryz.prog (D.ag [D.str (ByteArray.mk #[88]),D.str (ByteArray.mk #[]),D.sl 5 [D.ag [D.str op7,D.str nm8,D.sl 5 ks9,D.int .i64 p10]],D.int .i64 0]) [D.str (ByteArray.mk #[97]),D.str (ByteArray.mk #[98]),D.str (ByteArray.mk #[103,111,97,108])] x19 (loopOf y20))),.d false 0 (hE Tryz.prog (D.ag [D.str (ByteArray.mk #[88]),D.str (ByteArray.mk #[]),D.sl 5 [D.ag [D.str op7,D.str nm8,D.sl 5 ks9,D.int .i64 p10]],D.int .i64 0]) [D.str (ByteArray.mk #[97]),D.str (ByteArray.mk #[98]),D.str (ByteArray.mk #[103,111,97,108])] x19 (loopOf y20))]),(64,.ag [.d false 0 (D.str op7),.d false 0 (D.str nm8),.d false 0 (D.sl 5 ks9),.d false 0 (D.int .i64 p10)]),(65,.own false 5 [D.ag [D.str op7,D.str nm8,D.sl 5 ks9,D.int .i64 p10]]),(66,.ag [.d false 0 (D.str (ByteArray.mk #[88])),.d false 0 (D.str (ByteArray.mk #[])),.bf 0 65,.d false 0 (D.int .i64 0)]),(67,.bf 1152921504606847043 0),(68,.ag [.d false 0 (D.sl 0 x19),.d false 0 (D.sl 0 (loopOf y20))]),(69,.tup [.d false 0 (D.bool (hB Tryz.prog (D.ag [D.str (ByteArray.mk #[88]),D.str (ByteArray.mk #[]),D.sl 5 [D.ag [D.str op7,D.str nm8,D.sl 5 ks9,D.int .i64 p10]],D.int .i64 0]) [D.str (ByteArray.mk #[97]),D.str (ByteArray.mk #[98]),D.str (ByteArray.mk #[103,111,97,108])] x19 (loopOf y20))),.d false 0 (hE Tryz.prog (D.ag [D.str (ByteArray.mk #[88]),D.str (ByteArray.mk #[]),D.sl 5 [D.ag [D.str op7,D.str nm8,D.sl 5 ks9,D.int .i64 p10]],D.int .i64 0]) [D.str (ByteArray.mk #[97]),D.str (ByteArray.mk #[98]),D.str (ByteArray.mk #[103,111,97,108])] x19 (loopOf y20))]),(70,.d false 0 (D.bool (hB Tryz.prog (D.ag [D.str (ByteArray.mk #[88]),D.str (ByteArray.mk #[]),D.sl 5 [D.ag [D.str op7,D.str nm8,D.sl 5 ks9,D.int .i64 p10]],D.int .i64 0]) [D.str (ByteArray.mk #[97]),D.str (ByteArray.mk #[98]),D.str (ByteArray.mk #[103,111,97,108])] x19 (loopOf y20)))),(71,.d false 0 (hE Tryz.prog (D.ag [D.str (ByteArray.mk #[88]),D.str (ByteArray.mk #[]),D.sl 5 [D.ag [D.str op7,D.str nm8,D.sl 5 ks9,D.int .i64 p10]],D.int .i64 0]) [D.str (ByteArray.mk #[97]),D.str (ByteArray.mk #[98]),D.str (ByteArray.mk #[103,111,97,108])] x19 (loopOf y20)))]
noncomputable def v0_0:List (Nat×Bool×List V):=[(10,true,[.d false 0 (D.str op7),.d false 0 (D.str nm8),.d false 0 (D.sl 5 ks9),.d false 0 (D.int .i64 p10)]),(12,true,[.d false 0 (D.str op12),.d false 0 (D.str nm13),.d false 0 (D.sl 5 ks14),.d false 0 (D.int .i64 p15)]),(14,true,[.d false 0 (D.sl 0 x19),.d false 0 (D.sl 0 (loopOf y20))]),(1152921504606847038,true,[.d false 3 (D.ag [D.sl 0 x19,D.sl 0 (loopOf y20)])]),(1152921504606847043,true,[.own false 0 [D.str (ByteArray.mk #[97]),D.str (ByteArray.mk #[98]),D.str (ByteArray.mk #[103,111,97,108])]]),(1152921504606847045,true,[.d false 0 (D.bool (hB Tryz.prog (D.ag [D.str (ByteArray.mk #[88]),D.str (ByteArray.mk #[]),D.sl 5 [D.ag [D.str op7,D.str nm8,D.sl 5 ks9,D.int .i64 p10]],D.int .i64 0]) [D.str (ByteArray.mk #[97]),D.str (ByteArray.mk #[98]),D.str (ByteArray.mk #[103,111,97,108])] x19 (loopOf y20))),.d false 0 (hE Tryz.prog (D.ag [D.str (ByteArray.mk #[88]),D.str (ByteArray.mk #[]),D.sl 5 [D.ag [D.str op7,D.str nm8,D.sl 5 ks9,D.int .i64 p10]],D.int .i64 0]) [D.str (ByteArray.mk #[97]),D.str (ByteArray.mk #[98]),D.str (ByteArray.mk #[103,111,97,108])] x19 (loopOf y20))])]
noncomputable def z0_1:S:=⟨Tm.mk 225 (selT (u0_0 a b op7 nm8 ks9 p10 x19 y20) 91625968981 []),selR (v0_0 op7 nm8 ks9 p10 op12 nm13 ks14 p15 x19 y20) 1365 []⟩
noncomputable def z0_2:S:=⟨Tm.mk 225 (selT (u0_0 a b op7 nm8 ks9 p10 x19 y20) 91625964885 []),selR (v0_0 op7 nm8 ks9 p10 op12 nm13 ks14 p15 x19 y20) 1365 []⟩
noncomputable def z0_3:S:=⟨Tm.mk 225 (selT (u0_0 a b op7 nm8 ks9 p10 x19 y20) 22906488149 []),selR (v0_0 op7 nm8 ks9 p10 op12 nm13 ks14 p15 x19 y20) 1365 []⟩
noncomputable def z0_4:S:=⟨Tm.mk 225 (selT (u0_0 a b op7 nm8 ks9 p10 x19 y20) 5726618965 []),selR (v0_0 op7 nm8 ks9 p10 op12 nm13 ks14 p15 x19 y20) 1365 []⟩
noncomputable def z0_5:S:=⟨Tm.mk 225 (selT (u0_0 a b op7 nm8 ks9 p10 x19 y20) 5725570389 []),selR (v0_0 op7 nm8 ks9 p10 op12 nm13 ks14 p15 x19 y20) 1365 []⟩
noncomputable def z0_6:S:=⟨Tm.mk 225 (selT (u0_0 a b op7 nm8 ks9 p10 x19 y20) 1430603093 []),selR (v0_0 op7 nm8 ks9 p10 op12 nm13 ks14 p15 x19 y20) 341 []⟩
noncomputable def z0_7:S:=⟨Tm.mk 225 (selT (u0_0 a b op7 nm8 ks9 p10 x19 y20) 1162167637 []),selR (v0_0 op7 nm8 ks9 p10 op12 nm13 ks14 p15 x19 y20) 85 []⟩
noncomputable def z0_8:S:=⟨Tm.mk 225 (selT (u0_0 a b op7 nm8 ks9 p10 x19 y20) 1095058773 []),selR (v0_0 op7 nm8 ks9 p10 op12 nm13 ks14 p15 x19 y20) 85 []⟩
noncomputable def z0_9:S:=⟨Tm.mk 225 (selT (u0_0 a b op7 nm8 ks9 p10 x19 y20) 1363494229 []),selR (v0_0 op7 nm8 ks9 p10 op12 nm13 ks14 p15 x19 y20) 341 []⟩
noncomputable def z0_10:S:=⟨Tm.mk 225 (selT (u0_0 a b op7 nm8 ks9 p10 x19 y20) 1346717013 []),selR (v0_0 op7 nm8 ks9 p10 op12 nm13 ks14 p15 x19 y20) 341 []⟩
noncomputable def z0_11:S:=⟨Tm.mk 225 (selT (u0_0 a b op7 nm8 ks9 p10 x19 y20) 1078281557 []),selR (v0_0 op7 nm8 ks9 p10 op12 nm13 ks14 p15 x19 y20) 85 []⟩
noncomputable def z0_12:S:=⟨Tm.mk 225 (selT (u0_0 a b op7 nm8 ks9 p10 x19 y20) 4539733 []),selR (v0_0 op7 nm8 ks9 p10 op12 nm13 ks14 p15 x19 y20) 85 []⟩
def a0_0:List Nat:=[0,1,2,3,4,5,6,7,8,9,10]
def a0_1:List Nat:=[0,1,2,3,4,5,6,7,8,9]
def a0_2:List Nat:=[0,1,2,3,4,5,6,7,8]
def a0_3:List Nat:=[0,1,2,3,4,5,6,7]
def a0_4:List Nat:=[0,1,2,3,4,5,6]
def a0_5:List Nat:=[0,1,2,3,4,5]
def a0_6:List Nat:=[0,1,2,3,4]
def a0_7:List Nat:=[0,1,2,4]
def a0_9:List Nat:=[0,1,3,4]
theorem n0_0:regA Tryz.prog WS6 R0 B0 1 a0_0 (z0_0 a b op7 nm8 ks9 p10 op12 nm13 ks14 p15 x19 y20) kont21=kont21 (z0_0 a b op7 nm8 ks9 p10 op12 nm13 ks14 p15 x19 y20):=by
   kernel_rfl
theorem n0_1:regA Tryz.prog WS6 R0 B0 2 a0_1 (z0_1 a b op7 nm8 ks9 p10 op12 nm13 ks14 p15 x19 y20) kont21=kont21 (z0_0 a b op7 nm8 ks9 p10 op12 nm13 ks14 p15 x19 y20):=by
   refine(show _=regA Tryz.prog WS6 R0 B0 1 a0_0 (z0_0 a b op7 nm8 ks9 p10 op12 nm13 ks14 p15 x19 y20) kont21 from regA_quiet (z':=z0_0 a b op7 nm8 ks9 p10 op12 nm13 ks14 p15 x19 y20) (j:=10) (by kernel_rfl) (fun K=>by kernel_rfl) (by kernel_rfl) (by kernel_rfl)).trans ?_
   simp only[n0_0]
theorem n0_2:regA Tryz.prog WS6 R0 B0 3 a0_2 (z0_2 a b op7 nm8 ks9 p10 op12 nm13 ks14 p15 x19 y20) kont21=kont21 (z0_0 a b op7 nm8 ks9 p10 op12 nm13 ks14 p15 x19 y20):=by
   refine(show _=regA Tryz.prog WS6 R0 B0 2 a0_1 (z0_1 a b op7 nm8 ks9 p10 op12 nm13 ks14 p15 x19 y20) kont21 from regA_quiet (z':=z0_1 a b op7 nm8 ks9 p10 op12 nm13 ks14 p15 x19 y20) (j:=9) (by kernel_rfl) (fun K=>by kernel_rfl) (by kernel_rfl) (by kernel_rfl)).trans ?_
   simp only[n0_1]
theorem n0_3:regA Tryz.prog WS6 R0 B0 4 a0_3 (z0_3 a b op7 nm8 ks9 p10 op12 nm13 ks14 p15 x19 y20) kont21=kont21 (z0_0 a b op7 nm8 ks9 p10 op12 nm13 ks14 p15 x19 y20):=by
   refine(show _=regA Tryz.prog WS6 R0 B0 3 a0_2 (z0_2 a b op7 nm8 ks9 p10 op12 nm13 ks14 p15 x19 y20) kont21 from regA_quiet (z':=z0_2 a b op7 nm8 ks9 p10 op12 nm13 ks14 p15 x19 y20) (j:=8) (by kernel_rfl) (fun K=>by kernel_rfl) (by kernel_rfl) (by kernel_rfl)).trans ?_
   simp only[n0_2]
theorem n0_4:regA Tryz.prog WS6 R0 B0 5 a0_4 (z0_4 a b op7 nm8 ks9 p10 op12 nm13 ks14 p15 x19 y20) kont21=kont21 (z0_0 a b op7 nm8 ks9 p10 op12 nm13 ks14 p15 x19 y20):=by
   refine(show _=regA Tryz.prog WS6 R0 B0 4 a0_3 (z0_3 a b op7 nm8 ks9 p10 op12 nm13 ks14 p15 x19 y20) kont21 from regA_quiet (z':=z0_3 a b op7 nm8 ks9 p10 op12 nm13 ks14 p15 x19 y20) (j:=7) (by kernel_rfl) (fun K=>by kernel_rfl) (by kernel_rfl) (by kernel_rfl)).trans ?_
   simp only[n0_3]
theorem n0_5:regA Tryz.prog WS6 R0 B0 6 a0_5 (z0_5 a b op7 nm8 ks9 p10 op12 nm13 ks14 p15 x19 y20) kont21=kont21 (z0_0 a b op7 nm8 ks9 p10 op12 nm13 ks14 p15 x19 y20):=by
   refine(show _=regA Tryz.prog WS6 R0 B0 5 a0_4 (z0_4 a b op7 nm8 ks9 p10 op12 nm13 ks14 p15 x19 y20) kont21 from regA_quiet (z':=z0_4 a b op7 nm8 ks9 p10 op12 nm13 ks14 p15 x19 y20) (j:=6) (by kernel_rfl) (fun K=>by kernel_rfl) (by kernel_rfl) (by kernel_rfl)).trans ?_
   simp only[n0_4]
noncomputable def t0_0:Option β:=if hOk Tryz.prog (D.ag [D.str (ByteArray.mk #[88]),D.str (ByteArray.mk #[]),D.sl 5 [D.ag [D.str op7,D.str nm8,D.sl 5 ks9,D.int .i64 p10]],D.int .i64 0]) [D.str (ByteArray.mk #[97]),D.str (ByteArray.mk #[98]),D.str (ByteArray.mk #[103,111,97,108])] x19 (loopOf y20)then kont21 (z0_0 a b op7 nm8 ks9 p10 op12 nm13 ks14 p15 x19 y20)else none
theorem n0_6:regA Tryz.prog WS6 R0 B0 7 a0_6 (z0_6 a b op7 nm8 ks9 p10 op12 nm13 ks14 p15 x19 y20) kont21=t0_0 a b op7 nm8 ks9 p10 op12 nm13 ks14 p15 x19 y20 kont21:=by
   refine(show _=if
    hOk Tryz.prog (D.ag [D.str (ByteArray.mk #[88]),D.str (ByteArray.mk #[]),D.sl 5 [D.ag [D.str op7,D.str nm8,D.sl 5 ks9,D.int .i64 p10]],D.int .i64 0])
     [D.str (ByteArray.mk #[97]),D.str (ByteArray.mk #[98]),D.str (ByteArray.mk #[103,111,97,108])] x19 (loopOf y20)then
   regA Tryz.prog WS6 R0 B0 6 a0_5 (z0_5 a b op7 nm8 ks9 p10 op12 nm13 ks14 p15 x19 y20) kont21
  else none from by kernel_rfl).trans ?_
   first|(simp only[n0_5];rfl)|simp only[n0_5,t0_0]
theorem n0_7:regA Tryz.prog WS6 R0 B0 8 a0_7 (z0_7 a b op7 nm8 ks9 p10 op12 nm13 ks14 p15 x19 y20) kont21=t0_0 a b op7 nm8 ks9 p10 op12 nm13 ks14 p15 x19 y20 kont21:=by
   refine(show _=regA Tryz.prog WS6 R0 B0 7 a0_6 (z0_6 a b op7 nm8 ks9 p10 op12 nm13 ks14 p15 x19 y20) kont21 from by kernel_rfl).trans ?_
   simp only[n0_6,t0_0]
theorem n0_8:regA Tryz.prog WS6 R0 B0 9 [0,1,4] (z0_8 a b op7 nm8 ks9 p10 op12 nm13 ks14 p15 x19 y20) kont21=t0_0 a b op7 nm8 ks9 p10 op12 nm13 ks14 p15 x19 y20 kont21:=by
   refine(show _=regA Tryz.prog WS6 R0 B0 8 a0_7 (z0_7 a b op7 nm8 ks9 p10 op12 nm13 ks14 p15 x19 y20) kont21 from regA_quiet (z':=z0_7 a b op7 nm8 ks9 p10 op12 nm13 ks14 p15 x19 y20) (j:=2) (by kernel_rfl) (fun K=>by kernel_rfl) (by kernel_rfl) (by kernel_rfl)).trans ?_
   simp only[n0_7,t0_0]
theorem n0_9:regA Tryz.prog WS6 R0 B0 8 a0_9 (z0_9 a b op7 nm8 ks9 p10 op12 nm13 ks14 p15 x19 y20) kont21=t0_0 a b op7 nm8 ks9 p10 op12 nm13 ks14 p15 x19 y20 kont21:=by
   refine(show _=regA Tryz.prog WS6 R0 B0 7 a0_6 (z0_6 a b op7 nm8 ks9 p10 op12 nm13 ks14 p15 x19 y20) kont21 from regA_quiet (z':=z0_6 a b op7 nm8 ks9 p10 op12 nm13 ks14 p15 x19 y20) (j:=2) (by kernel_rfl) (fun K=>by kernel_rfl) (by kernel_rfl) (by kernel_rfl)).trans ?_
   simp only[n0_6,t0_0]
theorem n0_10:regA Tryz.prog WS6 R0 B0 9 [0,3,4] (z0_10 a b op7 nm8 ks9 p10 op12 nm13 ks14 p15 x19 y20) kont21=t0_0 a b op7 nm8 ks9 p10 op12 nm13 ks14 p15 x19 y20 kont21:=by
   refine(show _=regA Tryz.prog WS6 R0 B0 8 a0_9 (z0_9 a b op7 nm8 ks9 p10 op12 nm13 ks14 p15 x19 y20) kont21 from by kernel_rfl).trans ?_
   simp only[n0_9,t0_0]
theorem n0_11:regA Tryz.prog WS6 R0 B0 10 [0,4] (z0_11 a b op7 nm8 ks9 p10 op12 nm13 ks14 p15 x19 y20) kont21=t0_0 a b op7 nm8 ks9 p10 op12 nm13 ks14 p15 x19 y20 kont21:=by
   refine(show _=meet (regA Tryz.prog WS6 R0 B0 9 [0,1,4] (z0_8 a b op7 nm8 ks9 p10 op12 nm13 ks14 p15 x19 y20) kont21)
   (regA Tryz.prog WS6 R0 B0 9 [0,3,4] (z0_10 a b op7 nm8 ks9 p10 op12 nm13 ks14 p15 x19 y20) kont21)from by kernel_rfl).trans ?_
   first|(simp only[n0_8,n0_10,Go.Sc.meet_self];done)|simp only[n0_8,n0_10,Go.Sc.meet_self,t0_0]
theorem n0_12:regA Tryz.prog WS6 R0 B0 11 [0] (z0_12 a b op7 nm8 ks9 p10 op12 nm13 ks14 p15 x19 y20) kont21=t0_0 a b op7 nm8 ks9 p10 op12 nm13 ks14 p15 x19 y20 kont21:=by
   refine(show _=regA Tryz.prog WS6 R0 B0 10 [0,4] (z0_11 a b op7 nm8 ks9 p10 op12 nm13 ks14 p15 x19 y20) kont21 from regA_quiet (z':=z0_11 a b op7 nm8 ks9 p10 op12 nm13 ks14 p15 x19 y20) (j:=4) (by kernel_rfl) (fun K=>by kernel_rfl) (by kernel_rfl) (by kernel_rfl)).trans ?_
   simp only[n0_11,t0_0]
theorem n0_13:regA Tryz.prog WS6 R0 B0 12 [] (z0_13 a b op7 nm8 ks9 p10 op12 nm13 ks14 p15 x19 y20) kont21=t0_0 a b op7 nm8 ks9 p10 op12 nm13 ks14 p15 x19 y20 kont21:=by
   refine(show _=regA Tryz.prog WS6 R0 B0 11 [0] (z0_12 a b op7 nm8 ks9 p10 op12 nm13 ks14 p15 x19 y20) kont21 from regA_quiet (z':=⟨Tm.mk 225
   [(2,.d true 0 (D.sl 0 a)),(3,.d true 0 (D.sl 0 b)),(9,.rp 10 0),(11,.rp 12 0),
    (12,.d false 0 D.nili),(13,.rp 14 0),(60,.d true 0 (D.sl 0 a)),(61,.d true 0 (D.sl 0 b)),
    (62,.d false 3 (D.ag [D.sl 0 x19,D.sl 0 (loopOf y20)])),
    (64,.ag [.d false 0 (D.str op7),.d false 0 (D.str nm8),.d false 0 (D.sl 5 ks9),.d false 0 (D.int .i64 p10)])],[(14,true,[.d false 0 (D.sl 0 x19),.d false 0 (D.sl 0 (loopOf y20))]),
   (1152921504606847038,true,[.d false 3 (D.ag [D.sl 0 x19,D.sl 0 (loopOf y20)])]),
   (10,true,[.d false 0 (D.str op7),.d false 0 (D.str nm8),.d false 0 (D.sl 5 ks9),.d false 0 (D.int .i64 p10)]),
   (12,true,[.d false 0 (D.str op12),.d false 0 (D.str nm13),.d false 0 (D.sl 5 ks14),.d false 0 (D.int .i64 p15)])]⟩) (j:=0) (by kernel_rfl) (fun K=>by kernel_rfl) (by kernel_rfl) (by kernel_rfl)).trans ?_
   simp only[n0_12,t0_0]
end
theorem reg0 {β:Type} (a:List D) (b:List D) (op7:ByteArray) (nm8:ByteArray) (ks9:List D) (p10:Int) (op12:ByteArray) (nm13:ByteArray) (ks14:List D) (p15:Int) (x19:List D) (y20:List D) (kont21:S→Option β):regH Tryz.prog WS6 R0 (z0_13 a b op7 nm8 ks9 p10 op12 nm13 ks14 p15 x19 y20) kont21=if hOk Tryz.prog (D.ag [D.str (ByteArray.mk #[88]),D.str (ByteArray.mk #[]),D.sl 5 [D.ag [D.str op7,D.str nm8,D.sl 5 ks9,D.int .i64 p10]],D.int .i64 0]) [D.str (ByteArray.mk #[97]),D.str (ByteArray.mk #[98]),D.str (ByteArray.mk #[103,111,97,108])] x19 (loopOf y20)then kont21 (z0_0 a b op7 nm8 ks9 p10 op12 nm13 ks14 p15 x19 y20)else none:=(show _=regA Tryz.prog WS6 R0 B0 12 [] (z0_13 a b op7 nm8 ks9 p10 op12 nm13 ks14 p15 x19 y20) kont21 from by kernel_rfl).trans (n0_13 ..)
noncomputable def R1:Array Oper:=regOps (sub [1,1,1,1,1,1,1,1,1,1,0] (body Tryz.f6))
def B1:List Nat:=[0,0,2,7,0,16,63,0,0,256,1023,0,2048,8191,16383,0,65535]
  section
  variable {β:Type} (op7:ByteArray) (nm8:ByteArray) (ks9:List D) (p10:Int) (op12:ByteArray) (nm13:ByteArray) (ks14:List D) (p15:Int) (x19:List D) (y20:List D) (kont89:S→Option β)
noncomputable def z1_0:S:=⟨Tm.mk 225 [(9,.rp 10 0),(11,.rp 12 0),(12,.d false 0 D.nili),(13,.rp 14 0),(17,.d false 0 (hE Tryz.prog (D.ag [D.str op7,D.str nm8,D.sl 5 ks9,D.int .i64 p10]) [D.str (ByteArray.mk #[97]),D.str (ByteArray.mk #[98]),D.str (ByteArray.mk #[103,111,97,108])] (shStem x19) (shLoop x19 (loopOf y20)))),(18,.rp 19 0),(90,.undef),(91,.rp 14 0),(92,.d false 0 (D.sl 0 x19)),(93,.undef),(94,.rp 14 1),(95,.d false 0 (D.sl 0 (loopOf y20))),(96,.undef),(97,.undef),(98,.rp 14 1),(99,.d false 0 (D.sl 0 (loopOf y20))),(100,.undef),(101,.rp 14 1),(102,.d false 0 (D.sl 0 (loopOf y20))),(103,.undef),(104,.undef)],[(10,true,[.d false 0 (D.str op7),.d false 0 (D.str nm8),.d false 0 (D.sl 5 ks9),.d false 0 (D.int .i64 p10)]),(12,true,[.d false 0 (D.str op12),.d false 0 (D.str nm13),.d false 0 (D.sl 5 ks14),.d false 0 (D.int .i64 p15)]),(14,true,[.d false 0 (D.sl 0 x19),.d false 0 (D.sl 0 (loopOf y20))]),(19,true,[.own false 0 (x19++loopOf y20),.own false 0 (loopOf y20++loopOf y20)])]⟩
noncomputable def z1_30:S:=⟨Tm.mk 225 [(9,.rp 10 0),(11,.rp 12 0),(12,.d false 0 D.nili),(13,.rp 14 0),(17,.d false 0 (hE Tryz.prog (D.ag [D.str op7,D.str nm8,D.sl 5 ks9,D.int .i64 p10]) [D.str (ByteArray.mk #[97]),D.str (ByteArray.mk #[98]),D.str (ByteArray.mk #[103,111,97,108])] (shStem x19) (shLoop x19 (loopOf y20))))],[(10,true,[.d false 0 (D.str op7),.d false 0 (D.str nm8),.d false 0 (D.sl 5 ks9),.d false 0 (D.int .i64 p10)]),(12,true,[.d false 0 (D.str op12),.d false 0 (D.str nm13),.d false 0 (D.sl 5 ks14),.d false 0 (D.int .i64 p15)]),(14,true,[.d false 0 (D.sl 0 x19),.d false 0 (D.sl 0 (loopOf y20))])]⟩
noncomputable def u1_0:List (Nat×V):=[(9,.rp 10 0),(11,.rp 12 0),(12,.d false 0 D.nili),(13,.rp 14 0),(17,.d false 0 (hE Tryz.prog (D.ag [D.str op7,D.str nm8,D.sl 5 ks9,D.int .i64 p10]) [D.str (ByteArray.mk #[97]),D.str (ByteArray.mk #[98]),D.str (ByteArray.mk #[103,111,97,108])] (shStem x19) (shLoop x19 (loopOf y20)))),(18,.rp 19 0),(90,.own false 0 []),(91,.rp 14 0),(92,.d false 0 (D.sl 0 x19)),(93,.own false 0 x19),(94,.rp 14 1),(95,.d false 0 (D.sl 0 (loopOf y20))),(96,.own false 0 (x19++loopOf y20)),(97,.own false 0 []),(98,.rp 14 1),(99,.d false 0 (D.sl 0 (loopOf y20))),(100,.own false 0 (loopOf y20)),(101,.rp 14 1),(102,.d false 0 (D.sl 0 (loopOf y20))),(103,.own false 0 (loopOf y20++loopOf y20)),(104,.ag [.bf 0 96,.bf 0 103])]
noncomputable def v1_0:List (Nat×Bool×List V):=[(10,true,[.d false 0 (D.str op7),.d false 0 (D.str nm8),.d false 0 (D.sl 5 ks9),.d false 0 (D.int .i64 p10)]),(12,true,[.d false 0 (D.str op12),.d false 0 (D.str nm13),.d false 0 (D.sl 5 ks14),.d false 0 (D.int .i64 p15)]),(14,true,[.d false 0 (D.sl 0 x19),.d false 0 (D.sl 0 (loopOf y20))]),(19,true,[.own false 0 [],.own false 0 []])]
noncomputable def z1_1:S:=⟨Tm.mk 225 (selT (u1_0 op7 nm8 ks9 p10 x19 y20) 1470377846101 []),selR (v1_0 op7 nm8 ks9 p10 op12 nm13 ks14 p15 x19 y20) 85 []⟩
noncomputable def z1_2:S:=⟨Tm.mk 225 (selT (u1_0 op7 nm8 ks9 p10 x19 y20) 1470377845077 []),selR (v1_0 op7 nm8 ks9 p10 op12 nm13 ks14 p15 x19 y20) 21 []⟩
noncomputable def z1_3:S:=⟨Tm.mk 225 (selT (u1_0 op7 nm8 ks9 p10 x19 y20) 370866217301 []),selR (v1_0 op7 nm8 ks9 p10 op12 nm13 ks14 p15 x19 y20) 21 []⟩
noncomputable def z1_4:S:=⟨Tm.mk 225 (selT (u1_0 op7 nm8 ks9 p10 x19 y20) 370866218325 []),selR (v1_0 op7 nm8 ks9 p10 op12 nm13 ks14 p15 x19 y20) 85 []⟩
noncomputable def z1_5:S:=⟨Tm.mk 225 (selT (u1_0 op7 nm8 ks9 p10 x19 y20) 91693344085 []),selR (v1_0 op7 nm8 ks9 p10 op12 nm13 ks14 p15 x19 y20) 85 []⟩
noncomputable def z1_6:S:=⟨Tm.mk 225 (selT (u1_0 op7 nm8 ks9 p10 x19 y20) 91693343061 []),selR (v1_0 op7 nm8 ks9 p10 op12 nm13 ks14 p15 x19 y20) 21 []⟩
noncomputable def z1_7:S:=⟨Tm.mk 225 (selT (u1_0 op7 nm8 ks9 p10 x19 y20) 87331267925 []),selR (v1_0 op7 nm8 ks9 p10 op12 nm13 ks14 p15 x19 y20) 85 []⟩
noncomputable def z1_8:S:=⟨Tm.mk 225 (selT (u1_0 op7 nm8 ks9 p10 x19 y20) 87331266901 []),selR (v1_0 op7 nm8 ks9 p10 op12 nm13 ks14 p15 x19 y20) 21 []⟩
noncomputable def z1_9:S:=⟨Tm.mk 225 (selT (u1_0 op7 nm8 ks9 p10 x19 y20) 87264159061 []),selR (v1_0 op7 nm8 ks9 p10 op12 nm13 ks14 p15 x19 y20) 85 []⟩
noncomputable def z1_10:S:=⟨Tm.mk 225 (selT (u1_0 op7 nm8 ks9 p10 x19 y20) 87264158037 []),selR (v1_0 op7 nm8 ks9 p10 op12 nm13 ks14 p15 x19 y20) 21 []⟩
noncomputable def z1_11:S:=⟨Tm.mk 225 (selT (u1_0 op7 nm8 ks9 p10 x19 y20) 87314228565 []),selR (v1_0 op7 nm8 ks9 p10 op12 nm13 ks14 p15 x19 y20) 85 []⟩
noncomputable def z1_12:S:=⟨Tm.mk 225 (selT (u1_0 op7 nm8 ks9 p10 x19 y20) 87314227541 []),selR (v1_0 op7 nm8 ks9 p10 op12 nm13 ks14 p15 x19 y20) 21 []⟩
noncomputable def z1_13:S:=⟨Tm.mk 225 (selT (u1_0 op7 nm8 ks9 p10 x19 y20) 87247119701 []),selR (v1_0 op7 nm8 ks9 p10 op12 nm13 ks14 p15 x19 y20) 85 []⟩
noncomputable def z1_14:S:=⟨Tm.mk 225 (selT (u1_0 op7 nm8 ks9 p10 x19 y20) 87247118677 []),selR (v1_0 op7 nm8 ks9 p10 op12 nm13 ks14 p15 x19 y20) 21 []⟩
noncomputable def z1_15:S:=⟨Tm.mk 225 (selT (u1_0 op7 nm8 ks9 p10 x19 y20) 87313962325 []),selR (v1_0 op7 nm8 ks9 p10 op12 nm13 ks14 p15 x19 y20) 85 []⟩
noncomputable def z1_16:S:=⟨Tm.mk 225 (selT (u1_0 op7 nm8 ks9 p10 x19 y20) 87313961301 []),selR (v1_0 op7 nm8 ks9 p10 op12 nm13 ks14 p15 x19 y20) 21 []⟩
noncomputable def z1_17:S:=⟨Tm.mk 225 (selT (u1_0 op7 nm8 ks9 p10 x19 y20) 87246853461 []),selR (v1_0 op7 nm8 ks9 p10 op12 nm13 ks14 p15 x19 y20) 85 []⟩
noncomputable def z1_18:S:=⟨Tm.mk 225 (selT (u1_0 op7 nm8 ks9 p10 x19 y20) 87246852437 []),selR (v1_0 op7 nm8 ks9 p10 op12 nm13 ks14 p15 x19 y20) 21 []⟩
noncomputable def z1_19:S:=⟨Tm.mk 225 (selT (u1_0 op7 nm8 ks9 p10 x19 y20) 87313958229 []),selR (v1_0 op7 nm8 ks9 p10 op12 nm13 ks14 p15 x19 y20) 85 []⟩
noncomputable def z1_20:S:=⟨Tm.mk 225 (selT (u1_0 op7 nm8 ks9 p10 x19 y20) 87313957205 []),selR (v1_0 op7 nm8 ks9 p10 op12 nm13 ks14 p15 x19 y20) 21 []⟩
noncomputable def z1_21:S:=⟨Tm.mk 225 (selT (u1_0 op7 nm8 ks9 p10 x19 y20) 87246849365 []),selR (v1_0 op7 nm8 ks9 p10 op12 nm13 ks14 p15 x19 y20) 85 []⟩
noncomputable def z1_22:S:=⟨Tm.mk 225 (selT (u1_0 op7 nm8 ks9 p10 x19 y20) 87246848341 []),selR (v1_0 op7 nm8 ks9 p10 op12 nm13 ks14 p15 x19 y20) 21 []⟩
noncomputable def z1_23:S:=⟨Tm.mk 225 (selT (u1_0 op7 nm8 ks9 p10 x19 y20) 18527371605 []),selR (v1_0 op7 nm8 ks9 p10 op12 nm13 ks14 p15 x19 y20) 21 []⟩
noncomputable def z1_24:S:=⟨Tm.mk 225 (selT (u1_0 op7 nm8 ks9 p10 x19 y20) 1347502421 []),selR (v1_0 op7 nm8 ks9 p10 op12 nm13 ks14 p15 x19 y20) 21 []⟩
noncomputable def z1_25:S:=⟨Tm.mk 225 (selT (u1_0 op7 nm8 ks9 p10 x19 y20) 273760597 []),selR (v1_0 op7 nm8 ks9 p10 op12 nm13 ks14 p15 x19 y20) 21 []⟩
noncomputable def z1_26:S:=⟨Tm.mk 225 (selT (u1_0 op7 nm8 ks9 p10 x19 y20) 5325141 []),selR (v1_0 op7 nm8 ks9 p10 op12 nm13 ks14 p15 x19 y20) 21 []⟩
noncomputable def z1_27:S:=⟨Tm.mk 225 (selT (u1_0 op7 nm8 ks9 p10 x19 y20) 1130837 []),selR (v1_0 op7 nm8 ks9 p10 op12 nm13 ks14 p15 x19 y20) 21 []⟩
noncomputable def z1_28:S:=⟨Tm.mk 225 (selT (u1_0 op7 nm8 ks9 p10 x19 y20) 82261 []),selR (v1_0 op7 nm8 ks9 p10 op12 nm13 ks14 p15 x19 y20) 21 []⟩
noncomputable def z1_29:S:=⟨Tm.mk 225 (selT (u1_0 op7 nm8 ks9 p10 x19 y20) 16725 []),selR (v1_0 op7 nm8 ks9 p10 op12 nm13 ks14 p15 x19 y20) 21 []⟩
def a1_0:List Nat:=[0,1,2,3,4,5,6,7,8,9,10,11,12,13,14,15,16]
def a1_1:List Nat:=[0,1,2,3,4,5,6,7,8,9,10,11,12,13,14,15]
def a1_2:List Nat:=[0,1,2,3,4,5,6,7,8,9,10,11,12,13,14]
def a1_3:List Nat:=[0,1,2,3,4,5,6,7,8,9,10,11,12,13]
def a1_4:List Nat:=[0,1,2,3,4,5,6,7,8,9,10,11,12,13,15]
def a1_5:List Nat:=[0,1,2,3,4,5,6,7,8,9,10,11,12,15]
def a1_6:List Nat:=[0,1,2,3,4,5,6,7,8,9,10,11,12]
def a1_7:List Nat:=[0,1,2,3,4,5,6,7,8,9,11,12,15]
def a1_8:List Nat:=[0,1,2,3,4,5,6,7,8,9,11,12]
def a1_9:List Nat:=[0,1,2,3,4,5,6,8,9,11,12,15]
def a1_10:List Nat:=[0,1,2,3,4,5,6,8,9,11,12]
def a1_11:List Nat:=[0,1,2,3,4,5,7,8,9,11,12,15]
def a1_12:List Nat:=[0,1,2,3,4,5,7,8,9,11,12]
def a1_13:List Nat:=[0,1,2,3,4,5,8,9,11,12,15]
def a1_14:List Nat:=[0,1,2,3,4,5,8,9,11,12]
def a1_15:List Nat:=[0,1,2,4,5,7,8,9,11,12,15]
def a1_16:List Nat:=[0,1,2,4,5,7,8,9,11,12]
def a1_17:List Nat:=[0,1,2,4,5,8,9,11,12,15]
def a1_18:List Nat:=[0,1,2,4,5,8,9,11,12]
def a1_19:List Nat:=[1,2,4,5,7,8,9,11,12,15]
def a1_20:List Nat:=[1,2,4,5,7,8,9,11,12]
def a1_21:List Nat:=[1,2,4,5,8,9,11,12,15]
def a1_22:List Nat:=[1,2,4,5,8,9,11,12]
def a1_23:List Nat:=[1,2,4,5,8,9,11]
def a1_24:List Nat:=[1,2,4,5,8,9]
def a1_25:List Nat:=[1,2,4,5,8]
def a1_26:List Nat:=[1,2,4,5]
theorem n1_0:regA Tryz.prog WS6 R1 B1 1 a1_0 (z1_0 op7 nm8 ks9 p10 op12 nm13 ks14 p15 x19 y20) kont89=kont89 (z1_0 op7 nm8 ks9 p10 op12 nm13 ks14 p15 x19 y20):=by
   kernel_rfl
theorem n1_1:regA Tryz.prog WS6 R1 B1 2 a1_1 (z1_1 op7 nm8 ks9 p10 op12 nm13 ks14 p15 x19 y20) kont89=kont89 (z1_0 op7 nm8 ks9 p10 op12 nm13 ks14 p15 x19 y20):=by
   refine(show _=regA Tryz.prog WS6 R1 B1 1 a1_0 (z1_0 op7 nm8 ks9 p10 op12 nm13 ks14 p15 x19 y20) kont89 from by kernel_rfl).trans ?_
   simp only[n1_0]
theorem n1_2:regA Tryz.prog WS6 R1 B1 3 a1_2 (z1_2 op7 nm8 ks9 p10 op12 nm13 ks14 p15 x19 y20) kont89=kont89 (z1_0 op7 nm8 ks9 p10 op12 nm13 ks14 p15 x19 y20):=by
   refine(show _=regA Tryz.prog WS6 R1 B1 2 a1_1 (z1_1 op7 nm8 ks9 p10 op12 nm13 ks14 p15 x19 y20) kont89 from by kernel_rfl).trans ?_
   simp only[n1_1]
theorem n1_3:regA Tryz.prog WS6 R1 B1 4 a1_3 (z1_3 op7 nm8 ks9 p10 op12 nm13 ks14 p15 x19 y20) kont89=kont89 (z1_0 op7 nm8 ks9 p10 op12 nm13 ks14 p15 x19 y20):=by
   refine(show _=regA Tryz.prog WS6 R1 B1 3 a1_2 (z1_2 op7 nm8 ks9 p10 op12 nm13 ks14 p15 x19 y20) kont89 from regA_quiet (z':=z1_2 op7 nm8 ks9 p10 op12 nm13 ks14 p15 x19 y20) (j:=14) (by kernel_rfl) (fun K=>by kernel_rfl) (by kernel_rfl) (by kernel_rfl)).trans ?_
   simp only[n1_2]
theorem n1_4:regA Tryz.prog WS6 R1 B1 3 a1_4 (z1_4 op7 nm8 ks9 p10 op12 nm13 ks14 p15 x19 y20) kont89=kont89 (z1_0 op7 nm8 ks9 p10 op12 nm13 ks14 p15 x19 y20):=by
   refine(show _=regA Tryz.prog WS6 R1 B1 2 a1_1 (z1_1 op7 nm8 ks9 p10 op12 nm13 ks14 p15 x19 y20) kont89 from regA_quiet (z':=z1_1 op7 nm8 ks9 p10 op12 nm13 ks14 p15 x19 y20) (j:=14) (by kernel_rfl) (fun K=>by kernel_rfl) (by kernel_rfl) (by kernel_rfl)).trans ?_
   simp only[n1_1]
noncomputable def t1_0:Option β:=if List.length (loopOf y20)+List.length (loopOf y20)≤34359738368 then kont89 (z1_0 op7 nm8 ks9 p10 op12 nm13 ks14 p15 x19 y20)else none
theorem n1_5:regA Tryz.prog WS6 R1 B1 4 a1_5 (z1_5 op7 nm8 ks9 p10 op12 nm13 ks14 p15 x19 y20) kont89=t1_0 op7 nm8 ks9 p10 op12 nm13 ks14 p15 x19 y20 kont89:=by
   refine(show _=if List.length (loopOf y20)+List.length (loopOf y20)≤34359738368 then regA Tryz.prog WS6 R1 B1 3 a1_4 (z1_4 op7 nm8 ks9 p10 op12 nm13 ks14 p15 x19 y20) kont89 else none from by kernel_rfl).trans ?_
   first|(simp only[n1_4];rfl)|simp only[n1_4,t1_0]
theorem n1_6:regA Tryz.prog WS6 R1 B1 5 a1_6 (z1_6 op7 nm8 ks9 p10 op12 nm13 ks14 p15 x19 y20) kont89=t1_0 op7 nm8 ks9 p10 op12 nm13 ks14 p15 x19 y20 kont89:=by
   refine(show _=meet (if List.length (loopOf y20)+List.length (loopOf y20)≤34359738368 then regA Tryz.prog WS6 R1 B1 4 a1_3 (z1_3 op7 nm8 ks9 p10 op12 nm13 ks14 p15 x19 y20) kont89 else none)
   (regA Tryz.prog WS6 R1 B1 4 a1_5 (z1_5 op7 nm8 ks9 p10 op12 nm13 ks14 p15 x19 y20) kont89)from by kernel_rfl).trans ?_
   simp only[n1_3,n1_5,Go.Sc.meet_self,t1_0]
noncomputable def t1_1:Option β:=if 0+List.length (loopOf y20)≤34359738368 then t1_0 op7 nm8 ks9 p10 op12 nm13 ks14 p15 x19 y20 kont89 else none
theorem n1_7:regA Tryz.prog WS6 R1 B1 5 a1_7 (z1_7 op7 nm8 ks9 p10 op12 nm13 ks14 p15 x19 y20) kont89=t1_1 op7 nm8 ks9 p10 op12 nm13 ks14 p15 x19 y20 kont89:=by
   refine(show _=if 0+List.length (loopOf y20)≤34359738368 then regA Tryz.prog WS6 R1 B1 4 a1_5 (z1_5 op7 nm8 ks9 p10 op12 nm13 ks14 p15 x19 y20) kont89 else none from by kernel_rfl).trans ?_
   first|(simp only[n1_5];rfl)|simp only[n1_5,t1_0,t1_1]
theorem n1_8:regA Tryz.prog WS6 R1 B1 6 a1_8 (z1_8 op7 nm8 ks9 p10 op12 nm13 ks14 p15 x19 y20) kont89=t1_1 op7 nm8 ks9 p10 op12 nm13 ks14 p15 x19 y20 kont89:=by
   refine(show _=meet (if 0+List.length (loopOf y20)≤34359738368 then regA Tryz.prog WS6 R1 B1 5 a1_6 (z1_6 op7 nm8 ks9 p10 op12 nm13 ks14 p15 x19 y20) kont89 else none)
   (regA Tryz.prog WS6 R1 B1 5 a1_7 (z1_7 op7 nm8 ks9 p10 op12 nm13 ks14 p15 x19 y20) kont89)from by kernel_rfl).trans ?_
   simp only[n1_6,n1_7,Go.Sc.meet_self,t1_0,t1_1]
theorem n1_9:regA Tryz.prog WS6 R1 B1 6 a1_9 (z1_9 op7 nm8 ks9 p10 op12 nm13 ks14 p15 x19 y20) kont89=t1_1 op7 nm8 ks9 p10 op12 nm13 ks14 p15 x19 y20 kont89:=by
   refine(show _=regA Tryz.prog WS6 R1 B1 5 a1_7 (z1_7 op7 nm8 ks9 p10 op12 nm13 ks14 p15 x19 y20) kont89 from by kernel_rfl).trans ?_
   simp only[n1_7,t1_0,t1_1]
theorem n1_10:regA Tryz.prog WS6 R1 B1 7 a1_10 (z1_10 op7 nm8 ks9 p10 op12 nm13 ks14 p15 x19 y20) kont89=t1_1 op7 nm8 ks9 p10 op12 nm13 ks14 p15 x19 y20 kont89:=by
   refine(show _=meet (regA Tryz.prog WS6 R1 B1 6 a1_8 (z1_8 op7 nm8 ks9 p10 op12 nm13 ks14 p15 x19 y20) kont89) (regA Tryz.prog WS6 R1 B1 6 a1_9 (z1_9 op7 nm8 ks9 p10 op12 nm13 ks14 p15 x19 y20) kont89)from by kernel_rfl).trans ?_
   first|(simp only[n1_8,n1_9,Go.Sc.meet_self];done)|simp only[n1_8,n1_9,Go.Sc.meet_self,t1_0,t1_1]
noncomputable def t1_2:Option β:=if x19.length+List.length (loopOf y20)≤34359738368 then t1_1 op7 nm8 ks9 p10 op12 nm13 ks14 p15 x19 y20 kont89 else none
theorem n1_11:regA Tryz.prog WS6 R1 B1 6 a1_11 (z1_11 op7 nm8 ks9 p10 op12 nm13 ks14 p15 x19 y20) kont89=t1_2 op7 nm8 ks9 p10 op12 nm13 ks14 p15 x19 y20 kont89:=by
   refine(show _=if x19.length+List.length (loopOf y20)≤34359738368 then regA Tryz.prog WS6 R1 B1 5 a1_7 (z1_7 op7 nm8 ks9 p10 op12 nm13 ks14 p15 x19 y20) kont89 else none from by kernel_rfl).trans ?_
   first|(simp only[n1_7];rfl)|simp only[n1_7,t1_0,t1_1,t1_2]
theorem n1_12:regA Tryz.prog WS6 R1 B1 7 a1_12 (z1_12 op7 nm8 ks9 p10 op12 nm13 ks14 p15 x19 y20) kont89=t1_2 op7 nm8 ks9 p10 op12 nm13 ks14 p15 x19 y20 kont89:=by
   refine(show _=meet (if x19.length+List.length (loopOf y20)≤34359738368 then regA Tryz.prog WS6 R1 B1 6 a1_8 (z1_8 op7 nm8 ks9 p10 op12 nm13 ks14 p15 x19 y20) kont89 else none)
   (regA Tryz.prog WS6 R1 B1 6 a1_11 (z1_11 op7 nm8 ks9 p10 op12 nm13 ks14 p15 x19 y20) kont89)from by kernel_rfl).trans ?_
   simp only[n1_8,n1_11,Go.Sc.meet_self,t1_0,t1_1,t1_2]
theorem n1_13:regA Tryz.prog WS6 R1 B1 7 a1_13 (z1_13 op7 nm8 ks9 p10 op12 nm13 ks14 p15 x19 y20) kont89=t1_2 op7 nm8 ks9 p10 op12 nm13 ks14 p15 x19 y20 kont89:=by
   refine(show _=meet (if x19.length+List.length (loopOf y20)≤34359738368 then regA Tryz.prog WS6 R1 B1 6 a1_9 (z1_9 op7 nm8 ks9 p10 op12 nm13 ks14 p15 x19 y20) kont89 else none)
   (regA Tryz.prog WS6 R1 B1 6 a1_11 (z1_11 op7 nm8 ks9 p10 op12 nm13 ks14 p15 x19 y20) kont89)from by kernel_rfl).trans ?_
   simp only[n1_9,n1_11,Go.Sc.meet_self,t1_0,t1_1,t1_2]
theorem n1_14:regA Tryz.prog WS6 R1 B1 8 a1_14 (z1_14 op7 nm8 ks9 p10 op12 nm13 ks14 p15 x19 y20) kont89=t1_2 op7 nm8 ks9 p10 op12 nm13 ks14 p15 x19 y20 kont89:=by
   refine(show _=meet (if x19.length+List.length (loopOf y20)≤34359738368 then regA Tryz.prog WS6 R1 B1 7 a1_10 (z1_10 op7 nm8 ks9 p10 op12 nm13 ks14 p15 x19 y20) kont89 else none)
   (meet (regA Tryz.prog WS6 R1 B1 7 a1_12 (z1_12 op7 nm8 ks9 p10 op12 nm13 ks14 p15 x19 y20) kont89) (regA Tryz.prog WS6 R1 B1 7 a1_13 (z1_13 op7 nm8 ks9 p10 op12 nm13 ks14 p15 x19 y20) kont89))from by kernel_rfl).trans ?_
   simp only[n1_10,n1_12,n1_13,Go.Sc.meet_self,t1_0,t1_1,t1_2]
noncomputable def t1_3:Option β:=if 0+x19.length≤34359738368 then t1_2 op7 nm8 ks9 p10 op12 nm13 ks14 p15 x19 y20 kont89 else none
theorem n1_15:regA Tryz.prog WS6 R1 B1 7 a1_15 (z1_15 op7 nm8 ks9 p10 op12 nm13 ks14 p15 x19 y20) kont89=t1_3 op7 nm8 ks9 p10 op12 nm13 ks14 p15 x19 y20 kont89:=by
   refine(show _=if 0+x19.length≤34359738368 then regA Tryz.prog WS6 R1 B1 6 a1_11 (z1_11 op7 nm8 ks9 p10 op12 nm13 ks14 p15 x19 y20) kont89 else none from by kernel_rfl).trans ?_
   first|(simp only[n1_11];rfl)|simp only[n1_11,t1_0,t1_1,t1_2,t1_3]
theorem n1_16:regA Tryz.prog WS6 R1 B1 8 a1_16 (z1_16 op7 nm8 ks9 p10 op12 nm13 ks14 p15 x19 y20) kont89=t1_3 op7 nm8 ks9 p10 op12 nm13 ks14 p15 x19 y20 kont89:=by
   refine(show _=meet (if 0+x19.length≤34359738368 then regA Tryz.prog WS6 R1 B1 7 a1_12 (z1_12 op7 nm8 ks9 p10 op12 nm13 ks14 p15 x19 y20) kont89 else none)
   (regA Tryz.prog WS6 R1 B1 7 a1_15 (z1_15 op7 nm8 ks9 p10 op12 nm13 ks14 p15 x19 y20) kont89)from by kernel_rfl).trans ?_
   simp only[n1_12,n1_15,Go.Sc.meet_self,t1_0,t1_1,t1_2,t1_3]
theorem n1_17:regA Tryz.prog WS6 R1 B1 8 a1_17 (z1_17 op7 nm8 ks9 p10 op12 nm13 ks14 p15 x19 y20) kont89=t1_3 op7 nm8 ks9 p10 op12 nm13 ks14 p15 x19 y20 kont89:=by
   refine(show _=meet (if 0+x19.length≤34359738368 then regA Tryz.prog WS6 R1 B1 7 a1_13 (z1_13 op7 nm8 ks9 p10 op12 nm13 ks14 p15 x19 y20) kont89 else none)
   (regA Tryz.prog WS6 R1 B1 7 a1_15 (z1_15 op7 nm8 ks9 p10 op12 nm13 ks14 p15 x19 y20) kont89)from by kernel_rfl).trans ?_
   simp only[n1_13,n1_15,Go.Sc.meet_self,t1_0,t1_1,t1_2,t1_3]
theorem n1_18:regA Tryz.prog WS6 R1 B1 9 a1_18 (z1_18 op7 nm8 ks9 p10 op12 nm13 ks14 p15 x19 y20) kont89=t1_3 op7 nm8 ks9 p10 op12 nm13 ks14 p15 x19 y20 kont89:=by
   refine(show _=meet (if 0+x19.length≤34359738368 then regA Tryz.prog WS6 R1 B1 8 a1_14 (z1_14 op7 nm8 ks9 p10 op12 nm13 ks14 p15 x19 y20) kont89 else none)
   (meet (regA Tryz.prog WS6 R1 B1 8 a1_16 (z1_16 op7 nm8 ks9 p10 op12 nm13 ks14 p15 x19 y20) kont89) (regA Tryz.prog WS6 R1 B1 8 a1_17 (z1_17 op7 nm8 ks9 p10 op12 nm13 ks14 p15 x19 y20) kont89))from by kernel_rfl).trans ?_
   simp only[n1_14,n1_16,n1_17,Go.Sc.meet_self,t1_0,t1_1,t1_2,t1_3]
theorem n1_19:regA Tryz.prog WS6 R1 B1 8 a1_19 (z1_19 op7 nm8 ks9 p10 op12 nm13 ks14 p15 x19 y20) kont89=t1_3 op7 nm8 ks9 p10 op12 nm13 ks14 p15 x19 y20 kont89:=by
   refine(show _=regA Tryz.prog WS6 R1 B1 7 a1_15 (z1_15 op7 nm8 ks9 p10 op12 nm13 ks14 p15 x19 y20) kont89 from by kernel_rfl).trans ?_
   simp only[n1_15,t1_0,t1_1,t1_2,t1_3]
theorem n1_20:regA Tryz.prog WS6 R1 B1 9 a1_20 (z1_20 op7 nm8 ks9 p10 op12 nm13 ks14 p15 x19 y20) kont89=t1_3 op7 nm8 ks9 p10 op12 nm13 ks14 p15 x19 y20 kont89:=by
   refine(show _=meet (regA Tryz.prog WS6 R1 B1 8 a1_16 (z1_16 op7 nm8 ks9 p10 op12 nm13 ks14 p15 x19 y20) kont89) (regA Tryz.prog WS6 R1 B1 8 a1_19 (z1_19 op7 nm8 ks9 p10 op12 nm13 ks14 p15 x19 y20) kont89)from by kernel_rfl).trans ?_
   first|(simp only[n1_16,n1_19,Go.Sc.meet_self];done)|simp only[n1_16,n1_19,Go.Sc.meet_self,t1_0,t1_1,t1_2,t1_3]
theorem n1_21:regA Tryz.prog WS6 R1 B1 9 a1_21 (z1_21 op7 nm8 ks9 p10 op12 nm13 ks14 p15 x19 y20) kont89=t1_3 op7 nm8 ks9 p10 op12 nm13 ks14 p15 x19 y20 kont89:=by
   refine(show _=meet (regA Tryz.prog WS6 R1 B1 8 a1_17 (z1_17 op7 nm8 ks9 p10 op12 nm13 ks14 p15 x19 y20) kont89) (regA Tryz.prog WS6 R1 B1 8 a1_19 (z1_19 op7 nm8 ks9 p10 op12 nm13 ks14 p15 x19 y20) kont89)from by kernel_rfl).trans ?_
   first|(simp only[n1_17,n1_19,Go.Sc.meet_self];done)|simp only[n1_17,n1_19,Go.Sc.meet_self,t1_0,t1_1,t1_2,t1_3]
theorem n1_22:regA Tryz.prog WS6 R1 B1 10 a1_22 (z1_22 op7 nm8 ks9 p10 op12 nm13 ks14 p15 x19 y20) kont89=t1_3 op7 nm8 ks9 p10 op12 nm13 ks14 p15 x19 y20 kont89:=by
   refine(show _=meet (regA Tryz.prog WS6 R1 B1 9 a1_18 (z1_18 op7 nm8 ks9 p10 op12 nm13 ks14 p15 x19 y20) kont89)
   (meet (regA Tryz.prog WS6 R1 B1 9 a1_20 (z1_20 op7 nm8 ks9 p10 op12 nm13 ks14 p15 x19 y20) kont89) (regA Tryz.prog WS6 R1 B1 9 a1_21 (z1_21 op7 nm8 ks9 p10 op12 nm13 ks14 p15 x19 y20) kont89))from by kernel_rfl).trans ?_
   first|(simp only[n1_18,n1_20,n1_21,Go.Sc.meet_self];done)|simp only[n1_18,n1_20,n1_21,Go.Sc.meet_self,t1_0,t1_1,t1_2,t1_3]
theorem n1_23:regA Tryz.prog WS6 R1 B1 11 a1_23 (z1_23 op7 nm8 ks9 p10 op12 nm13 ks14 p15 x19 y20) kont89=t1_3 op7 nm8 ks9 p10 op12 nm13 ks14 p15 x19 y20 kont89:=by
   refine(show _=regA Tryz.prog WS6 R1 B1 10 a1_22 (z1_22 op7 nm8 ks9 p10 op12 nm13 ks14 p15 x19 y20) kont89 from regA_quiet (z':=z1_22 op7 nm8 ks9 p10 op12 nm13 ks14 p15 x19 y20) (j:=12) (by kernel_rfl) (fun K=>by kernel_rfl) (by kernel_rfl) (by kernel_rfl)).trans ?_
   simp only[n1_22,t1_0,t1_1,t1_2,t1_3]
theorem n1_24:regA Tryz.prog WS6 R1 B1 12 a1_24 (z1_24 op7 nm8 ks9 p10 op12 nm13 ks14 p15 x19 y20) kont89=t1_3 op7 nm8 ks9 p10 op12 nm13 ks14 p15 x19 y20 kont89:=by
   refine(show _=regA Tryz.prog WS6 R1 B1 11 a1_23 (z1_23 op7 nm8 ks9 p10 op12 nm13 ks14 p15 x19 y20) kont89 from regA_quiet (z':=z1_23 op7 nm8 ks9 p10 op12 nm13 ks14 p15 x19 y20) (j:=11) (by kernel_rfl) (fun K=>by kernel_rfl) (by kernel_rfl) (by kernel_rfl)).trans ?_
   simp only[n1_23,t1_0,t1_1,t1_2,t1_3]
theorem n1_25:regA Tryz.prog WS6 R1 B1 13 a1_25 (z1_25 op7 nm8 ks9 p10 op12 nm13 ks14 p15 x19 y20) kont89=t1_3 op7 nm8 ks9 p10 op12 nm13 ks14 p15 x19 y20 kont89:=by
   refine(show _=regA Tryz.prog WS6 R1 B1 12 a1_24 (z1_24 op7 nm8 ks9 p10 op12 nm13 ks14 p15 x19 y20) kont89 from regA_quiet (z':=z1_24 op7 nm8 ks9 p10 op12 nm13 ks14 p15 x19 y20) (j:=9) (by kernel_rfl) (fun K=>by kernel_rfl) (by kernel_rfl) (by kernel_rfl)).trans ?_
   simp only[n1_24,t1_0,t1_1,t1_2,t1_3]
theorem n1_26:regA Tryz.prog WS6 R1 B1 14 a1_26 (z1_26 op7 nm8 ks9 p10 op12 nm13 ks14 p15 x19 y20) kont89=t1_3 op7 nm8 ks9 p10 op12 nm13 ks14 p15 x19 y20 kont89:=by
   refine(show _=regA Tryz.prog WS6 R1 B1 13 a1_25 (z1_25 op7 nm8 ks9 p10 op12 nm13 ks14 p15 x19 y20) kont89 from regA_quiet (z':=z1_25 op7 nm8 ks9 p10 op12 nm13 ks14 p15 x19 y20) (j:=8) (by kernel_rfl) (fun K=>by kernel_rfl) (by kernel_rfl) (by kernel_rfl)).trans ?_
   simp only[n1_25,t1_0,t1_1,t1_2,t1_3]
theorem n1_27:regA Tryz.prog WS6 R1 B1 15 [1,2,4] (z1_27 op7 nm8 ks9 p10 op12 nm13 ks14 p15 x19 y20) kont89=t1_3 op7 nm8 ks9 p10 op12 nm13 ks14 p15 x19 y20 kont89:=by
   refine(show _=regA Tryz.prog WS6 R1 B1 14 a1_26 (z1_26 op7 nm8 ks9 p10 op12 nm13 ks14 p15 x19 y20) kont89 from regA_quiet (z':=z1_26 op7 nm8 ks9 p10 op12 nm13 ks14 p15 x19 y20) (j:=5) (by kernel_rfl) (fun K=>by kernel_rfl) (by kernel_rfl) (by kernel_rfl)).trans ?_
   simp only[n1_26,t1_0,t1_1,t1_2,t1_3]
theorem n1_28:regA Tryz.prog WS6 R1 B1 16 [1,2] (z1_28 op7 nm8 ks9 p10 op12 nm13 ks14 p15 x19 y20) kont89=t1_3 op7 nm8 ks9 p10 op12 nm13 ks14 p15 x19 y20 kont89:=by
   refine(show _=regA Tryz.prog WS6 R1 B1 15 [1,2,4] (z1_27 op7 nm8 ks9 p10 op12 nm13 ks14 p15 x19 y20) kont89 from regA_quiet (z':=z1_27 op7 nm8 ks9 p10 op12 nm13 ks14 p15 x19 y20) (j:=4) (by kernel_rfl) (fun K=>by kernel_rfl) (by kernel_rfl) (by kernel_rfl)).trans ?_
   simp only[n1_27,t1_0,t1_1,t1_2,t1_3]
theorem n1_29:regA Tryz.prog WS6 R1 B1 17 [1] (z1_29 op7 nm8 ks9 p10 op12 nm13 ks14 p15 x19 y20) kont89=t1_3 op7 nm8 ks9 p10 op12 nm13 ks14 p15 x19 y20 kont89:=by
   refine(show _=regA Tryz.prog WS6 R1 B1 16 [1,2] (z1_28 op7 nm8 ks9 p10 op12 nm13 ks14 p15 x19 y20) kont89 from regA_quiet (z':=z1_28 op7 nm8 ks9 p10 op12 nm13 ks14 p15 x19 y20) (j:=2) (by kernel_rfl) (fun K=>by kernel_rfl) (by kernel_rfl) (by kernel_rfl)).trans ?_
   simp only[n1_28,t1_0,t1_1,t1_2,t1_3]
theorem n1_30:regA Tryz.prog WS6 R1 B1 18 [] (z1_30 op7 nm8 ks9 p10 op12 nm13 ks14 p15 x19 y20) kont89=t1_3 op7 nm8 ks9 p10 op12 nm13 ks14 p15 x19 y20 kont89:=by
   refine(show _=regA Tryz.prog WS6 R1 B1 17 [1] (z1_29 op7 nm8 ks9 p10 op12 nm13 ks14 p15 x19 y20) kont89 from regA_quiet (z':=z1_29 op7 nm8 ks9 p10 op12 nm13 ks14 p15 x19 y20) (j:=1) (by kernel_rfl) (fun K=>by kernel_rfl) (by kernel_rfl) (by kernel_rfl)).trans ?_
   simp only[n1_29,t1_0,t1_1,t1_2,t1_3]
end
theorem reg1 {β:Type} (op7:ByteArray) (nm8:ByteArray) (ks9:List D) (p10:Int) (op12:ByteArray) (nm13:ByteArray) (ks14:List D) (p15:Int) (x19:List D) (y20:List D) (kont89:S→Option β):regH Tryz.prog WS6 R1 (z1_30 op7 nm8 ks9 p10 op12 nm13 ks14 p15 x19 y20) kont89=if 0+x19.length≤34359738368 then if x19.length+List.length (loopOf y20)≤34359738368 then if 0+List.length (loopOf y20)≤34359738368 then if List.length (loopOf y20)+List.length (loopOf y20)≤34359738368 then kont89 (z1_0 op7 nm8 ks9 p10 op12 nm13 ks14 p15 x19 y20)else none else none else none else none:=(show _=regA Tryz.prog WS6 R1 B1 18 [] (z1_30 op7 nm8 ks9 p10 op12 nm13 ks14 p15 x19 y20) kont89 from by kernel_rfl).trans (n1_30 ..)
theorem start {β:Type} (s:ByteArray) (t:ByteArray) (a:List D) (b:List D) (k:List TV→List TV→Option β):evalF Tryz.prog WS6 Tryz.f6 [.d true 0 (D.str s),.d true 0 (D.str t),.d true 0 (D.sl 0 a),.d true 0 (D.sl 0 b)] k=if decide (IntKind.wrap .i64 ((↑(ByteArray.size s):Int)+(↑(ByteArray.size t):Int))>200)=true then k [.d false 0 (D.bool true)] []else match parseP s (64:Int)with
   |PA.ok op358 nm359 ks360 p361=>match parseP t (64:Int)with
    |PA.ok op363 nm364 ks365 p366=>match lettS (List.take 8 a),lettS (List.take 8 b)with
     |some x370,some y371=>regH Tryz.prog WS6 R0 (z0_13 a b op358 nm359 ks360 p361 op363 nm364 ks365 p366 x370 y371) fun s373 ↦ J0 s t a b k s373
     |x,x_1=>none
    |PA.no n374=>k [.d false 0 (D.bool true)] []
    |PA.er p378 n379=>k [.d false 0 (D.bool true)] []
    |PA.bad=>none
   |PA.no n383=>match parseP t (64:Int)with
    |PA.ok op385 nm386 ks387 p388=>k [.d false 0 (D.bool true)] []
    |PA.no n392=>k [.d false 0 (D.bool true)] []
    |PA.er p396 n397=>k [.d false 0 (D.bool true)] []
    |PA.bad=>none
   |PA.er p401 n402=>match parseP t (64:Int)with
    |PA.ok op404 nm405 ks406 p407=>k [.d false 0 (D.bool true)] []
    |PA.no n411=>k [.d false 0 (D.bool true)] []
    |PA.er p415 n416=>k [.d false 0 (D.bool true)] []
    |PA.bad=>none
   |PA.bad=>none:=by kernel_rfl
theorem round0 (op7:ByteArray) (nm8:ByteArray) (ks9:List D) (p10:Int) (op12:ByteArray) (nm13:ByteArray) (ks14:List D) (p15:Int) (x19:List D) (y20:List D) (x228:Int):roundK X [(0,408064)] (sub [1,1,1,1,1,1,1,1,1,1,1,0,1,0,0] (body Tryz.f6)) (s0 op7 nm8 ks9 p10 op12 nm13 ks14 p15 x19 y20 x228)=if decide (x228<40)=true then match letrB x19 (loopOf y20) x228 with
   |some (m423,b424)=>if x228≤9223372036854775807∧x19.length+List.length (loopOf y20)≤34359738368 then match letrB (x19++loopOf y20) (loopOf y20++loopOf y20) x228 with
    |some (m426,b427)=>if x228≤9223372036854775807∧List.length (x19++loopOf y20)+List.length (loopOf y20++loopOf y20)≤34359738368 then if(!m423==m426)=true then some (Sum.inr (Ex.ret,e0r))else if(!b424)=true then some (Sum.inr (Ex.ret,e0r))else if(!b427)=true then some (Sum.inr (Ex.ret,e0r))else some (Sum.inl (s0 op7 nm8 ks9 p10 op12 nm13 ks14 p15 x19 y20 (IntKind.wrap .i64 (x228+1))))else none
    |none=>none else none
   |none=>none else some (Sum.inr (Ex.exit 0,e0x0 op7 nm8 ks9 p10 op12 nm13 ks14 p15 x19 y20)):=by kernel_rfl
theorem behind0x0 {β:Type} (s:ByteArray) (t:ByteArray) (a:List D) (b:List D) (op7:ByteArray) (nm8:ByteArray) (ks9:List D) (p10:Int) (op12:ByteArray) (nm13:ByteArray) (ks14:List D) (p15:Int) (x19:List D) (y20:List D) (k:List TV→List TV→Option β) (s__:S) (h__:Lp L0 s__=some (Ex.exit 0,e0x0 op7 nm8 ks9 p10 op12 nm13 ks14 p15 x19 y20)):G0 s t a b k s__=if isFm (D.ag [D.str op7,D.str nm8,D.sl 5 ks9,D.int .i64 p10])=true then if isFm (D.ag [D.str op12,D.str nm13,D.sl 5 ks14,D.int .i64 p15])=true then if hOk Tryz.prog (D.ag [D.str (ByteArray.mk #[85]),D.str (ByteArray.mk #[]),D.sl 5 [D.ag [D.str op7,D.str nm8,D.sl 5 ks9,D.int .i64 p10],D.ag [D.str op12,D.str nm13,D.sl 5 ks14,D.int .i64 p15]],D.int .i64 0]) [D.str (ByteArray.mk #[97]),D.str (ByteArray.mk #[98]),D.str (ByteArray.mk #[103,111,97,108])] x19 (loopOf y20)then if isFm (D.ag [D.str op7,D.str nm8,D.sl 5 ks9,D.int .i64 p10])=true then if isFm (D.ag [D.str op12,D.str nm13,D.sl 5 ks14,D.int .i64 p15])=true then if hOk Tryz.prog (D.ag [D.str (ByteArray.mk #[87]),D.str (ByteArray.mk #[]),D.sl 5 [D.ag [D.str op7,D.str nm8,D.sl 5 ks9,D.int .i64 p10],D.ag [D.str op12,D.str nm13,D.sl 5 ks14,D.int .i64 p15]],D.int .i64 0]) [D.str (ByteArray.mk #[97]),D.str (ByteArray.mk #[98]),D.str (ByteArray.mk #[103,111,97,108])] x19 (loopOf y20)then if isFm (D.ag [D.str op7,D.str nm8,D.sl 5 ks9,D.int .i64 p10])=true then if isFm (D.ag [D.str op12,D.str nm13,D.sl 5 ks14,D.int .i64 p15])=true then if isFm (D.ag [D.str (ByteArray.mk #[33]),D.str (ByteArray.mk #[]),D.sl 5 [D.ag [D.str op7,D.str nm8,D.sl 5 ks9,D.int .i64 p10]],D.int .i64 0])=true then if isFm (D.ag [D.str (ByteArray.mk #[33]),D.str (ByteArray.mk #[]),D.sl 5 [D.ag [D.str op12,D.str nm13,D.sl 5 ks14,D.int .i64 p15]],D.int .i64 0])=true then if hOk Tryz.prog (D.ag [D.str (ByteArray.mk #[82]),D.str (ByteArray.mk #[]),D.sl 5 [D.ag [D.str (ByteArray.mk #[33]),D.str (ByteArray.mk #[]),D.sl 5 [D.ag [D.str op7,D.str nm8,D.sl 5 ks9,D.int .i64 p10]],D.int .i64 0],D.ag [D.str (ByteArray.mk #[33]),D.str (ByteArray.mk #[]),D.sl 5 [D.ag [D.str op12,D.str nm13,D.sl 5 ks14,D.int .i64 p15]],D.int .i64 0]],D.int .i64 0]) [D.str (ByteArray.mk #[97]),D.str (ByteArray.mk #[98]),D.str (ByteArray.mk #[103,111,97,108])] x19 (loopOf y20)then if isFm (D.ag [D.str op12,D.str nm13,D.sl 5 ks14,D.int .i64 p15])=true then if hOk Tryz.prog (D.ag [D.str (ByteArray.mk #[70]),D.str (ByteArray.mk #[]),D.sl 5 [D.ag [D.str op12,D.str nm13,D.sl 5 ks14,D.int .i64 p15]],D.int .i64 0]) [D.str (ByteArray.mk #[97]),D.str (ByteArray.mk #[98]),D.str (ByteArray.mk #[103,111,97,108])] x19 (loopOf y20)then if isFm (D.ag [D.str op7,D.str nm8,D.sl 5 ks9,D.int .i64 p10])=true then if hOk Tryz.prog (D.ag [D.str (ByteArray.mk #[71]),D.str (ByteArray.mk #[]),D.sl 5 [D.ag [D.str op7,D.str nm8,D.sl 5 ks9,D.int .i64 p10]],D.int .i64 0]) [D.str (ByteArray.mk #[97]),D.str (ByteArray.mk #[98]),D.str (ByteArray.mk #[103,111,97,108])] x19 (loopOf y20)then if isFm (D.ag [D.str op7,D.str nm8,D.sl 5 ks9,D.int .i64 p10])=true then if isFm (D.ag [D.str op12,D.str nm13,D.sl 5 ks14,D.int .i64 p15])=true then if hOk Tryz.prog (D.ag [D.str (ByteArray.mk #[85]),D.str (ByteArray.mk #[]),D.sl 5 [D.ag [D.str op7,D.str nm8,D.sl 5 ks9,D.int .i64 p10],D.ag [D.str op12,D.str nm13,D.sl 5 ks14,D.int .i64 p15]],D.int .i64 0]) [D.str (ByteArray.mk #[97]),D.str (ByteArray.mk #[98]),D.str (ByteArray.mk #[103,111,97,108])] (x19++loopOf y20) (loopOf y20++loopOf y20)then if ifcB (hE Tryz.prog (D.ag [D.str (ByteArray.mk #[71]),D.str (ByteArray.mk #[]),D.sl 5 [D.ag [D.str op7,D.str nm8,D.sl 5 ks9,D.int .i64 p10]],D.int .i64 0]) [D.str (ByteArray.mk #[97]),D.str (ByteArray.mk #[98]),D.str (ByteArray.mk #[103,111,97,108])] x19 (loopOf y20))=true then if(!isNil (hE Tryz.prog (D.ag [D.str (ByteArray.mk #[71]),D.str (ByteArray.mk #[]),D.sl 5 [D.ag [D.str op7,D.str nm8,D.sl 5 ks9,D.int .i64 p10]],D.int .i64 0]) [D.str (ByteArray.mk #[97]),D.str (ByteArray.mk #[98]),D.str (ByteArray.mk #[103,111,97,108])] x19 (loopOf y20)))=true then k [.d false 0 (D.bool true)] []else if ifcB (hE Tryz.prog (D.ag [D.str op7,D.str nm8,D.sl 5 ks9,D.int .i64 p10]) [D.str (ByteArray.mk #[97]),D.str (ByteArray.mk #[98]),D.str (ByteArray.mk #[103,111,97,108])] (shStem x19) (shLoop x19 (loopOf y20)))=true then if(!isNil (hE Tryz.prog (D.ag [D.str op7,D.str nm8,D.sl 5 ks9,D.int .i64 p10]) [D.str (ByteArray.mk #[97]),D.str (ByteArray.mk #[98]),D.str (ByteArray.mk #[103,111,97,108])] (shStem x19) (shLoop x19 (loopOf y20))))=true then k [.d false 0 (D.bool true)] []else if(!hB Tryz.prog (D.ag [D.str (ByteArray.mk #[85]),D.str (ByteArray.mk #[]),D.sl 5 [D.ag [D.str op7,D.str nm8,D.sl 5 ks9,D.int .i64 p10],D.ag [D.str op12,D.str nm13,D.sl 5 ks14,D.int .i64 p15]],D.int .i64 0]) [D.str (ByteArray.mk #[97]),D.str (ByteArray.mk #[98]),D.str (ByteArray.mk #[103,111,97,108])] x19 (loopOf y20)==hB Tryz.prog (D.ag [D.str (ByteArray.mk #[82]),D.str (ByteArray.mk #[]),D.sl 5 [D.ag [D.str (ByteArray.mk #[33]),D.str (ByteArray.mk #[]),D.sl 5 [D.ag [D.str op7,D.str nm8,D.sl 5 ks9,D.int .i64 p10]],D.int .i64 0],D.ag [D.str (ByteArray.mk #[33]),D.str (ByteArray.mk #[]),D.sl 5 [D.ag [D.str op12,D.str nm13,D.sl 5 ks14,D.int .i64 p15]],D.int .i64 0]],D.int .i64 0]) [D.str (ByteArray.mk #[97]),D.str (ByteArray.mk #[98]),D.str (ByteArray.mk #[103,111,97,108])] x19 (loopOf y20))=true then if(hB Tryz.prog (D.ag [D.str (ByteArray.mk #[85]),D.str (ByteArray.mk #[]),D.sl 5 [D.ag [D.str op7,D.str nm8,D.sl 5 ks9,D.int .i64 p10],D.ag [D.str op12,D.str nm13,D.sl 5 ks14,D.int .i64 p15]],D.int .i64 0]) [D.str (ByteArray.mk #[97]),D.str (ByteArray.mk #[98]),D.str (ByteArray.mk #[103,111,97,108])] (x19++loopOf y20) (loopOf y20++loopOf y20)==hB Tryz.prog (D.ag [D.str (ByteArray.mk #[85]),D.str (ByteArray.mk #[]),D.sl 5 [D.ag [D.str op7,D.str nm8,D.sl 5 ks9,D.int .i64 p10],D.ag [D.str op12,D.str nm13,D.sl 5 ks14,D.int .i64 p15]],D.int .i64 0]) [D.str (ByteArray.mk #[97]),D.str (ByteArray.mk #[98]),D.str (ByteArray.mk #[103,111,97,108])] x19 (loopOf y20))=true then if hB Tryz.prog (D.ag [D.str (ByteArray.mk #[85]),D.str (ByteArray.mk #[]),D.sl 5 [D.ag [D.str op7,D.str nm8,D.sl 5 ks9,D.int .i64 p10],D.ag [D.str op12,D.str nm13,D.sl 5 ks14,D.int .i64 p15]],D.int .i64 0]) [D.str (ByteArray.mk #[97]),D.str (ByteArray.mk #[98]),D.str (ByteArray.mk #[103,111,97,108])] x19 (loopOf y20)=true then if(hB Tryz.prog (D.ag [D.str (ByteArray.mk #[87]),D.str (ByteArray.mk #[]),D.sl 5 [D.ag [D.str op7,D.str nm8,D.sl 5 ks9,D.int .i64 p10],D.ag [D.str op12,D.str nm13,D.sl 5 ks14,D.int .i64 p15]],D.int .i64 0]) [D.str (ByteArray.mk #[97]),D.str (ByteArray.mk #[98]),D.str (ByteArray.mk #[103,111,97,108])] x19 (loopOf y20)==true)=true then if(!hB Tryz.prog (D.ag [D.str (ByteArray.mk #[85]),D.str (ByteArray.mk #[]),D.sl 5 [D.ag [D.str op7,D.str nm8,D.sl 5 ks9,D.int .i64 p10],D.ag [D.str op12,D.str nm13,D.sl 5 ks14,D.int .i64 p15]],D.int .i64 0]) [D.str (ByteArray.mk #[97]),D.str (ByteArray.mk #[98]),D.str (ByteArray.mk #[103,111,97,108])] x19 (loopOf y20))=true then k [.d false 0 (D.bool true)] []else if hB Tryz.prog (D.ag [D.str (ByteArray.mk #[70]),D.str (ByteArray.mk #[]),D.sl 5 [D.ag [D.str op12,D.str nm13,D.sl 5 ks14,D.int .i64 p15]],D.int .i64 0]) [D.str (ByteArray.mk #[97]),D.str (ByteArray.mk #[98]),D.str (ByteArray.mk #[103,111,97,108])] x19 (loopOf y20)=true then k [.d false 0 (D.bool true)] []else match otherX Tryz.prog (D.ag [D.str op12,D.str nm13,D.sl 5 ks14,D.int .i64 p15])with
   |some b449=>k [.d false 0 (D.bool b449)] []
   |none=>none else match otherX Tryz.prog (D.ag [D.str op12,D.str nm13,D.sl 5 ks14,D.int .i64 p15])with
   |some b450=>k [.d false 0 (D.bool b450)] []
   |none=>none else if(hB Tryz.prog (D.ag [D.str (ByteArray.mk #[87]),D.str (ByteArray.mk #[]),D.sl 5 [D.ag [D.str op7,D.str nm8,D.sl 5 ks9,D.int .i64 p10],D.ag [D.str op12,D.str nm13,D.sl 5 ks14,D.int .i64 p15]],D.int .i64 0]) [D.str (ByteArray.mk #[97]),D.str (ByteArray.mk #[98]),D.str (ByteArray.mk #[103,111,97,108])] x19 (loopOf y20)==hB Tryz.prog (D.ag [D.str (ByteArray.mk #[71]),D.str (ByteArray.mk #[]),D.sl 5 [D.ag [D.str op7,D.str nm8,D.sl 5 ks9,D.int .i64 p10]],D.int .i64 0]) [D.str (ByteArray.mk #[97]),D.str (ByteArray.mk #[98]),D.str (ByteArray.mk #[103,111,97,108])] x19 (loopOf y20))=true then if(!hB Tryz.prog (D.ag [D.str (ByteArray.mk #[85]),D.str (ByteArray.mk #[]),D.sl 5 [D.ag [D.str op7,D.str nm8,D.sl 5 ks9,D.int .i64 p10],D.ag [D.str op12,D.str nm13,D.sl 5 ks14,D.int .i64 p15]],D.int .i64 0]) [D.str (ByteArray.mk #[97]),D.str (ByteArray.mk #[98]),D.str (ByteArray.mk #[103,111,97,108])] x19 (loopOf y20))=true then k [.d false 0 (D.bool true)] []else if hB Tryz.prog (D.ag [D.str (ByteArray.mk #[70]),D.str (ByteArray.mk #[]),D.sl 5 [D.ag [D.str op12,D.str nm13,D.sl 5 ks14,D.int .i64 p15]],D.int .i64 0]) [D.str (ByteArray.mk #[97]),D.str (ByteArray.mk #[98]),D.str (ByteArray.mk #[103,111,97,108])] x19 (loopOf y20)=true then k [.d false 0 (D.bool true)] []else match otherX Tryz.prog (D.ag [D.str op12,D.str nm13,D.sl 5 ks14,D.int .i64 p15])with
    |some b451=>k [.d false 0 (D.bool b451)] []
    |none=>none else match otherX Tryz.prog (D.ag [D.str op12,D.str nm13,D.sl 5 ks14,D.int .i64 p15])with
   |some b452=>k [.d false 0 (D.bool b452)] []
   |none=>none else match otherX Tryz.prog (D.ag [D.str op12,D.str nm13,D.sl 5 ks14,D.int .i64 p15])with
   |some b453=>k [.d false 0 (D.bool b453)] []
   |none=>none else match otherX Tryz.prog (D.ag [D.str op12,D.str nm13,D.sl 5 ks14,D.int .i64 p15])with
   |some b454=>k [.d false 0 (D.bool b454)] []
   |none=>none else none else none else none else none else none else none else none else none else none else none else none else none else none else none else none else none else none else none else none else none:=(goLp_of h__).trans (by kernel_rfl)
theorem j0_eq {β:Type} (s:ByteArray) (t:ByteArray) (a:List D) (b:List D) (op7:ByteArray) (nm8:ByteArray) (ks9:List D) (p10:Int) (op12:ByteArray) (nm13:ByteArray) (ks14:List D) (p15:Int) (x19:List D) (y20:List D) (k:List TV→List TV→Option β):J0 s t a b k (j0 a b op7 nm8 ks9 p10 op12 nm13 ks14 p15 x19 y20)=if intsB x19=true∧intsB (loopOf y20)=true∧x19.length+List.length (loopOf y20)≤34359738368 then if hOk Tryz.prog (D.ag [D.str op7,D.str nm8,D.sl 5 ks9,D.int .i64 p10]) [D.str (ByteArray.mk #[97]),D.str (ByteArray.mk #[98]),D.str (ByteArray.mk #[103,111,97,108])] (shStem x19) (shLoop x19 (loopOf y20))then if ifcB (hE Tryz.prog (D.ag [D.str (ByteArray.mk #[88]),D.str (ByteArray.mk #[]),D.sl 5 [D.ag [D.str op7,D.str nm8,D.sl 5 ks9,D.int .i64 p10]],D.int .i64 0]) [D.str (ByteArray.mk #[97]),D.str (ByteArray.mk #[98]),D.str (ByteArray.mk #[103,111,97,108])] x19 (loopOf y20))=true then if ifcB (hE Tryz.prog (D.ag [D.str op7,D.str nm8,D.sl 5 ks9,D.int .i64 p10]) [D.str (ByteArray.mk #[97]),D.str (ByteArray.mk #[98]),D.str (ByteArray.mk #[103,111,97,108])] (shStem x19) (shLoop x19 (loopOf y20)))=true then if(!isNil (hE Tryz.prog (D.ag [D.str (ByteArray.mk #[88]),D.str (ByteArray.mk #[]),D.sl 5 [D.ag [D.str op7,D.str nm8,D.sl 5 ks9,D.int .i64 p10]],D.int .i64 0]) [D.str (ByteArray.mk #[97]),D.str (ByteArray.mk #[98]),D.str (ByteArray.mk #[103,111,97,108])] x19 (loopOf y20))==isNil (hE Tryz.prog (D.ag [D.str op7,D.str nm8,D.sl 5 ks9,D.int .i64 p10]) [D.str (ByteArray.mk #[97]),D.str (ByteArray.mk #[98]),D.str (ByteArray.mk #[103,111,97,108])] (shStem x19) (shLoop x19 (loopOf y20))))=true then k [.d false 0 (D.bool false)] []else if(!hB Tryz.prog (D.ag [D.str (ByteArray.mk #[88]),D.str (ByteArray.mk #[]),D.sl 5 [D.ag [D.str op7,D.str nm8,D.sl 5 ks9,D.int .i64 p10]],D.int .i64 0]) [D.str (ByteArray.mk #[97]),D.str (ByteArray.mk #[98]),D.str (ByteArray.mk #[103,111,97,108])] x19 (loopOf y20)==hB Tryz.prog (D.ag [D.str op7,D.str nm8,D.sl 5 ks9,D.int .i64 p10]) [D.str (ByteArray.mk #[97]),D.str (ByteArray.mk #[98]),D.str (ByteArray.mk #[103,111,97,108])] (shStem x19) (shLoop x19 (loopOf y20)))=true then k [.d false 0 (D.bool false)] []else regH Tryz.prog WS6 R1 (z1_30 op7 nm8 ks9 p10 op12 nm13 ks14 p15 x19 y20) fun s462 ↦ J1 s t a b k s462 else none else none else none else none:=by kernel_rfl
theorem j1_eq {β:Type} (s:ByteArray) (t:ByteArray) (a:List D) (b:List D) (op7:ByteArray) (nm8:ByteArray) (ks9:List D) (p10:Int) (op12:ByteArray) (nm13:ByteArray) (ks14:List D) (p15:Int) (x19:List D) (y20:List D) (k:List TV→List TV→Option β):J1 s t a b k (j1 op7 nm8 ks9 p10 op12 nm13 ks14 p15 x19 y20)=G0 s t a b k (s0 op7 nm8 ks9 p10 op12 nm13 ks14 p15 x19 y20 (0:Int)):=by kernel_rfl
end Q6H
end Go.Sd
namespace Go.Sd
open Go Go.Cm Go.Proofs Go.Sc
set_option maxRecDepth 100000
namespace V27
noncomputable def X:Fx:=⟨Tryz.prog,WS,16,2⟩
end V27
namespace V28
noncomputable def X:Fx:=⟨Tryz.prog,WS,16,2⟩
def s0 (xs:List D) (ys:List D) (x27:Int):S:=⟨Tm.mk 26 [(0,.d true 0 (D.sl 0 xs)),(1,.d true 0 (D.sl 0 ys)),(5,.d false 0 (D.int .i64 x27))],[]⟩
def e0r:S:=⟨Tm.mk 26 [(4,.d false 0 (D.bool false))],[]⟩
def e0x0:S:=⟨Tm.mk 26 [],[]⟩
noncomputable abbrev L0:S→Option (S ⊕ (Ex×S)):=roundK X [(0,0)] (sub [1,1,0,1,0,0] (body Tryz.f28))
end V28
end Go.Sd
set_option maxRecDepth 100000
namespace Go.Sc
open Go Go.Cm
def eqI (xs ys:List D):Prop:=xs=ys∧intsB xs=true∧xs.length≤big
noncomputable instance (xs ys:List D):Decidable (eqI xs ys):=Classical.propDecidable _
end Go.Sc
namespace Go.Sd
open Go Go.Cm Go.Proofs Go.Sc
end Go.Sd
namespace Go.Sc
open Go Go.Cm Go.Proofs
theorem LW.ints:∀{l:List D},LW l→intsB l=true
 |[],_=>rfl
 |x::r,h=>by
  obtain⟨v,e,_⟩:=h x (.head _)
  have:=LW.ints h.tl
  subst e
  exact this
theorem strm_shift {st lp:List D} (hl:lp≠[]):strm (shStem st) (shLoop st lp)=fun k=>strm st lp (k+1):=by
 funext k
 cases st with
 |cons x st=>
  unfold strm shStem shLoop
  simp only[List.drop_succ_cons,List.drop_zero,List.length_cons,List.cons_append,posN]
  have hp:0<lp.length:=List.length_pos_iff.2 hl
  have h:=pos_bisim (n:=st.length+1+lp.length) (bk:=st.length+1) (n':=st.length+lp.length) (bk':=st.length)
   (R:=fun p p'=>nxN (st.length+1+lp.length) (st.length+1) p=p'+1∧p'<st.length+lp.length) (by unfold nxN;rw[if_pos (by omega)];exact⟨rfl,by omega⟩) (fun p p' h=>by
    obtain⟨h1,h2⟩:=h
    rw[h1]
    unfold nxN
    by_cases h:p'+1<st.length+lp.length
    ·rw[if_pos (by omega),if_pos h];exact⟨rfl,h⟩
    ·rw[if_neg (by omega),if_neg h];exact⟨rfl,by omega⟩) k
  rw[h.1,aD_tl]
 |nil=>
  cases lp with
  |nil=>exact(hl rfl).elim
  |cons x lp=>
   unfold strm shStem shLoop
   simp only[List.drop_nil,List.drop_succ_cons,List.drop_zero,List.take_succ_cons,List.take_zero,List.length_nil,Nat.zero_add,List.nil_append,List.length_append,List.length_cons,posN]
   have h:=pos_bisim (n:=lp.length+1) (bk:=0) (n':=lp.length+1) (bk':=0)
    (R:=fun p p'=>nxN (lp.length+1) 0 p=(if p'<lp.length then p'+1 else 0)∧p'≤lp.length) (by unfold nxN;exact⟨by simp,by omega⟩) (fun p p' h=>by
     obtain⟨h1,h2⟩:=h
     rw[h1]
     unfold nxN
     by_cases h:p'<lp.length
     ·rw[if_pos h,if_pos (show p'+1<lp.length+1 by omega)]
      refine⟨?_,by omega⟩
      by_cases h3:p'+1<lp.length
      ·rw[if_pos (by omega),if_pos h3]
      ·rw[if_neg (by omega),if_neg h3]
     ·rw[if_neg h,if_neg (show ¬(p'+1<lp.length+1)by omega)]
      refine⟨?_,by omega⟩
      by_cases h3:0<lp.length
      ·rw[if_pos (by omega),if_pos h3]
      ·rw[if_neg (by omega),if_neg h3]) k
   rw[h.1]
   by_cases h3:posN (lp.length+1) 0 k<lp.length
   ·rw[if_pos h3,aD_app_l h3,aD_tl]
   ·rw[if_neg h3,show posN (lp.length+1) 0 k=lp.length by omega,aD_app_r (Nat.le_refl _)]
    simp[aD]
theorem shift_lw {st lp:List D} (h1:LW st) (h2:LW lp) (h3:lp≠[]):LW (shStem st)∧LW (shLoop st lp)∧shLoop st lp≠[]∧(shStem st).length+(shLoop st lp).length≤st.length+lp.length:=by
 cases st with
 |cons x st=>exact⟨h1.tl,h2,h3,by simp[shStem,shLoop]⟩
 |nil=>
  refine⟨fun d hd=>by simp[shStem]at hd,(h2.dropN 1).app (h2.takeN 1),?_,?_⟩
  ·cases lp with
   |nil=>exact(h3 rfl).elim
   |cons x lp=>simp[shLoop]
  ·simp[shStem,shLoop];omega
theorem Wo.shift {st lp:List D} (w:Wo st lp):Wo (shStem st) (shLoop st lp):=by
 obtain⟨h1,h2,h3,h4⟩:=shift_lw w.hs w.hl w.ne
 exact⟨h1,h2,h3,by have:=w.len;omega⟩
end Go.Sc
namespace Go.Sc
open Go Go.Cm Go.Proofs
theorem ints_at:∀{l:List D},intsB l=true→∀i,i<l.length→∃v,l[i]? =some (.int .i64 v)
 |x::r,h,i,hi=>by
  unfold intsB at h
  split at h
  ·rename_i v
   cases i with
   |zero=>exact⟨v,rfl⟩
   |succ i=>rw[List.getElem?_cons_succ];exact ints_at h i (by simpa using hi)
  ·cases h
theorem iAt_some {l:List D} (h:intsB l=true) {i:Nat} (hi:i<l.length):iAt l (i:Int)=some (aD l i):=by
 obtain⟨v,e⟩:=ints_at h i hi
 unfold iAt aD
 rw[if_pos (by omega),Int.toNat_natCast,e]
theorem letrB_nat {st lp:List D} (h1:intsB st=true) (h2:intsB lp=true) (k:Nat) (h:k<st.length∨lp≠[]):
  letrB st lp (k:Int)=some (if k<st.length then aD st k else aD lp ((k - st.length) % lp.length),true):=by
 unfold letrB
 rw[if_neg (by omega)]
 by_cases hk:k<st.length
 ·rw[if_pos (by omega),if_pos hk,iAt_some h1 hk];rfl
 ·have hl:=h.resolve_left hk
  have hp:0<lp.length:=List.length_pos_iff.2 hl
  rw[if_neg (by omega),if_neg hk,if_neg (by omega)]
  have e:Int.tmod ((k:Int) - st.length) lp.length=(((k - st.length) % lp.length:Nat):Int):=by
   rw[show(k:Int) - (st.length:Int)=((k - st.length:Nat):Int)by omega]
   exact Int.ofNat_tmod _ _ |>.symm
  rw[e,iAt_some h2 (Nat.mod_lt _ hp)];rfl
end Go.Sc
namespace Go.Sc
open Go Go.Cm Go.Proofs
section
variable (a b:Pr) (L:Nat→Int) (k:Nat)
theorem HB_X:HB (.un .X a) L k=HB a L (k+1):=by rw[Bool.eq_iff_iff,HB_iff,HB_iff];exact Iff.rfl
end
end Go.Sc
namespace Go.Sc
open Go Go.Cm Go.Proofs
theorem strm_drawn (st:List D):∀(n:Nat) (a b:List D),a.length=n→strm (st++a) (b++a)=strm st (a++b)
 |0,a,b,h=>by rw[List.length_eq_zero_iff.1 h];simp
 |n+1,a,b,h=>by
  obtain⟨a',x,rfl⟩:∃a' x,a=a'++[x]:=⟨a.dropLast,a.getLast (by intro e;rw[e]at h;cases h),(List.dropLast_concat_getLast _).symm⟩
  have h':a'.length=n:=by simpa using h
  rw[←List.append_assoc, ←List.append_assoc,strm_draw,show x::(b++a')=(x::b)++a' from rfl,strm_drawn st n a' (x::b) h',List.append_assoc]
  rfl
theorem strm_long {st lp:List D} (hl:lp≠[]):strm (st++lp) (lp++lp)=strm st lp:=by
 rw[strm_twice _ _ (List.length_pos_iff.2 hl)]
 have:=strm_drawn st _ lp [] rfl
 simpa using this
theorem Wo.long {st lp:List D} (w:Wo st lp) (h:st.length+lp.length+(lp.length+lp.length)≤64):Wo (st++lp) (lp++lp):=by
 refine⟨w.hs.app w.hl,w.hl.app w.hl,fun e=>w.ne (List.append_eq_nil_iff.1 e).1,by simp only[List.length_append];omega⟩
theorem letr_long {st lp:List D} (h1:intsB st=true) (h2:intsB lp=true) (h1':intsB (st++lp)=true) (h2':intsB (lp++lp)=true) (hl:lp≠[]) (k:Nat):
  ∃m,letrB st lp (k:Int)=some (m,true)∧letrB (st++lp) (lp++lp) (k:Int)=some (m,true):=by
 have hp:0<lp.length:=List.length_pos_iff.2 hl
 refine⟨_,letrB_nat h1 h2 k (.inr hl),?_⟩
 rw[letrB_nat h1' h2' k (.inr fun e=>hl (List.append_eq_nil_iff.1 e).1)]
 simp only[List.length_append,Option.some.injEq,Prod.mk.injEq,and_true]
 by_cases c1:k<st.length
 ·rw[if_pos (by omega),if_pos c1,aD_app_l c1]
 ·rw[if_neg c1]
  by_cases c2:k<st.length+lp.length
  ·rw[if_pos c2,aD_app_r (by omega),Nat.mod_eq_of_lt (by omega)]
  ·rw[if_neg c2]
   have e:(k - st.length) % lp.length=(k - (st.length+lp.length)) % (lp.length+lp.length) % lp.length:=by
    rw[Nat.mod_mod_of_dvd _ ⟨2,by omega⟩,show k - st.length=k - (st.length+lp.length)+lp.length by omega,Nat.add_mod_right]
   rw[e]
   have hm:(k - (st.length+lp.length)) % (lp.length+lp.length)<lp.length+lp.length:=Nat.mod_lt _ (by omega)
   generalize (k - (st.length+lp.length)) % (lp.length+lp.length)=m at hm
   by_cases c3:m<lp.length
   ·rw[aD_app_l c3,Nat.mod_eq_of_lt c3]
   ·rw[aD_app_r (by omega),show m=m - lp.length+lp.length by omega,Nat.add_mod_right,Nat.mod_eq_of_lt (by omega)]
    congr 1;omega
structure Fb (x:D) (t:Pr):Prop where
 fm:∃f,ofD x=some f∧f.abs=some t
theorem Fb.two {x y:D} {t u:Pr} {ob nm:ByteArray} {p:Int} (h:Fb x t) (k:Fb y u) (o:B2) (ho:ob.toList=o.s):Fb (.ag [.str ob,.str nm,.sl 5 [x,y],.int .i64 p]) (.bi o t u):=by
 obtain⟨f,h1,h2⟩:=h.fm
 obtain⟨g,k1,k2⟩:=k.fm
 exact⟨fm_two o ho h1 h2 k1 k2⟩
theorem Fb.one {x:D} {t:Pr} {ob nm:ByteArray} {p:Int} (h:Fb x t) (o:U1) (ho:ob.toList=o.s):Fb (.ag [.str ob,.str nm,.sl 5 [x],.int .i64 p]) (.un o t):=by
 obtain⟨f,h1,h2⟩:=h.fm
 exact⟨fm_one o ho h1 h2⟩
theorem Fb.is {x:D} {t:Pr} (h:Fb x t):isFm x=true:=by obtain⟨f,h1,_⟩:=h.fm;exact isFm_of h1
theorem Fb.hold {x:D} {t:Pr} {st lp:List D} (h:Fb x t) (w:Wo st lp) (hz:t.sz≤4096):
  hOk Tryz.prog x namesD st lp∧((t.labs (lbOk namesD)∧hE Tryz.prog x namesD st lp=.nili∧hB Tryz.prog x namesD st lp=HB t (strm st lp) 0)∨(¬t.labs (lbOk namesD)∧hB Tryz.prog x namesD st lp=false∧∃e,hE Tryz.prog x namesD st lp=.ifc 84 (.int .i64 e))):=by
 obtain⟨f,hf,ha⟩:=h.fm
 have hc:bd none f∧namesD.length≤big∧st.length+lp.length≤big:=⟨⟨sm_abs f t ha,trivial⟩,by decide,by have:big=34359738368:=rfl;have:=w.len;omega⟩
 by_cases hl:t.labs (lbOk namesD)
 ·have k:holdX Tryz.prog x namesD st lp=_:=Fa.hold ⟨⟨f,hf,ha⟩,hl⟩ w hz
  have e:hR Tryz.prog x namesD st lp=some (.inr (HB t (strm st lp) 0)):=by
   unfold holdX at k
   unfold hR
   simp only[hf]at k ⊢
   rw[if_pos hc]at k ⊢
   split at k
   ·rename_i b he;cases k;exact he
   ·cases k
  refine⟨by unfold hOk;rw[e];rfl,.inl ⟨hl,by unfold hE;rw[e],by unfold hB;rw[e]⟩⟩
 ·obtain⟨r,er⟩:=truth_any (wd_of w.hs w.hl w.ne w.len) names_str t f ha
  have e4:truthsT Tryz.prog f namesD st lp=some r:=by
   unfold truthsT
   rw[check_names w.hs w.hl w.ne w.len]
   simp only
   rw[if_neg (by rw[size_abs t f ha];omega),if_pos (lform_abs t f ha)]
   exact er
  cases r with
  |inr l=>exact(hl (truth_labs _ t f _ ha er)).elim
  |inl v=>
   have e:hR Tryz.prog x namesD st lp=some (.inl v):=by
    unfold hR
    simp only[hf]
    rw[if_pos hc]
    unfold holdN
    rw[e4]
   refine⟨by unfold hOk;rw[e];rfl,.inr ⟨hl,by unfold hB;rw[e],v,by unfold hE;rw[e]⟩⟩
theorem untP_dual {P Q:Nat→Prop} {k:Nat} (h:¬UntP P Q k):∀d,P (k+d)→UntP (fun i=>¬P i∧¬Q i) (fun i=>¬P i) k:=by
 intro d
 induction d using Nat.strongRecOn with
 |ind d ih=>
  intro hd
  by_cases c:∃j,j<d∧¬Q (k+j)
  ·obtain⟨j,hj,hq⟩:=c
   by_cases c2:∃i,i≤j∧P (k+i)
   ·obtain⟨i,hi,hp⟩:=c2
    exact ih i (by omega) hp
   ·exact⟨j,⟨fun hp=>c2 ⟨j,Nat.le_refl _,hp⟩,hq⟩,fun i hi hp=>c2 ⟨i,by omega,hp⟩⟩
  ·exact(h ⟨d,hd,fun j hj=>Classical.byContradiction fun hq=>c ⟨j,hj,hq⟩⟩).elim
theorem HB_RNN (a b:Pr) (L:Nat→Int) (k:Nat):HB (.bi .R (.un .no a) (.un .no b)) L k= !HB (.bi .U a b) L k:=by
 rw[Bool.eq_iff_iff,HB_iff,Bool.not_eq_true', ←Bool.not_eq_true,HB_iff]
 simp only[Pr.sat]
 constructor
 ·rintro(⟨d,⟨h1,h2⟩,h3⟩|h1) ⟨e,h4,h5⟩
  ·rcases Nat.lt_trichotomy e d with h|h|h
   ·exact h3 e h h4
   ·exact h1 (h▸h4)
   ·exact h2 (h5 d h)
  ·exact h1 e h4
 ·intro h
  by_cases c:∃d,b.sat (lbAt namesD L) (k+d)
  ·obtain⟨d,hd⟩:=c
   exact .inl (untP_dual h d hd)
  ·exact .inr fun d hd=>c ⟨d,hd⟩
theorem HB_WUG (a b:Pr) (L:Nat→Int) (k:Nat):HB (.bi .W a b) L k=(HB (.bi .U a b) L k||HB (.un .G a) L k):=by
 rw[Bool.eq_iff_iff,Bool.or_eq_true,HB_iff,HB_iff,HB_iff];exact Iff.rfl
theorem HB_UF (a b:Pr) (L:Nat→Int) (k:Nat) (h:HB (.bi .U a b) L k=true):HB (.un .F b) L k=true:=by
 rw[HB_iff]at h ⊢
 obtain⟨d,h1,_⟩:=h
 exact⟨d,h1⟩
end Go.Sc
namespace Go.Sd
open Go Go.Cm Go.Proofs Go.Sc
set_option maxRecDepth 100000
namespace Q5S
noncomputable def X:Fx:=⟨Tryz.prog,WZ,256,4⟩
end Q5S
end Go.Sd
namespace Go.Sc
open Go Go.Cm
theorem toksL_last:∀(n:Nat) (l:T8) (p:Nat) (r:List Tok),toksL n l p=.inr r→∃us q,r=us++[(0,[],q)]
 |0,l,p,r,h=>by simp[toksL]at h
 |n+1,l,p,r,h=>by
  unfold toksL at h
  simp only at h
  split at h
  ·cases h;exact⟨[],p,rfl⟩
  ·split at h
   ·cases h
   ·split at h
    ·cases h
    ·rename_i r' e
     cases h
     obtain⟨us,q,rfl⟩:=toksL_last n _ _ _ e
     exact⟨_::us,q,rfl⟩
structure Ends (xs:List D):Prop where
 tk:∀a:Int,0≤a→a<xs.length→∃c t p,Go.Sc.tk xs a=some (c,t,p)
 last:∀(a c:Int) (t:ByteArray) (p:Int),0≤a→Go.Sc.tk xs a=some (c,t,p)→c≠0→a+1<xs.length
theorem ends_tok {l:T8} {ts:List Tok} (h:tokS l=.inr ts):Ends (ts.map tokT)∧0<ts.length:=by
 obtain⟨us,q,rfl⟩:=toksL_last _ _ _ _ h
 have hg:∀a:Int,0≤a→a<((us++[((0:Int),([]:T8),q)]).map tokT).length→∃h:a.toNat<(us++[((0:Int),([]:T8),q)]).length,
   tk ((us++[((0:Int),([]:T8),q)]).map tokT) a=some (((us++[((0:Int),([]:T8),q)])[a.toNat]).1,B ((us++[((0:Int),([]:T8),q)])[a.toNat]).2.1,(((us++[((0:Int),([]:T8),q)])[a.toNat]).2.2:Int)):=fun a h0 h1=>by
  rw[List.length_map]at h1
  have hlt:a.toNat<(us++[((0:Int),([]:T8),q)]).length:=by omega
  refine⟨hlt,?_⟩
  unfold tk
  rw[List.getElem?_map,List.getElem?_eq_getElem hlt]
  rfl
 refine⟨⟨fun a h0 h1=>?_,fun a c t p h0 hk hc=>?_⟩,by simp⟩
 ·obtain⟨_,e⟩:=hg a h0 h1
  exact⟨_,_,_,e⟩
 ·have h1:=tk_lt hk h0
  obtain⟨hlt,e⟩:=hg a h0 h1
  rw[hk]at e
  simp only[Option.some.injEq,Prod.mk.injEq]at e
  rw[List.length_map]at h1 ⊢
  rcases Int.lt_or_le (a+1) ((us++[((0:Int),([]:T8),q)]).length:Nat)with h|h
  ·exact h
  ·exfalso
   apply hc
   rw[e.1,List.getElem_append_right (by simp at h ⊢;omega)]
   simp
def In (xs:List D) (a:Int):Prop:=0≤a∧a<xs.length
def NB (xs:List D):PR→Prop
 |.ok _ _ _ _ b=>In xs b
 |.no=>False
 |_=>True
theorem isT_nz {c:Int} {t s:ByteArray} (h:isT c t s=true):c≠0:=by
 unfold isT at h
 simp only[Bool.and_eq_true,Bool.or_eq_true,beq_iff_eq]at h
 omega
variable {xs:List D}
theorem nb_deep (hx:Ends xs) {a:Int} (ha:In xs a):NB xs (deepP xs a):=by
 obtain⟨c,t,p,e⟩:=hx.tk a ha.1 ha.2
 simp only[deepP,e,NB]
theorem nb_chainL (hx:Ends xs) (op:ByteArray) (one:Int→PR) (h1:∀a,In xs a→NB xs (one a)) (h2:∀a,Adv a (one a)):∀(n:Nat) (q nm:ByteArray) (ks:List D) (p a:Int),In xs a→(xs.length:Int) - a<n→NB xs (chainL xs op one n q nm ks p a)
 |0,_,_,_,_,a,ha,hn=>by have:=ha.2;omega
 |n+1,q,nm,ks,p,a,ha,hn=>by
  obtain⟨c,t,p2,e⟩:=hx.tk a ha.1 ha.2
  unfold chainL
  simp only[e]
  split
  ·rename_i ht
   have hin:In xs (a+1):=⟨by have:=ha.1;omega,hx.last a c t p2 ha.1 e (isT_nz ht)⟩
   have g1:=h1 (a+1) hin
   have g2:=h2 (a+1)
   split
   ·rename_i e;rw[e]at g1 g2
    simp only[Adv]at g2
    exact nb_chainL hx op one h1 h2 n _ _ _ _ _ g1 (by omega)
   ·trivial
   ·trivial
   ·rename_i e;rw[e]at g1;exact g1.elim
  ·exact ha
theorem nb_chainP (hx:Ends xs) (op:ByteArray) (one:Int→PR) (h1:∀a,In xs a→NB xs (one a)) (h2:∀a,Adv a (one a)) (a:Int) (ha:In xs a):NB xs (chainP xs op one a):=by
 have g1:=h1 a ha
 unfold chainP
 split
 ·rename_i e;rw[e]at g1
  exact nb_chainL hx op one h1 h2 _ _ _ _ _ _ g1 (by have:=g1.1;omega)
 ·trivial
 ·trivial
 ·rename_i e;rw[e]at g1;exact g1.elim
theorem nb_rightP (hx:Ends xs) (one:Int→PR) (h1:∀a,In xs a→NB xs (one a)) (o nm:ByteArray) (ks:List D) (p:Int):∀(ops:List ByteArray) (a:Int),In xs a→NB xs (rightP xs one o nm ks p ops a)
 |[],a,h=>h
 |op::ops,a,ha=>by
  obtain⟨c,t,p2,e⟩:=hx.tk a ha.1 ha.2
  unfold rightP
  simp only[e]
  split
  ·rename_i ht
   have hin:In xs (a+1):=⟨by have:=ha.1;omega,hx.last a c t p2 ha.1 e (isT_nz ht)⟩
   have g1:=h1 (a+1) hin
   split
   ·rename_i e;rw[e]at g1;exact g1
   ·trivial
   ·trivial
   ·rename_i e;rw[e]at g1;exact g1.elim
  ·exact nb_rightP hx one h1 o nm ks p ops a ha
theorem nb_singleP (hx:Ends xs) (P:PF) (h1:∀a,In xs a→NB xs (P.single a)) (h2:∀a,In xs a→NB xs (P.imply a)) (a:Int) (ha:In xs a):NB xs (singleP xs P a):=by
 obtain⟨c,t,p,e⟩:=hx.tk a ha.1 ha.2
 have nx:c≠0→In xs (a+1):=fun h=>⟨by have:=ha.1;omega,hx.last a c t p ha.1 e h⟩
 unfold singleP
 simp only[e]
 split
 ·rename_i h;exact nx (by omega)
 ·split
  ·rename_i h
   exact nx (by rcases h with h|h<;>exact isT_nz h)
  ·split
   ·rename_i h
    have g:=h1 (a+1) (nx (by rcases h with h|h|h|h<;>exact isT_nz h))
    split
    ·rename_i e;rw[e]at g;exact g
    ·trivial
    ·trivial
    ·rename_i e;rw[e]at g;exact g.elim
   ·split
    ·rename_i h
     have g:=h2 (a+1) (nx (isT_nz h))
     split
     ·rename_i b e2;rw[e2]at g
      obtain⟨c2,t2,q2,e3⟩:=hx.tk _ g.1 g.2
      simp only[e3]
      split
      ·rename_i h3
       exact⟨by have:=g.1;omega,hx.last _ _ _ _ g.1 e3 (isT_nz h3)⟩
      ·trivial
     ·trivial
     ·trivial
     ·rename_i e;rw[e]at g;exact g.elim
    ·trivial
theorem nb_untlP (hx:Ends xs) (s u:Int→PR) (h1:∀a,In xs a→NB xs (s a)) (h2:∀a,In xs a→NB xs (u a)) (a:Int) (ha:In xs a):NB xs (untlP xs s u a):=by
 have g:=h1 a ha
 unfold untlP
 split
 ·rename_i e;rw[e]at g;exact nb_rightP hx u h2 _ _ _ _ _ _ g
 ·trivial
 ·trivial
 ·rename_i e;rw[e]at g;exact g.elim
theorem nb_implyP (hx:Ends xs) (u i:Int→PR) (h1:∀a,In xs a→NB xs (u a)) (h1':∀a,Adv a (u a)) (h2:∀a,In xs a→NB xs (i a)) (a:Int) (ha:In xs a):NB xs (implyP xs u i a):=by
 have g:=nb_chainP hx ⟨#[124]⟩ (kP xs u) (fun a ha=>nb_chainP hx ⟨#[38]⟩ u h1 h1' a ha) (fun a=>adv_chainP xs ⟨#[38]⟩ u h1' a) a ha
 unfold implyP
 split
 ·rename_i e;rw[e]at g;exact nb_rightP hx i h2 _ _ _ _ _ _ g
 ·trivial
 ·trivial
 ·rename_i e;rw[e]at g;exact g.elim
theorem nb_pf (hx:Ends xs):∀n:Nat,(∀a,In xs a→NB xs ((pf xs n).single a))∧(∀a,In xs a→NB xs ((pf xs n).untl a))∧∀a,In xs a→NB xs ((pf xs n).imply a)
 |0=>⟨fun a=>nb_deep hx,fun a=>nb_deep hx,fun a=>nb_deep hx⟩
 |n+1=>by
  obtain⟨h1,h2,h3⟩:=nb_pf hx n
  obtain⟨a1,a2,a3⟩:=adv_pf xs (n+1)
  have s:=nb_singleP hx (pf xs n) h1 h3
  have u:=nb_untlP hx _ _ s h2
  exact⟨s,u,nb_implyP hx _ _ u a2 h3⟩
theorem parse_bad (s:ByteArray) (d:Int):parseP s d≠.bad:=by
 unfold parseP
 split
 ·exact fun h=>by cases h
 ·split
  ·exact fun h=>by cases h
  ·split
   ·exact fun h=>by cases h
   ·rename_i l hl
    obtain⟨hx,h0⟩:=ends_tok hl
    have g:=(nb_pf hx d.toNat).2.2 0 ⟨by omega,by rw[List.length_map];omega⟩
    change NB _ (pImply (l.map tokT) d.toNat 0)at g
    unfold endP
    split
    ·rename_i e;rw[e]at g
     obtain⟨c,t,q,e2⟩:=hx.tk _ g.1 g.2
     rw[e2]
     simp only
     split<;>exact fun h=>by cases h
    ·exact fun h=>by cases h
    ·exact fun h=>by cases h
    ·rename_i e;rw[e]at g;exact g.elim
end Go.Sc
set_option maxRecDepth 100000
namespace Go.Sd
open Go Go.Cm Go.Proofs Go.Sc
theorem parse_len {s:ByteArray} {d:Int} {op nm:ByteArray} {ks:List D} {p:Int} (h:parseP s d=.ok op nm ks p):s.size≤65536:=by
 unfold parseP at h
 split at h
 ·cases h
 ·split at h
  ·cases h
  ·rename_i hb
   rwa [Nat.ble_eq]at hb
theorem sum_len {s t:ByteArray} (h1:s.size≤65536) (h2:t.size≤65536) (h:¬decide (IntKind.wrap .i64 ((s.size:Int)+(t.size:Int))>200)=true):s.size+t.size≤200:=by
 rw[wrap_id (by omega) (by omega),decide_eq_true_eq]at h
 omega
end Go.Sd
set_option maxRecDepth 100000
namespace Go.Sd
open Go Go.Cm Go.Proofs Go.Sc
theorem sh_loop {op nm:ByteArray} {ks:List D} {p:Int} {op2 nm2:ByteArray} {ks2:List D} {p2:Int} {x y:List D} (W:Wo x (loopOf y)) (h:x.length≤8∧(loopOf y).length≤8):
  ∀(n k:Nat),n+k=40→Lp Q6H.L0 (Q6H.s0 op nm ks p op2 nm2 ks2 p2 x y (k:Int))=some (.exit 0,Q6H.e0x0 op nm ks p op2 nm2 ks2 p2 x y)
 |0,k,hk=>by
  have hr:=Q6H.round0 op nm ks p op2 nm2 ks2 p2 x y (k:Int)
  rw[if_neg (by rw[decide_eq_true_eq];omega)]at hr
  exact Lp_exit hr
 |n+1,k,hk=>by
  have hr:=Q6H.round0 op nm ks p op2 nm2 ks2 p2 x y (k:Int)
  obtain⟨m,e1,e2⟩:=letr_long W.hs.ints W.hl.ints (W.hs.app W.hl).ints (W.hl.app W.hl).ints W.ne k
  rw[if_pos (by rw[decide_eq_true_eq];omega)]at hr
  simp only[e1,e2]at hr
  rw[if_pos ⟨by omega,by omega⟩,if_pos ⟨by omega,by simp only[List.length_append];omega⟩,if_neg (by simp),if_neg (by simp),if_neg (by simp),wrap_id (by omega) (by omega)]at hr
  exact Lp_step hr (sh_loop W h n (k+1) (by omega))
theorem ev_shifts (s t:ByteArray) (a b:List D) (ha:U8D a) (hb:U8D b) {γ:Type} (q:List TV→List TV→Option γ):
  evalF Tryz.prog WS6 Tryz.f6 [.d true 0 (.str s),.d true 0 (.str t),.d true 0 (.sl 0 a),.d true 0 (.sl 0 b)] q=q [.d false 0 (.bool true)] []:=by
 rw[Q6H.start]
 by_cases hlen:decide (IntKind.wrap .i64 ((s.size:Int)+(t.size:Int))>200)=true
 ·rw[if_pos hlen]
 rw[if_neg hlen]
 cases h1:parseP s 64 with
 |bad=>exact(parse_bad s 64 h1).elim
 |no n=>
  cases h2:parseP t 64 with
  |bad=>exact(parse_bad t 64 h2).elim
  |_=>rfl
 |er p n=>
  cases h2:parseP t 64 with
  |bad=>exact(parse_bad t 64 h2).elim
  |_=>rfl
 |ok op nm ks p=>
  cases h2:parseP t 64 with
  |bad=>exact(parse_bad t 64 h2).elim
  |no n=>rfl
  |er p n=>rfl
  |ok op2 nm2 ks2 p2=>
   have hle:=sum_len (parse_len h1) (parse_len h2) hlen
   obtain⟨f,u,hf,hu,zu⟩:=parse_fm h1 (by omega)
   obtain⟨g,v,hg,hv,zv⟩:=parse_fm h2 (by omega)
   have F1:Fb _ u:=⟨⟨f,hf,hu⟩⟩
   have F2:Fb _ v:=⟨⟨g,hg,hv⟩⟩
   obtain⟨x,y,ex,ey,hx,hy,hne,lx,ly⟩:=word_ok ha hb
   have W:Wo x (loopOf y):=⟨hx,hy,hne,by omega⟩
   have WL:=W.long (by omega)
   have FX:=F1.one (ob:=⟨#[88]⟩) (nm:=⟨#[]⟩) (p:=0) .X (B_lit [88])
   have FU:=F1.two F2 (ob:=⟨#[85]⟩) (nm:=⟨#[]⟩) (p:=0) .U (B_lit [85])
   have FW:=F1.two F2 (ob:=⟨#[87]⟩) (nm:=⟨#[]⟩) (p:=0) .W (B_lit [87])
   have N1:=F1.one (ob:=⟨#[33]⟩) (nm:=⟨#[]⟩) (p:=0) .no (B_lit [33])
   have N2:=F2.one (ob:=⟨#[33]⟩) (nm:=⟨#[]⟩) (p:=0) .no (B_lit [33])
   have FR:=N1.two N2 (ob:=⟨#[82]⟩) (nm:=⟨#[]⟩) (p:=0) .R (B_lit [82])
   have FF:=F2.one (ob:=⟨#[70]⟩) (nm:=⟨#[]⟩) (p:=0) .F (B_lit [70])
   have FG:=F1.one (ob:=⟨#[71]⟩) (nm:=⟨#[]⟩) (p:=0) .G (B_lit [71])
   have a1:=FX.hold W (by simp only[Pr.sz];omega)
   have a2:=F1.hold W.shift (by omega)
   have a3:=FU.hold W (by simp only[Pr.sz];omega)
   have a4:=FW.hold W (by simp only[Pr.sz];omega)
   have a5:=FR.hold W (by simp only[Pr.sz];omega)
   have a6:=FF.hold W (by simp only[Pr.sz];omega)
   have a7:=FG.hold W (by simp only[Pr.sz];omega)
   have a8:=FU.hold WL (by simp only[Pr.sz];omega)
   rw[strm_long W.ne]at a8
   rw[strm_shift W.ne,HB_shift]at a2
   have c1:intsB x=true∧intsB (loopOf y)=true∧x.length+(loopOf y).length≤34359738368:=⟨hx.ints,hy.ints,by omega⟩
   have c2:0+x.length≤34359738368:=by omega
   have c3:x.length+(loopOf y).length≤34359738368:=by omega
   have c4:0+(loopOf y).length≤34359738368:=by omega
   have c5:(loopOf y).length+(loopOf y).length≤34359738368:=by omega
   obtain⟨o3,e3⟩:=otherX_of hg hv (by omega)
   have o4:=otherX_labs hg hv
   unfold namesD at a1 a2 a3 a4 a5 a6 a7 a8
   simp only[ex,ey]
   rw[Q6H.reg0,if_pos a1.1]
   refine(Q6H.j0_eq s t a b op nm ks p op2 nm2 ks2 p2 x y q).trans ?_
   have lp:Lp Q6H.L0 (Q6H.s0 op nm ks p op2 nm2 ks2 p2 x y 0)=_:=sh_loop W ⟨lx,ly⟩ 40 0 rfl
   have tail:Q6H.J1 s t a b q (Q6H.j1 op nm ks p op2 nm2 ks2 p2 x y)=q [.d false 0 (.bool true)] []:=by
    refine(Q6H.j1_eq s t a b op nm ks p op2 nm2 ks2 p2 x y q).trans ?_
    rw[Q6H.behind0x0 s t a b op nm ks p op2 nm2 ks2 p2 x y q _ lp]
    simp only[F1.is,F2.is,N1.is,N2.is,if_true,if_pos a3.1,if_pos a4.1,if_pos a5.1,if_pos a6.1,if_pos a7.1,if_pos a8.1]
    rcases a7.2 with⟨l7,i7,b7⟩|⟨l7,b7,e7,i7⟩
    ·rcases a2.2 with⟨l2,i2,b2⟩|⟨l2,b2,ee2,i2⟩
     ·simp only[i7,i2,isNil,ifcB,Bool.not_true,Bool.false_eq_true,if_false,if_true,e3]
      cases o3 with
      |true=>
       repeat' split
       all_goals rfl
      |false=>
       have lv:=o4 e3
       rcases a3.2 with⟨_,_,b3⟩|⟨l3,_⟩
       ·rcases a4.2 with⟨_,_,b4⟩|⟨l4,_⟩
        ·rcases a5.2 with⟨_,_,b5⟩|⟨l5,_⟩
         ·rcases a6.2 with⟨_,_,b6⟩|⟨l6,_⟩
          ·rcases a8.2 with⟨_,_,b8⟩|⟨l8,_⟩
           ·rw[b3,b4,b5,b6,b7,b8]
            have r:=HB_UF u v (strm x (loopOf y)) 0
            rw[HB_RNN,HB_WUG]
            revert r
            generalize HB (.bi .U u v) (strm x (loopOf y)) 0=U
            generalize HB (.un .F v) (strm x (loopOf y)) 0=F
            generalize HB (.un .G u) (strm x (loopOf y)) 0=G
            intro r
            cases U<;>cases F<;>cases G<;>first|rfl|(simp at r)
           ·exact(l8 ⟨l7,lv⟩).elim
          ·exact(l6 lv).elim
         ·exact(l5 ⟨l7,lv⟩).elim
        ·exact(l4 ⟨l7,lv⟩).elim
       ·exact(l3 ⟨l7,lv⟩).elim
     ·exact(l2 l7).elim
    ·simp only[i7,isNil,ifcB,Bool.not_false,if_true]
   have c6:∀{P Q:Option γ},P=Q→(if intsB x=true∧intsB (loopOf y)=true∧x.length+(loopOf y).length≤34359738368 then P else none)=Q:=fun h=>by rw[if_pos c1];exact h
   refine c6 ?_
   rw[if_pos a2.1]
   have hx1:HB (.un .X u) (strm x (loopOf y)) 0=HB u (strm x (loopOf y)) (0+1):=HB_X _ _ _
   rcases a2.2 with⟨l2,i2,b2⟩|⟨l2,b2,ee2,i2⟩
   ·rcases a1.2 with⟨l1,i1,b1⟩|⟨l1,b1,ee1,i1⟩
    ·simp only[i1,i2,b1,b2,isNil,ifcB,if_true,hx1,beq_self_eq_true,Bool.not_true,Bool.false_eq_true,if_false]
     rw[Q6H.reg1]
     simp only[if_pos c2,if_pos c3,if_pos c4,if_pos c5]
     exact tail
    ·exact(l1 l2).elim
   ·rcases a1.2 with⟨l1,i1,b1⟩|⟨l1,b1,ee1,i1⟩
    ·exact(l2 l1).elim
    ·simp only[i1,i2,b1,b2,isNil,ifcB,if_true,beq_self_eq_true,Bool.not_true,Bool.false_eq_true,if_false]
     rw[Q6H.reg1]
     simp only[if_pos c2,if_pos c3,if_pos c4,if_pos c5]
     exact tail
theorem valid_shifts (s t:ByteArray) {a b:List D} (ha:U8D a) (hb:U8D b):Valid glS Tryz.prog 6 [.d true 0 (.str s),.d true 0 (.str t),.d true 0 (.sl 0 a),.d true 0 (.sl 0 b)] [.d false 0 (.bool true)] []:=
 valid_of envws6 mixed Tryz.func6 (by kernel_rfl) (ev_shifts s t a b ha hb _)
end Go.Sd

/- The parser of formulas: begin and Parse. -/
import Derived.Test.YtbpndgllhhajoaaGreatDoorMai
import Derived.Test.YtbpndgllhhajoaaGreatDoorMag
import Derived.Test.YtbpndgllhhajoaaGreatDoorMae
set_option linter.unusedVariables false
set_option linter.unusedSimpArgs false
namespace Go.Sd
open Go Go.Cm Go.Proofs Go.Sc
set_option maxRecDepth 100000
theorem envq3:EnvOk glS Tryz.prog Q3:=ev_all 1002
theorem envq4:EnvOk glS Tryz.prog Q4:=envq3.fn mixed Tryz.func39 (by kernel_rfl) fun β args k r hr=>by
 unfold cBegin at hr
 split at hr
 ·rename_i s d
  have st:∀{γ:Type} (q:List TV→List TV→Option γ),evalF Tryz.prog Q3 Tryz.f39 [TV.d true 0 (.str s),TV.d true 0 (.int .i64 d)] q=_:=fun q=>A54.start s d q
  split at hr
  ·rename_i h0
   refine⟨_,_,hr,fun q=>?_⟩
   rw[st]
   by_cases h1:d<1
   ·rw[if_pos (by simpa using h1)];rfl
   ·rw[if_neg (by simpa using h1),if_pos (by have:=h0.resolve_left h1;simpa using this)];rfl
  ·rename_i h0
   have h1:¬decide (d<1)=true:=by simpa using fun h=>h0 (.inl h)
   have h2:¬decide (d>64)=true:=by simpa using fun h=>h0 (.inr h)
   simp only[if_neg h1,if_neg h2]at st
   cases hb:Nat.ble s.size 65536 with
   |false=>
    simp only[hb]at st hr
    exact⟨_,_,hr,fun q=>by rw[st];rfl⟩
   |true=>
    simp only[hb]at st hr
    cases ht:tokS s.toList with
    |inl e=>
     obtain⟨n,p⟩:=e
     simp only[ht]at st hr
     exact⟨_,_,hr,fun q=>by rw[st];rfl⟩
    |inr l=>
     simp only[ht]at st hr
     exact⟨_,_,hr,fun q=>by rw[st]⟩
 ·cases hr
theorem tok_len {s:ByteArray} {l:List Tok} (hb:Nat.ble s.size 65536=true) (ht:tokS s.toList=.inr l):(l.map tokT).length≤65537:=by
 rw[Nat.ble_eq]at hb
 have e:s.toList.length=s.size:=by rw[ByteArray.toList_eq];exact Array.length_toList
 obtain⟨us,h1,h2,_⟩:=tokS_last (by omega) ht
 rw[h1];simp;omega
theorem envq5:EnvOk glS Tryz.prog Q5:=envq4.fn mixed Tryz.func10 (by kernel_rfl) fun β args k r hr=>by
 unfold cParse at hr
 split at hr
 ·rename_i s d
  have st:∀{γ:Type} (q:List TV→List TV→Option γ),evalF Tryz.prog Q4 Tryz.f10 [TV.d true 0 (.str s),TV.d true 0 (.int .i64 d)] q=_:=fun q=>A25.start s d q
  unfold parseP at hr
  by_cases h0:d<1∨d>64
  ·rw[if_pos h0]at hr
   simp only[if_pos h0]at st
   exact⟨_,_,hr,fun q=>by rw[st];rfl⟩
  ·rw[if_neg h0]at hr
   simp only[if_neg h0]at st
   cases hb:Nat.ble s.size 65536 with
   |false=>
    simp only[hb]at st hr
    exact⟨_,_,hr,fun q=>by rw[st];rfl⟩
   |true=>
    simp only[hb]at st hr
    cases ht:tokS s.toList with
    |inl e=>
     obtain⟨n,p⟩:=e
     simp only[ht]at st hr
     exact⟨_,_,hr,fun q=>by rw[st];rfl⟩
    |inr l=>
     simp only[ht]at st hr
     have hl:=tok_len hb ht
     have hok:okP (l.map tokT) 0 d 1 (Bd.mk 1002 1002 1002 1002 1002 1002 1002 1002).ni:=⟨hl,by omega,by omega,by omega,by omega,by show _<1002;omega⟩
     simp only[if_pos hok,show(d+1 - 1).toNat=d.toNat by congr 1;omega]at st
     have hadv:=adv_imply (l.map tokT) d.toNat 0
     unfold endP at hr
     cases hp:pImply (l.map tokT) d.toNat 0 with
     |ok op nm ks p a=>
      rw[hp]at hadv
      simp only[Adv]at hadv
      simp only[hp]at st hr
      cases hk:tk (l.map tokT) a with
      |none=>simp only[hk]at hr;cases hr
      |some v=>
       obtain⟨c,t,p2⟩:=v
       simp only[hk]at hr
       simp only[if_pos (show(0:Int)≤a by omega),tk_some hk]at st
       by_cases hc:c=0
       ·rw[if_pos hc]at hr
        simp only[hc]at st
        exact⟨_,_,hr,fun q=>by rw[st];rfl⟩
       ·rw[if_neg hc]at hr
        have hc':(!c==0)=true:=by simpa using hc
        simp only[if_pos hc']at st
        exact⟨_,_,hr,fun q=>by rw[st];rfl⟩
     |syn p a=>
      simp only[hp]at st hr
      exact⟨_,_,hr,fun q=>by rw[st];rfl⟩
     |deep p a=>
      simp only[hp]at st hr
      exact⟨_,_,hr,fun q=>by rw[st];rfl⟩
     |no=>simp only[hp]at hr;cases hr
 ·cases hr
end Go.Sd
namespace Go.Sd
open Go Go.Cm Go.Proofs Go.Sc
set_option maxRecDepth 100000
def cSize {β:Type} (b:Option Nat) (args:List TV) (k:List TV→List TV→Option β):Option β:=
 match args with
 |[.d true 5 x]=>match ofD x with
  |some f=>chkK (bd b f) (k [.d false 0 (.int .i64 (sizeF f))] [])
  |none=>none
 |_=>none
def R1 (b:Option Nat):Env:=Q5.add 43 io0 (cSize b)
def cSame {β:Type} (b:Option Nat) (args:List TV) (k:List TV→List TV→Option β):Option β:=
 match args with
 |[.d true 5 x,.d true 5 y]=>match ofD x with
  |some f=>match ofD y with
   |some g=>chkK (bd b f) (k [.d false 0 (.bool (sameF f g))] [])
   |none=>none
  |none=>none
 |_=>none
def cEq {β:Type} (b:Option Nat) (args:List TV) (k:List TV→List TV→Option β):Option β:=
 match args with
 |[.d true 0 (.sl 5 xs),.d true 0 (.sl 5 ys),.d true 0 (.fn 114 [])]=>match ofDL xs with
  |some fs=>match ofDL ys with
   |some gs=>chkK (bdL b fs) (k [.d false 0 (.bool (sameL fs gs))] [])
   |none=>none
  |none=>none
 |_=>none
def R2 (b:Option Nat×Option Nat):Env:=((R1 none).add 114 io0 (cSame b.1)).add 123 io0 (cEq b.2)
end Go.Sd
namespace Go.Sd
open Go Go.Cm Go.Proofs Go.Sc
set_option maxRecDepth 100000
namespace S60
  section
  variable (b:Option Nat)
noncomputable def X:Fx:=⟨Tryz.prog,R1 b,4,1⟩
def s0 (ks:List D) (x60:Int) (x61:Int):S:=⟨Tm.mk 22 [(3,.d false 0 (.int .i64 x60)),(7,.d true 0 (.sl 5 ks)),(8,.d false 0 (.int .i64 (ks.length:Int))),(9,.d false 0 (.int .i64 x61))],[]⟩
def e0x0 (x122:Int):S:=⟨Tm.mk 22 [(3,.d false 0 (.int .i64 x122))],[]⟩
noncomputable abbrev L0:S→Option (S ⊕ (Ex×S)):=roundK (X b) [(0,8)] (sub [1,1,0,1,0,0] (body Tryz.f43))
theorem start {β:Type} (op:ByteArray) (nm:ByteArray) (ks:List D) (p:Int) (k:List TV→List TV→Option β):evalF Tryz.prog (R1 b) Tryz.f43 [.d true 5 (.ag [D.str op,D.str nm,D.sl 5 ks,D.int .i64 p])] k=goLp (X b) [(0,8)] (sub [1,1,0,1,0,0] (body Tryz.f43)) [Kf.block 0 8,Kf.seq [] (sub [1,1,1] (body Tryz.f43)) 4] (finK Tryz.prog Tryz.f43 [.d true 5 (.ag [D.str op,D.str nm,D.sl 5 ks,D.int .i64 p])] k) (s0 ks (1:Int) (0:Int)):=by kernel_rfl
theorem round0_0 (ks:List D) (x58:Int) (x59:Int):roundK (X b) [(0,8)] (sub [1,1,0,1,0,0] (body Tryz.f43)) (s0 ks x58 x59)=if decide (x59<(ks.length:Int))=true then if 0≤x59 then match ks[x59.toNat]? with
   |some x130=>match x130 with
    |D.ag xs131=>match xs131 with
     |x132::r133=>match x132 with
      |D.str s134=>match r133 with
       |x135::r136=>match x135 with
        |D.str s137=>match r136 with
         |x138::r139=>match x138 with
          |D.sl sh140 xs141=>if sh140=5 then match r139 with
           |x142::r143=>match x142 with
            |D.int j144 m145=>if j144=IntKind.i64 then match r143 with
             |[]=>if decide (x58≤4096)=true then match ofD (.ag [D.str s134,D.str s137,D.sl 5 xs141,D.int .i64 m145])with
              |some f150=>if bd b f150 then some (Sum.inl (s0 ks (if 4097<IntKind.wrap .i64 (x58+sizeF f150)then(4097:Int)else IntKind.wrap .i64 (x58+sizeF f150)) (IntKind.wrap .i64 (x59+1))))else none
              |none=>none else some (Sum.inl (s0 ks x58 (IntKind.wrap .i64 (x59+1))))
             |x=>none else none
            |x=>none
           |[]=>none else none
          |x=>none
         |[]=>none
        |x=>none
       |[]=>none
      |x=>none
     |[]=>none
    |x=>none
   |none=>none else none else some (Sum.inr (Ex.exit 0,e0x0 x58)):=by kernel_rfl
theorem behind0x0 {β:Type} (op:ByteArray) (nm:ByteArray) (ks:List D) (p:Int) (x122:Int) (k:List TV→List TV→Option β):applyK (X b) (finK Tryz.prog Tryz.f43 [.d true 5 (.ag [D.str op,D.str nm,D.sl 5 ks,D.int .i64 p])] k) [Kf.block 0 8,Kf.seq [] (sub [1,1,1] (body Tryz.f43)) 4] (Ex.exit 0) (e0x0 x122)=k [.d false 0 (.int .i64 x122)] []:=by kernel_rfl
end
end S60
end Go.Sd
namespace Go.Sd
open Go Go.Cm Go.Proofs Go.Sc
set_option maxRecDepth 100000
namespace S29
  section
  variable (b:Option Nat×Option Nat)
theorem start {β:Type} (op:ByteArray) (nm:ByteArray) (ks:List D) (p:Int) (o2:ByteArray) (n2:ByteArray) (k2:List D) (p2:Int) (k:List TV→List TV→Option β):evalF Tryz.prog (R2 b) Tryz.f114 [.d true 5 (.ag [D.str op,D.str nm,D.sl 5 ks,D.int .i64 p]),.d true 5 (.ag [D.str o2,D.str n2,D.sl 5 k2,D.int .i64 p2])] k=if(op.toList==o2.toList)=true then if(nm.toList==n2.toList)=true then match ofDL ks with
   |some fs2=>match ofDL k2 with
    |some gs3=>if bdL b.snd fs2 then k [.d false 0 (.bool (sameL fs2 gs3))] []else none
    |none=>none
   |none=>none else k [.d false 0 (.bool false)] []else k [.d false 0 (.bool false)] []:=by kernel_rfl
end
end S29
namespace S63
  section
  variable (b:Option Nat×Option Nat)
noncomputable def X:Fx:=⟨Tryz.prog,R2 b,64,3⟩
def s0 (ys:List D) (zs:List D) (x110:Int):S:=⟨Tm.mk 32 [(1,.d true 0 (.sl 5 zs)),(2,.d true 0 (.fn 114 [])),(15,.d true 0 (.sl 5 ys)),(16,.d false 0 (.int .i64 (ys.length:Int))),(17,.d false 0 (.int .i64 x110))],[]⟩
def e0r:S:=⟨Tm.mk 32 [(6,.d false 0 (.bool false))],[]⟩
def e0x0:S:=⟨Tm.mk 32 [],[]⟩
noncomputable abbrev L0:S→Option (S ⊕ (Ex×S)):=roundK (X b) [(0,0)] (sub [1,1,0,1,0,0] (body Tryz.f123))
theorem start {β:Type} (ys:List D) (zs:List D) (k:List TV→List TV→Option β):evalF Tryz.prog (R2 b) Tryz.f123 [.d true 0 (.sl 5 ys),.d true 0 (.sl 5 zs),.d true 0 (.fn (114:FuncId) [])] k=if(!(ys.length:Int)==(zs.length:Int))=true then k [.d false 0 (.bool false)] []else goLp (X b) [(0,0)] (sub [1,1,0,1,0,0] (body Tryz.f123)) [Kf.block 0 0,Kf.seq [] (sub [1,1,1] (body Tryz.f123)) 64] (finK Tryz.prog Tryz.f123 [.d true 0 (.sl 5 ys),.d true 0 (.sl 5 zs),.d true 0 (.fn (114:FuncId) [])] k) (s0 ys zs (0:Int)):=by kernel_rfl
theorem round0_0 (ys:List D) (zs:List D) (x109:Int):roundK (X b) [(0,0)] (sub [1,1,0,1,0,0] (body Tryz.f123)) (s0 ys zs x109)=if decide (x109<(ys.length:Int))=true then if 0≤x109 then match ys[x109.toNat]? with
   |some x120=>match x120 with
    |D.ag xs121=>match xs121 with
     |x122::r123=>match x122 with
      |D.str s124=>match r123 with
       |x125::r126=>match x125 with
        |D.str s127=>match r126 with
         |x128::r129=>match x128 with
          |D.sl sh130 xs131=>if sh130=5 then match r129 with
           |x132::r133=>match x132 with
            |D.int j134 m135=>if j134=IntKind.i64 then match r133 with
             |[]=>if 0≤x109 then match zs[x109.toNat]? with
              |some x138=>match x138 with
               |D.ag xs139=>match xs139 with
                |x140::r141=>match x140 with
                 |D.str s142=>match r141 with
                  |x143::r144=>match x143 with
                   |D.str s145=>match r144 with
                    |x146::r147=>match x146 with
                     |D.sl sh148 xs149=>if sh148=5 then match r147 with
                      |x150::r151=>match x150 with
                       |D.int j152 m153=>if j152=IntKind.i64 then match r151 with
                        |[]=>match ofD (.ag [D.str s124,D.str s127,D.sl 5 xs131,D.int .i64 m135])with
                         |some f156=>match ofD (.ag [D.str s142,D.str s145,D.sl 5 xs149,D.int .i64 m153])with
                          |some g157=>if bd b.fst f156 then if(!sameF f156 g157)=true then some (Sum.inr (Ex.ret,e0r))else some (Sum.inl (s0 ys zs (IntKind.wrap .i64 (x109+1))))else none
                          |none=>none
                         |none=>none
                        |x=>none else none
                       |x=>none
                      |[]=>none else none
                     |x=>none
                    |[]=>none
                   |x=>none
                  |[]=>none
                 |x=>none
                |[]=>none
               |x=>none
              |none=>none else none
             |x=>none else none
            |x=>none
           |[]=>none else none
          |x=>none
         |[]=>none
        |x=>none
       |[]=>none
      |x=>none
     |[]=>none
    |x=>none
   |none=>none else none else some (Sum.inr (Ex.exit 0,e0x0)):=by kernel_rfl
theorem behind0r {β:Type} (ys:List D) (zs:List D) (k:List TV→List TV→Option β):applyK (X b) (finK Tryz.prog Tryz.f123 [.d true 0 (.sl 5 ys),.d true 0 (.sl 5 zs),.d true 0 (.fn (114:FuncId) [])] k) [Kf.block 0 0,Kf.seq [] (sub [1,1,1] (body Tryz.f123)) 64] Ex.ret e0r=k [.d false 0 (.bool false)] []:=by kernel_rfl
theorem behind0x0 {β:Type} (ys:List D) (zs:List D) (k:List TV→List TV→Option β):applyK (X b) (finK Tryz.prog Tryz.f123 [.d true 0 (.sl 5 ys),.d true 0 (.sl 5 zs),.d true 0 (.fn (114:FuncId) [])] k) [Kf.block 0 0,Kf.seq [] (sub [1,1,1] (body Tryz.f123)) 64] (Ex.exit 0) e0x0=k [.d false 0 (.bool true)] []:=by kernel_rfl
end
end S63
end Go.Sd
namespace Go.Sd
open Go Go.Cm Go.Proofs Go.Sc
set_option maxRecDepth 100000
theorem EnvOk.lim {gl:Gl} {P:Program} {E:Env} {En:Nat→Env} (h:∀n,EnvOk gl P (En n))
  (hc:∀(β:Type) (g:FuncId) (args:List TV) (k:List TV→List TV→Option β) (r:β),E.c g args k=some r→∃n,(En n).c g args k=some r):EnvOk gl P E:=by
 intro β g args k r hr
 obtain⟨n,hn⟩:=hc β g args k r hr
 exact h n β g args k r hn
theorem wi {n:Nat} (h:n≤4096):IntKind.wrap .i64 ((n:Int)+1)=((n+1:Nat):Int):=by rw[wrap_id (by omega) (by omega)];omega
theorem size_loop {b:Option Nat} {fs:List Fm} (hl:fs.length≤4096) (hb:∀f∈fs,bd b f):∀(gs:List Fm) (i:Nat) (n:Int),fs.drop i=gs→i≤fs.length→1≤n→n≤4097→
  Lp (S60.L0 b) (S60.s0 (Fm.dL fs) n i)=some (.exit 0,S60.e0x0 (sizeL gs n))
 |[],i,n,hi,hle,h1,h2=>by
  have hr:=S60.round0_0 b (Fm.dL fs) n i
  have:fs.length≤i:=by have:=congrArg List.length hi;simp at this;omega
  rw[dL_len,if_neg (by simp;omega)]at hr
  exact Lp_exit hr
 |f::gs,i,n,hi,hle,h1,h2=>by
  have hr:=S60.round0_0 b (Fm.dL fs) n i
  have hlt:i<fs.length:=by
   rcases Nat.lt_or_ge i fs.length with h|h
   ·exact h
   ·rw[List.drop_eq_nil_of_le h]at hi;cases hi
  have hf:fs[i]=f:=by
   have:=List.drop_eq_getElem_cons hlt
   rw[hi]at this
   exact(List.cons.inj this).1.symm
  have hgs:fs.drop (i+1)=gs:=by
   have:=List.drop_eq_getElem_cons hlt
   rw[hi]at this
   exact(List.cons.inj this).2.symm
  rw[dL_len,if_pos (by simp;omega),if_pos (by omega),Int.toNat_natCast,dL_get hlt,hf]at hr
  have hm:f∈fs:=hf▸List.getElem_mem hlt
  have hbf:=hb f hm
  have hs:=sizeF_le f
  cases f with
  |mk op nm ks p=>
   have hof:=ofD_d (.mk op nm ks p)
   simp only[Fm.d]at hr hof
   simp only[hof,if_true,if_pos hbf,wi (show i≤4096 by omega),wrap_id (show -9223372036854775808≤n+sizeF (.mk op nm ks p)by omega) (by omega)]at hr
   have ih:=fun m h1 h2=>size_loop hl hb gs (i+1) m hgs (by omega) h1 h2
   simp only[sizeL]
   by_cases hn:n≤4096
   ·rw[if_pos (by simpa using hn)]at hr
    rw[if_pos hn]
    have e:(if(4097:Int)<n+sizeF (.mk op nm ks p)then(4097:Int)else n+sizeF (.mk op nm ks p))=min (n+sizeF (.mk op nm ks p)) 4097:=by split<;>omega
    rw[e]at hr
    exact Lp_step hr (ih _ (by omega) (by omega))
   ·rw[if_neg (by simpa using hn)]at hr
    rw[if_neg hn]
    exact Lp_step hr (ih _ h1 h2)
theorem ev_size {b:Option Nat} {f:Fm} (hs:f.sm=true) (hb:∀n,b=some n→f.dep≤n) {γ:Type} (q:List TV→List TV→Option γ):
  evalF Tryz.prog (R1 b) Tryz.f43 [.d true 5 f.d] q=q [.d false 0 (.int .i64 (sizeF f))] []:=by
 cases f with
 |mk op nm ks p=>
  simp only[Fm.sm,Bool.and_eq_true,Nat.ble_eq]at hs
  have h:=size_loop (b:=b) hs.1 (fun g hg=>bd_none ⟨sm_mem hs.2 hg,trivial⟩ fun n hn=>by
   have h1:=hb n hn
   have h2:=dep_mem hg
   simp only[Fm.dep]at h1
   omega) ks 0 1 rfl (by omega) (by omega) (by omega)
  have st:=S60.start b op nm (Fm.dL ks) p q
  simp only[Fm.d]
  rw[st,show(0:Int)=((0:Nat):Int)from rfl,goLp_of h,S60.behind0x0]
  simp only[sizeF]
theorem envr1:EnvOk glS Tryz.prog (R1 none):=by
 have key:∀n,EnvOk glS Tryz.prog (R1 (some n)):=by
  intro n
  induction n with
  |zero=>
   refine envq5.add fun β args k r hr=>?_
   unfold cSize at hr
   split at hr
   ·split at hr
    ·unfold chkK at hr
     split at hr
     ·rename_i h;have:=h.2;simp only at this;omega
     ·cases hr
    ·cases hr
   ·cases hr
  |succ n ih=>
   refine envq5.add fun β args k r hr=>?_
   unfold cSize at hr
   split at hr
   ·rename_i x
    split at hr
    ·rename_i f hf
     unfold chkK at hr
     split at hr
     ·rename_i h
      rw[d_ofD _ _ hf]
      exact⟨_,_,hr,valid_of ih mixed Tryz.func43 (by kernel_rfl) (ev_size (b:=some n) h.1 (fun m hm=>by cases hm;have:=h.2;simp only at this;omega) _)⟩
     ·cases hr
    ·cases hr
   ·cases hr
 refine EnvOk.lim key fun β g args k r hr=>?_
 simp only[R1,Env.add]at hr ⊢
 cases hg:Nat.beq g 43 with
 |false=>simp only[hg]at hr ⊢;exact⟨0,hr⟩
 |true=>
  simp only[hg]at hr ⊢
  unfold cSize at hr ⊢
  split at hr
  ·split at hr
   ·rename_i f hf
    unfold chkK at hr
    split at hr
    ·rename_i h
     exact⟨f.dep+1,by simp only[hf,chkK];rw[if_pos (bd_at h)];exact hr⟩
    ·cases hr
   ·cases hr
  ·cases hr
end Go.Sd
namespace Go.Sd
open Go Go.Cm Go.Proofs Go.Sc
set_option maxRecDepth 100000
theorem sameL_len:∀{fs gs:List Fm},sameL fs gs=true→fs.length=gs.length
 |[],[],_=>rfl
 |f::fs,g::gs,h=>by
  simp only[sameL,Bool.and_eq_true]at h
  simp[sameL_len h.2]
 |[],_::_,h=>by simp[sameL]at h
 |_::_,[],h=>by simp[sameL]at h
theorem drop_split {α:Type} {fs gs:List α} {f:α} {i:Nat} (hi:fs.drop i=f::gs):∃h:i<fs.length,fs[i]=f∧fs.drop (i+1)=gs:=by
 have hlt:i<fs.length:=by
  rcases Nat.lt_or_ge i fs.length with h|h
  ·exact h
  ·rw[List.drop_eq_nil_of_le h]at hi;cases hi
 have:=List.drop_eq_getElem_cons hlt
 rw[hi]at this
 exact⟨hlt,(List.cons.inj this).1.symm,(List.cons.inj this).2.symm⟩
theorem eq_loop {b:Option Nat×Option Nat} {fs gs:List Fm} (hl:fs.length≤4096) (hlg:fs.length=gs.length) (hb:∀f∈fs,bd b.1 f):∀(es hs2:List Fm) (i:Nat),fs.drop i=es→gs.drop i=hs2→i≤fs.length→
  Lp (S63.L0 b) (S63.s0 (Fm.dL fs) (Fm.dL gs) i)=match sameL es hs2 with|true=>some (.exit 0,S63.e0x0)|false=>some (.ret,S63.e0r)
 |[],hs2,i,hi,hj,hle=>by
  have hr:=S63.round0_0 b (Fm.dL fs) (Fm.dL gs) i
  have:fs.length≤i:=by have:=congrArg List.length hi;simp at this;omega
  have hbs:hs2=[]:=by rw[←hj];exact List.drop_eq_nil_of_le (by omega)
  subst hbs
  rw[dL_len,if_neg (by simp;omega)]at hr
  exact Lp_exit hr
 |f::es,[],i,hi,hj,hle=>by
  obtain⟨h,_⟩:=drop_split hi
  have:=congrArg List.length hj;simp at this;omega
 |f::es,g::hs2,i,hi,hj,hle=>by
  have hr:=S63.round0_0 b (Fm.dL fs) (Fm.dL gs) i
  obtain⟨hlt,hf,hfs⟩:=drop_split hi
  obtain⟨hlt2,hg,hgs⟩:=drop_split hj
  rw[dL_len,if_pos (by simp;omega),if_pos (by omega),Int.toNat_natCast,dL_get hlt,dL_get hlt2,hf,hg]at hr
  have hm:f∈fs:=hf▸List.getElem_mem hlt
  have hbf:=hb f hm
  cases f with
  |mk op nm ks p=>
   cases g with
   |mk op2 nm2 ks2 p2=>
    have hof:=ofD_d (.mk op nm ks p)
    have hof2:=ofD_d (.mk op2 nm2 ks2 p2)
    simp only[Fm.d]at hr hof hof2
    simp only[hof,hof2,if_true,if_pos hbf,if_pos (show(0:Int)≤(i:Int)by omega),wi (show i≤4096 by omega)]at hr
    simp only[sameL]
    cases hs:sameF (.mk op nm ks p) (.mk op2 nm2 ks2 p2)with
    |false=>
     rw[hs]at hr
     exact Lp_exit hr
    |true=>
     rw[hs]at hr
     rw[Bool.true_and]
     have ih:=eq_loop hl hlg hb es hs2 (i+1) hfs hgs (by omega)
     simp only[Bool.not_true,Bool.false_eq_true,if_false]at hr
     rw[Lp_unfold hr,ih]
theorem ev_eq {b:Option Nat×Option Nat} {fs gs:List Fm} (hl:Nat.ble fs.length 4096=true) (hb:∀f∈fs,bd b.1 f) {γ:Type} (q:List TV→List TV→Option γ):
  evalF Tryz.prog (R2 b) Tryz.f123 [.d true 0 (.sl 5 (Fm.dL fs)),.d true 0 (.sl 5 (Fm.dL gs)),.d true 0 (.fn 114 [])] q=q [.d false 0 (.bool (sameL fs gs))] []:=by
 rw[Nat.ble_eq]at hl
 have st:=S63.start b (Fm.dL fs) (Fm.dL gs) q
 rw[dL_len,dL_len]at st
 refine Eq.trans st ?_
 by_cases hlg:fs.length=gs.length
 ·rw[if_neg (by simp;omega)]
  have h:=eq_loop hl hlg hb fs gs 0 rfl rfl (by omega)
  cases hs:sameL fs gs with
  |true=>
   rw[hs]at h
   exact(goLp_of h).trans (S63.behind0x0 b (Fm.dL fs) (Fm.dL gs) q)
  |false=>
   rw[hs]at h
   exact(goLp_of h).trans (S63.behind0r b (Fm.dL fs) (Fm.dL gs) q)
 ·rw[if_pos (by simp;omega)]
  cases hs:sameL fs gs with
  |true=>exact(hlg (sameL_len hs)).elim
  |false=>rfl
theorem ev_same {b:Option Nat×Option Nat} {f g:Fm} (hs:f.sm=true) (hb:∀n,b.2=some n→f.dep≤n) {γ:Type} (q:List TV→List TV→Option γ):
  evalF Tryz.prog (R2 b) Tryz.f114 [.d true 5 f.d,.d true 5 g.d] q=q [.d false 0 (.bool (sameF f g))] []:=by
 cases f with
 |mk op nm ks p=>
  cases g with
  |mk op2 nm2 ks2 p2=>
   simp only[Fm.sm,Bool.and_eq_true]at hs
   have st:=S29.start b op nm (Fm.dL ks) p op2 nm2 (Fm.dL ks2) p2 q
   have hbl:bdL b.2 ks:=by
    refine⟨hs.1,hs.2,?_⟩
    cases h:b.2 with
    |none=>trivial
    |some n=>have:=hb n h;simp only[Fm.dep]at this;exact this
   simp only[ofDL_d,if_pos hbl]at st
   simp only[Fm.d]
   refine Eq.trans st ?_
   simp only[sameF]
   cases op.toList==op2.toList with
   |false=>rfl
   |true=>
    cases nm.toList==nm2.toList with
    |false=>rfl
    |true=>simp only[if_true,Bool.true_and]
theorem up_same {n:Nat} {m:Option Nat} (h:EnvOk glS Tryz.prog (R2 (some n,some n))):EnvOk glS Tryz.prog (R2 (some (n+1),some n)):=by
 intro β g args k r hr
 simp only[R2,Env.add]at hr
 cases h63:Nat.beq g 123 with
 |true=>simp only[h63]at hr;exact h β g args k r (by simp only[R2,Env.add,h63];exact hr)
 |false=>
  simp only[h63]at hr
  cases h29:Nat.beq g 114 with
  |false=>simp only[h29]at hr;exact h β g args k r (by simp only[R2,Env.add,h63,h29];exact hr)
  |true=>
   simp only[h29]at hr
   have:=Nat.eq_of_beq_eq_true h29
   subst this
   unfold cSame at hr
   split at hr
   ·rename_i x y
    split at hr
    ·rename_i f hf
     split at hr
     ·rename_i g' hg
      unfold chkK at hr
      split at hr
      ·rename_i hb
       rw[d_ofD _ _ hf,d_ofD _ _ hg]
       exact⟨_,_,hr,valid_of h mixed Tryz.func114 (by kernel_rfl) (ev_same (b:=(some n,some n)) hb.1 (fun m hm=>by cases hm;have:=hb.2;simp only at this;omega) _)⟩
      ·cases hr
     ·cases hr
    ·cases hr
   ·cases hr
theorem up_eq {n:Nat} (h:EnvOk glS Tryz.prog (R2 (some (n+1),some n))):EnvOk glS Tryz.prog (R2 (some (n+1),some (n+1))):=by
 intro β g args k r hr
 simp only[R2,Env.add]at hr
 cases h63:Nat.beq g 123 with
 |false=>simp only[h63]at hr;exact h β g args k r (by simp only[R2,Env.add,h63];exact hr)
 |true=>
  simp only[h63]at hr
  have:=Nat.eq_of_beq_eq_true h63
  subst this
  unfold cEq at hr
  split at hr
  ·rename_i xs ys
   split at hr
   ·rename_i fs hf
    split at hr
    ·rename_i gs hg
     unfold chkK at hr
     split at hr
     ·rename_i hb
      rw[dL_ofDL _ _ hf,dL_ofDL _ _ hg]
      exact⟨_,_,hr,valid_of h mixed Tryz.func123 (by kernel_rfl) (ev_eq (b:=(some (n+1),some n)) hb.1 (fun f hf=>⟨sm_mem hb.2.1 hf,by
       have h1:=hb.2.2
       have h2:=dep_mem hf
       simp only at h1
       show f.dep<n+1
       omega⟩) _)⟩
     ·cases hr
    ·cases hr
   ·cases hr
  ·cases hr
theorem envr2:EnvOk glS Tryz.prog (R2 (none,none)):=by
 have key:∀n,EnvOk glS Tryz.prog (R2 (some n,some n)):=by
  intro n
  induction n with
  |zero=>
   intro β g args k r hr
   simp only[R2,Env.add]at hr
   cases h63:Nat.beq g 123 with
   |true=>
    simp only[h63]at hr
    unfold cEq at hr
    split at hr
    ·split at hr
     ·split at hr
      ·unfold chkK at hr
       split at hr
       ·rename_i h;have:=h.2.2;simp only at this;omega
       ·cases hr
      ·cases hr
     ·cases hr
    ·cases hr
   |false=>
    simp only[h63]at hr
    cases h29:Nat.beq g 114 with
    |false=>simp only[h29]at hr;exact envr1 β g args k r hr
    |true=>
     simp only[h29]at hr
     unfold cSame at hr
     split at hr
     ·split at hr
      ·split at hr
       ·unfold chkK at hr
        split at hr
        ·rename_i h;have:=h.2;simp only at this;omega
        ·cases hr
       ·cases hr
      ·cases hr
     ·cases hr
  |succ n ih=>exact up_eq (up_same (m:=none) ih)
 refine EnvOk.lim key fun β g args k r hr=>?_
 simp only[R2,Env.add]at hr ⊢
 cases h63:Nat.beq g 123 with
 |true=>
  simp only[h63]at hr ⊢
  unfold cEq at hr ⊢
  split at hr
  ·split at hr
   ·rename_i fs hf
    split at hr
    ·rename_i gs hg
     unfold chkK at hr
     split at hr
     ·rename_i h
      exact⟨Fm.depL fs+1,by simp only[hf,hg,chkK];rw[if_pos ⟨h.1,h.2.1,Nat.lt_succ_self _⟩];exact hr⟩
     ·cases hr
    ·cases hr
   ·cases hr
  ·cases hr
 |false=>
  simp only[h63]at hr ⊢
  cases h29:Nat.beq g 114 with
  |false=>simp only[h29]at hr ⊢;exact⟨0,hr⟩
  |true=>
   simp only[h29]at hr ⊢
   unfold cSame at hr ⊢
   split at hr
   ·split at hr
    ·rename_i f hf
     split at hr
     ·rename_i g' hg
      unfold chkK at hr
      split at hr
      ·rename_i h
       exact⟨f.dep+1,by simp only[hf,hg,chkK];rw[if_pos (bd_at h)];exact hr⟩
      ·cases hr
     ·cases hr
    ·cases hr
   ·cases hr
end Go.Sd
namespace Go.Sd
open Go Go.Cm Go.Proofs Go.Sc
set_option maxRecDepth 100000
def R3:Env:=R2 (none,none)
def cKids {β:Type} (args:List TV) (k:List TV→List TV→Option β):Option β:=
 match args with
 |[.d true 0 (.str op)]=>k [.d false 0 (.int .i64 (kidsN op))] []
 |_=>none
def R4:Env:=R3.add 58 io0 cKids
def cForm {β:Type} (b:Option Nat) (args:List TV) (k:List TV→List TV→Option β):Option β:=
 match args with
 |[.d true 5 x]=>match ofD x with
  |some f=>chkK (bd b f) (k [.d false 0 (.bool (formF f))] [])
  |none=>none
 |_=>none
def R5 (b:Option Nat):Env:=R4.add 51 io0 (cForm b)
def cIsN {β:Type} (b:Option Nat) (args:List TV) (k:List TV→List TV→Option β):Option β:=
 match args with
 |[.d true 5 x]=>match ofD x with
  |some f=>chkK (bd b f) (k [.d false 0 (.bool (isF f))] [])
  |none=>none
 |_=>none
def R6 (b:Option Nat):Env:=(R5 none).add 37 io0 (cIsN b)
def cConst {β:Type} (args:List TV) (k:List TV→List TV→Option β):Option β:=
 match args with
 |[.d true 5 (.ag [.str op,.str nm,.sl 5 ks,.int .i64 p])]=>k [.d false 0 (.bool (constB op))] []
 |_=>none
def cPlain {β:Type} (args:List TV) (k:List TV→List TV→Option β):Option β:=
 match args with
 |[.d true 0 (.str op)]=>k [.d true 5 (fmD op ⟨#[]⟩ [] 0)] []
 |_=>none
def cNode {β:Type} (args:List TV) (k:List TV→List TV→Option β):Option β:=
 match args with
 |[.d true 0 (.str op),.d true 0 (.sl 5 ks)]=>k [.d true 5 (fmD op ⟨#[]⟩ ks 0)] []
 |_=>none
def cDual {β:Type} (args:List TV) (k:List TV→List TV→Option β):Option β:=
 match args with
 |[.d true 0 (.str op)]=>k [.d false 0 (.str (dualB op))] []
 |_=>none
def cSpent {β:Type} (args:List TV) (k:List TV→List TV→Option β):Option β:=
 match args with
 |[.ob true [.d false 0 (.int .i64 l)]]=>chkK (-1099511627776≤l∧l≤1099511627776) (k [.d false 0 (.bool (decide (l - 1<0)))] [.ob true [.d false 0 (.int .i64 (l - 1))]])
 |_=>none
def R7:Env:=(R6 none).add 88 io0 cConst
def R8:Env:=R7.add 86 io0 cPlain
def R9:Env:=R8.add 82 io0 cNode
def R10:Env:=R9.add 81 io0 cDual
def R11:Env:=R10.add 80 io1 cSpent
end Go.Sd
namespace Go.Sd
open Go Go.Cm Go.Proofs Go.Sc
set_option maxRecDepth 100000
namespace K58
noncomputable def X:Fx:=⟨Tryz.prog,R3,4,1⟩
theorem start {β:Type} (op:ByteArray) (k:List TV→List TV→Option β):evalF Tryz.prog R3 Tryz.f58 [.d true 0 (.str op)] k=if(op.toList==[116,114,117,101])=true then if(op.toList==[116,114,117,101])=true then k [.d false 0 (.int .i64 0)] []else if(op.toList==[33])=true then if(op.toList==[33])=true then k [.d false 0 (.int .i64 1)] []else if(op.toList==[38])=true then if(op.toList==[38])=true then k [.d false 0 (.int .i64 2)] []else if(op.toList==[85])=true then if(op.toList==[85])=true then k [.d false 0 (.int .i64 2)] []else k [.d false 0 (.int .i64 (-1:Int))] []else if(op.toList==[87])=true then if(op.toList==[87])=true then k [.d false 0 (.int .i64 2)] []else k [.d false 0 (.int .i64 (-1:Int))] []else if(op.toList==[82])=true then k [.d false 0 (.int .i64 2)] []else k [.d false 0 (.int .i64 (-1:Int))] []else if(op.toList==[124])=true then if(op.toList==[124])=true then k [.d false 0 (.int .i64 2)] []else if(op.toList==[85])=true then if(op.toList==[85])=true then k [.d false 0 (.int .i64 2)] []else k [.d false 0 (.int .i64 (-1:Int))] []else if(op.toList==[87])=true then if(op.toList==[87])=true then k [.d false 0 (.int .i64 2)] []else k [.d false 0 (.int .i64 (-1:Int))] []else if(op.toList==[82])=true then k [.d false 0 (.int .i64 2)] []else k [.d false 0 (.int .i64 (-1:Int))] []else if(op.toList==[61,62])=true then k [.d false 0 (.int .i64 2)] []else if(op.toList==[85])=true then if(op.toList==[85])=true then k [.d false 0 (.int .i64 2)] []else k [.d false 0 (.int .i64 (-1:Int))] []else if(op.toList==[87])=true then if(op.toList==[87])=true then k [.d false 0 (.int .i64 2)] []else k [.d false 0 (.int .i64 (-1:Int))] []else if(op.toList==[82])=true then k [.d false 0 (.int .i64 2)] []else k [.d false 0 (.int .i64 (-1:Int))] []else if(op.toList==[88])=true then if(op.toList==[88])=true then k [.d false 0 (.int .i64 1)] []else if(op.toList==[38])=true then if(op.toList==[38])=true then k [.d false 0 (.int .i64 2)] []else if(op.toList==[85])=true then if(op.toList==[85])=true then k [.d false 0 (.int .i64 2)] []else k [.d false 0 (.int .i64 (-1:Int))] []else if(op.toList==[87])=true then if(op.toList==[87])=true then k [.d false 0 (.int .i64 2)] []else k [.d false 0 (.int .i64 (-1:Int))] []else if(op.toList==[82])=true then k [.d false 0 (.int .i64 2)] []else k [.d false 0 (.int .i64 (-1:Int))] []else if(op.toList==[124])=true then if(op.toList==[124])=true then k [.d false 0 (.int .i64 2)] []else if(op.toList==[85])=true then if(op.toList==[85])=true then k [.d false 0 (.int .i64 2)] []else k [.d false 0 (.int .i64 (-1:Int))] []else if(op.toList==[87])=true then if(op.toList==[87])=true then k [.d false 0 (.int .i64 2)] []else k [.d false 0 (.int .i64 (-1:Int))] []else if(op.toList==[82])=true then k [.d false 0 (.int .i64 2)] []else k [.d false 0 (.int .i64 (-1:Int))] []else if(op.toList==[61,62])=true then k [.d false 0 (.int .i64 2)] []else if(op.toList==[85])=true then if(op.toList==[85])=true then k [.d false 0 (.int .i64 2)] []else k [.d false 0 (.int .i64 (-1:Int))] []else if(op.toList==[87])=true then if(op.toList==[87])=true then k [.d false 0 (.int .i64 2)] []else k [.d false 0 (.int .i64 (-1:Int))] []else if(op.toList==[82])=true then k [.d false 0 (.int .i64 2)] []else k [.d false 0 (.int .i64 (-1:Int))] []else if(op.toList==[70])=true then if(op.toList==[70])=true then k [.d false 0 (.int .i64 1)] []else if(op.toList==[38])=true then if(op.toList==[38])=true then k [.d false 0 (.int .i64 2)] []else if(op.toList==[85])=true then if(op.toList==[85])=true then k [.d false 0 (.int .i64 2)] []else k [.d false 0 (.int .i64 (-1:Int))] []else if(op.toList==[87])=true then if(op.toList==[87])=true then k [.d false 0 (.int .i64 2)] []else k [.d false 0 (.int .i64 (-1:Int))] []else if(op.toList==[82])=true then k [.d false 0 (.int .i64 2)] []else k [.d false 0 (.int .i64 (-1:Int))] []else if(op.toList==[124])=true then if(op.toList==[124])=true then k [.d false 0 (.int .i64 2)] []else if(op.toList==[85])=true then if(op.toList==[85])=true then k [.d false 0 (.int .i64 2)] []else k [.d false 0 (.int .i64 (-1:Int))] []else if(op.toList==[87])=true then if(op.toList==[87])=true then k [.d false 0 (.int .i64 2)] []else k [.d false 0 (.int .i64 (-1:Int))] []else if(op.toList==[82])=true then k [.d false 0 (.int .i64 2)] []else k [.d false 0 (.int .i64 (-1:Int))] []else if(op.toList==[61,62])=true then k [.d false 0 (.int .i64 2)] []else if(op.toList==[85])=true then if(op.toList==[85])=true then k [.d false 0 (.int .i64 2)] []else k [.d false 0 (.int .i64 (-1:Int))] []else if(op.toList==[87])=true then if(op.toList==[87])=true then k [.d false 0 (.int .i64 2)] []else k [.d false 0 (.int .i64 (-1:Int))] []else if(op.toList==[82])=true then k [.d false 0 (.int .i64 2)] []else k [.d false 0 (.int .i64 (-1:Int))] []else if(op.toList==[71])=true then k [.d false 0 (.int .i64 1)] []else if(op.toList==[38])=true then if(op.toList==[38])=true then k [.d false 0 (.int .i64 2)] []else if(op.toList==[85])=true then if(op.toList==[85])=true then k [.d false 0 (.int .i64 2)] []else k [.d false 0 (.int .i64 (-1:Int))] []else if(op.toList==[87])=true then if(op.toList==[87])=true then k [.d false 0 (.int .i64 2)] []else k [.d false 0 (.int .i64 (-1:Int))] []else if(op.toList==[82])=true then k [.d false 0 (.int .i64 2)] []else k [.d false 0 (.int .i64 (-1:Int))] []else if(op.toList==[124])=true then if(op.toList==[124])=true then k [.d false 0 (.int .i64 2)] []else if(op.toList==[85])=true then if(op.toList==[85])=true then k [.d false 0 (.int .i64 2)] []else k [.d false 0 (.int .i64 (-1:Int))] []else if(op.toList==[87])=true then if(op.toList==[87])=true then k [.d false 0 (.int .i64 2)] []else k [.d false 0 (.int .i64 (-1:Int))] []else if(op.toList==[82])=true then k [.d false 0 (.int .i64 2)] []else k [.d false 0 (.int .i64 (-1:Int))] []else if(op.toList==[61,62])=true then k [.d false 0 (.int .i64 2)] []else if(op.toList==[85])=true then if(op.toList==[85])=true then k [.d false 0 (.int .i64 2)] []else k [.d false 0 (.int .i64 (-1:Int))] []else if(op.toList==[87])=true then if(op.toList==[87])=true then k [.d false 0 (.int .i64 2)] []else k [.d false 0 (.int .i64 (-1:Int))] []else if(op.toList==[82])=true then k [.d false 0 (.int .i64 2)] []else k [.d false 0 (.int .i64 (-1:Int))] []else if(op.toList==[102,97,108,115,101])=true then if(op.toList==[102,97,108,115,101])=true then k [.d false 0 (.int .i64 0)] []else if(op.toList==[33])=true then if(op.toList==[33])=true then k [.d false 0 (.int .i64 1)] []else if(op.toList==[38])=true then if(op.toList==[38])=true then k [.d false 0 (.int .i64 2)] []else if(op.toList==[85])=true then if(op.toList==[85])=true then k [.d false 0 (.int .i64 2)] []else k [.d false 0 (.int .i64 (-1:Int))] []else if(op.toList==[87])=true then if(op.toList==[87])=true then k [.d false 0 (.int .i64 2)] []else k [.d false 0 (.int .i64 (-1:Int))] []else if(op.toList==[82])=true then k [.d false 0 (.int .i64 2)] []else k [.d false 0 (.int .i64 (-1:Int))] []else if(op.toList==[124])=true then if(op.toList==[124])=true then k [.d false 0 (.int .i64 2)] []else if(op.toList==[85])=true then if(op.toList==[85])=true then k [.d false 0 (.int .i64 2)] []else k [.d false 0 (.int .i64 (-1:Int))] []else if(op.toList==[87])=true then if(op.toList==[87])=true then k [.d false 0 (.int .i64 2)] []else k [.d false 0 (.int .i64 (-1:Int))] []else if(op.toList==[82])=true then k [.d false 0 (.int .i64 2)] []else k [.d false 0 (.int .i64 (-1:Int))] []else if(op.toList==[61,62])=true then k [.d false 0 (.int .i64 2)] []else if(op.toList==[85])=true then if(op.toList==[85])=true then k [.d false 0 (.int .i64 2)] []else k [.d false 0 (.int .i64 (-1:Int))] []else if(op.toList==[87])=true then if(op.toList==[87])=true then k [.d false 0 (.int .i64 2)] []else k [.d false 0 (.int .i64 (-1:Int))] []else if(op.toList==[82])=true then k [.d false 0 (.int .i64 2)] []else k [.d false 0 (.int .i64 (-1:Int))] []else if(op.toList==[88])=true then if(op.toList==[88])=true then k [.d false 0 (.int .i64 1)] []else if(op.toList==[38])=true then if(op.toList==[38])=true then k [.d false 0 (.int .i64 2)] []else if(op.toList==[85])=true then if(op.toList==[85])=true then k [.d false 0 (.int .i64 2)] []else k [.d false 0 (.int .i64 (-1:Int))] []else if(op.toList==[87])=true then if(op.toList==[87])=true then k [.d false 0 (.int .i64 2)] []else k [.d false 0 (.int .i64 (-1:Int))] []else if(op.toList==[82])=true then k [.d false 0 (.int .i64 2)] []else k [.d false 0 (.int .i64 (-1:Int))] []else if(op.toList==[124])=true then if(op.toList==[124])=true then k [.d false 0 (.int .i64 2)] []else if(op.toList==[85])=true then if(op.toList==[85])=true then k [.d false 0 (.int .i64 2)] []else k [.d false 0 (.int .i64 (-1:Int))] []else if(op.toList==[87])=true then if(op.toList==[87])=true then k [.d false 0 (.int .i64 2)] []else k [.d false 0 (.int .i64 (-1:Int))] []else if(op.toList==[82])=true then k [.d false 0 (.int .i64 2)] []else k [.d false 0 (.int .i64 (-1:Int))] []else if(op.toList==[61,62])=true then k [.d false 0 (.int .i64 2)] []else if(op.toList==[85])=true then if(op.toList==[85])=true then k [.d false 0 (.int .i64 2)] []else k [.d false 0 (.int .i64 (-1:Int))] []else if(op.toList==[87])=true then if(op.toList==[87])=true then k [.d false 0 (.int .i64 2)] []else k [.d false 0 (.int .i64 (-1:Int))] []else if(op.toList==[82])=true then k [.d false 0 (.int .i64 2)] []else k [.d false 0 (.int .i64 (-1:Int))] []else if(op.toList==[70])=true then if(op.toList==[70])=true then k [.d false 0 (.int .i64 1)] []else if(op.toList==[38])=true then if(op.toList==[38])=true then k [.d false 0 (.int .i64 2)] []else if(op.toList==[85])=true then if(op.toList==[85])=true then k [.d false 0 (.int .i64 2)] []else k [.d false 0 (.int .i64 (-1:Int))] []else if(op.toList==[87])=true then if(op.toList==[87])=true then k [.d false 0 (.int .i64 2)] []else k [.d false 0 (.int .i64 (-1:Int))] []else if(op.toList==[82])=true then k [.d false 0 (.int .i64 2)] []else k [.d false 0 (.int .i64 (-1:Int))] []else if(op.toList==[124])=true then if(op.toList==[124])=true then k [.d false 0 (.int .i64 2)] []else if(op.toList==[85])=true then if(op.toList==[85])=true then k [.d false 0 (.int .i64 2)] []else k [.d false 0 (.int .i64 (-1:Int))] []else if(op.toList==[87])=true then if(op.toList==[87])=true then k [.d false 0 (.int .i64 2)] []else k [.d false 0 (.int .i64 (-1:Int))] []else if(op.toList==[82])=true then k [.d false 0 (.int .i64 2)] []else k [.d false 0 (.int .i64 (-1:Int))] []else if(op.toList==[61,62])=true then k [.d false 0 (.int .i64 2)] []else if(op.toList==[85])=true then if(op.toList==[85])=true then k [.d false 0 (.int .i64 2)] []else k [.d false 0 (.int .i64 (-1:Int))] []else if(op.toList==[87])=true then if(op.toList==[87])=true then k [.d false 0 (.int .i64 2)] []else k [.d false 0 (.int .i64 (-1:Int))] []else if(op.toList==[82])=true then k [.d false 0 (.int .i64 2)] []else k [.d false 0 (.int .i64 (-1:Int))] []else if(op.toList==[71])=true then k [.d false 0 (.int .i64 1)] []else if(op.toList==[38])=true then if(op.toList==[38])=true then k [.d false 0 (.int .i64 2)] []else if(op.toList==[85])=true then if(op.toList==[85])=true then k [.d false 0 (.int .i64 2)] []else k [.d false 0 (.int .i64 (-1:Int))] []else if(op.toList==[87])=true then if(op.toList==[87])=true then k [.d false 0 (.int .i64 2)] []else k [.d false 0 (.int .i64 (-1:Int))] []else if(op.toList==[82])=true then k [.d false 0 (.int .i64 2)] []else k [.d false 0 (.int .i64 (-1:Int))] []else if(op.toList==[124])=true then if(op.toList==[124])=true then k [.d false 0 (.int .i64 2)] []else if(op.toList==[85])=true then if(op.toList==[85])=true then k [.d false 0 (.int .i64 2)] []else k [.d false 0 (.int .i64 (-1:Int))] []else if(op.toList==[87])=true then if(op.toList==[87])=true then k [.d false 0 (.int .i64 2)] []else k [.d false 0 (.int .i64 (-1:Int))] []else if(op.toList==[82])=true then k [.d false 0 (.int .i64 2)] []else k [.d false 0 (.int .i64 (-1:Int))] []else if(op.toList==[61,62])=true then k [.d false 0 (.int .i64 2)] []else if(op.toList==[85])=true then if(op.toList==[85])=true then k [.d false 0 (.int .i64 2)] []else k [.d false 0 (.int .i64 (-1:Int))] []else if(op.toList==[87])=true then if(op.toList==[87])=true then k [.d false 0 (.int .i64 2)] []else k [.d false 0 (.int .i64 (-1:Int))] []else if(op.toList==[82])=true then k [.d false 0 (.int .i64 2)] []else k [.d false 0 (.int .i64 (-1:Int))] []else if(op.toList==[108,97,98,101,108])=true then k [.d false 0 (.int .i64 0)] []else if(op.toList==[33])=true then if(op.toList==[33])=true then k [.d false 0 (.int .i64 1)] []else if(op.toList==[38])=true then if(op.toList==[38])=true then k [.d false 0 (.int .i64 2)] []else if(op.toList==[85])=true then if(op.toList==[85])=true then k [.d false 0 (.int .i64 2)] []else k [.d false 0 (.int .i64 (-1:Int))] []else if(op.toList==[87])=true then if(op.toList==[87])=true then k [.d false 0 (.int .i64 2)] []else k [.d false 0 (.int .i64 (-1:Int))] []else if(op.toList==[82])=true then k [.d false 0 (.int .i64 2)] []else k [.d false 0 (.int .i64 (-1:Int))] []else if(op.toList==[124])=true then if(op.toList==[124])=true then k [.d false 0 (.int .i64 2)] []else if(op.toList==[85])=true then if(op.toList==[85])=true then k [.d false 0 (.int .i64 2)] []else k [.d false 0 (.int .i64 (-1:Int))] []else if(op.toList==[87])=true then if(op.toList==[87])=true then k [.d false 0 (.int .i64 2)] []else k [.d false 0 (.int .i64 (-1:Int))] []else if(op.toList==[82])=true then k [.d false 0 (.int .i64 2)] []else k [.d false 0 (.int .i64 (-1:Int))] []else if(op.toList==[61,62])=true then k [.d false 0 (.int .i64 2)] []else if(op.toList==[85])=true then if(op.toList==[85])=true then k [.d false 0 (.int .i64 2)] []else k [.d false 0 (.int .i64 (-1:Int))] []else if(op.toList==[87])=true then if(op.toList==[87])=true then k [.d false 0 (.int .i64 2)] []else k [.d false 0 (.int .i64 (-1:Int))] []else if(op.toList==[82])=true then k [.d false 0 (.int .i64 2)] []else k [.d false 0 (.int .i64 (-1:Int))] []else if(op.toList==[88])=true then if(op.toList==[88])=true then k [.d false 0 (.int .i64 1)] []else if(op.toList==[38])=true then if(op.toList==[38])=true then k [.d false 0 (.int .i64 2)] []else if(op.toList==[85])=true then if(op.toList==[85])=true then k [.d false 0 (.int .i64 2)] []else k [.d false 0 (.int .i64 (-1:Int))] []else if(op.toList==[87])=true then if(op.toList==[87])=true then k [.d false 0 (.int .i64 2)] []else k [.d false 0 (.int .i64 (-1:Int))] []else if(op.toList==[82])=true then k [.d false 0 (.int .i64 2)] []else k [.d false 0 (.int .i64 (-1:Int))] []else if(op.toList==[124])=true then if(op.toList==[124])=true then k [.d false 0 (.int .i64 2)] []else if(op.toList==[85])=true then if(op.toList==[85])=true then k [.d false 0 (.int .i64 2)] []else k [.d false 0 (.int .i64 (-1:Int))] []else if(op.toList==[87])=true then if(op.toList==[87])=true then k [.d false 0 (.int .i64 2)] []else k [.d false 0 (.int .i64 (-1:Int))] []else if(op.toList==[82])=true then k [.d false 0 (.int .i64 2)] []else k [.d false 0 (.int .i64 (-1:Int))] []else if(op.toList==[61,62])=true then k [.d false 0 (.int .i64 2)] []else if(op.toList==[85])=true then if(op.toList==[85])=true then k [.d false 0 (.int .i64 2)] []else k [.d false 0 (.int .i64 (-1:Int))] []else if(op.toList==[87])=true then if(op.toList==[87])=true then k [.d false 0 (.int .i64 2)] []else k [.d false 0 (.int .i64 (-1:Int))] []else if(op.toList==[82])=true then k [.d false 0 (.int .i64 2)] []else k [.d false 0 (.int .i64 (-1:Int))] []else if(op.toList==[70])=true then if(op.toList==[70])=true then k [.d false 0 (.int .i64 1)] []else if(op.toList==[38])=true then if(op.toList==[38])=true then k [.d false 0 (.int .i64 2)] []else if(op.toList==[85])=true then if(op.toList==[85])=true then k [.d false 0 (.int .i64 2)] []else k [.d false 0 (.int .i64 (-1:Int))] []else if(op.toList==[87])=true then if(op.toList==[87])=true then k [.d false 0 (.int .i64 2)] []else k [.d false 0 (.int .i64 (-1:Int))] []else if(op.toList==[82])=true then k [.d false 0 (.int .i64 2)] []else k [.d false 0 (.int .i64 (-1:Int))] []else if(op.toList==[124])=true then if(op.toList==[124])=true then k [.d false 0 (.int .i64 2)] []else if(op.toList==[85])=true then if(op.toList==[85])=true then k [.d false 0 (.int .i64 2)] []else k [.d false 0 (.int .i64 (-1:Int))] []else if(op.toList==[87])=true then if(op.toList==[87])=true then k [.d false 0 (.int .i64 2)] []else k [.d false 0 (.int .i64 (-1:Int))] []else if(op.toList==[82])=true then k [.d false 0 (.int .i64 2)] []else k [.d false 0 (.int .i64 (-1:Int))] []else if(op.toList==[61,62])=true then k [.d false 0 (.int .i64 2)] []else if(op.toList==[85])=true then if(op.toList==[85])=true then k [.d false 0 (.int .i64 2)] []else k [.d false 0 (.int .i64 (-1:Int))] []else if(op.toList==[87])=true then if(op.toList==[87])=true then k [.d false 0 (.int .i64 2)] []else k [.d false 0 (.int .i64 (-1:Int))] []else if(op.toList==[82])=true then k [.d false 0 (.int .i64 2)] []else k [.d false 0 (.int .i64 (-1:Int))] []else if(op.toList==[71])=true then k [.d false 0 (.int .i64 1)] []else if(op.toList==[38])=true then if(op.toList==[38])=true then k [.d false 0 (.int .i64 2)] []else if(op.toList==[85])=true then if(op.toList==[85])=true then k [.d false 0 (.int .i64 2)] []else k [.d false 0 (.int .i64 (-1:Int))] []else if(op.toList==[87])=true then if(op.toList==[87])=true then k [.d false 0 (.int .i64 2)] []else k [.d false 0 (.int .i64 (-1:Int))] []else if(op.toList==[82])=true then k [.d false 0 (.int .i64 2)] []else k [.d false 0 (.int .i64 (-1:Int))] []else if(op.toList==[124])=true then if(op.toList==[124])=true then k [.d false 0 (.int .i64 2)] []else if(op.toList==[85])=true then if(op.toList==[85])=true then k [.d false 0 (.int .i64 2)] []else k [.d false 0 (.int .i64 (-1:Int))] []else if(op.toList==[87])=true then if(op.toList==[87])=true then k [.d false 0 (.int .i64 2)] []else k [.d false 0 (.int .i64 (-1:Int))] []else if(op.toList==[82])=true then k [.d false 0 (.int .i64 2)] []else k [.d false 0 (.int .i64 (-1:Int))] []else if(op.toList==[61,62])=true then k [.d false 0 (.int .i64 2)] []else if(op.toList==[85])=true then if(op.toList==[85])=true then k [.d false 0 (.int .i64 2)] []else k [.d false 0 (.int .i64 (-1:Int))] []else if(op.toList==[87])=true then if(op.toList==[87])=true then k [.d false 0 (.int .i64 2)] []else k [.d false 0 (.int .i64 (-1:Int))] []else if(op.toList==[82])=true then k [.d false 0 (.int .i64 2)] []else k [.d false 0 (.int .i64 (-1:Int))] []:=by kernel_rfl
end K58
namespace K89
noncomputable def X:Fx:=⟨Tryz.prog,R6 none,4,1⟩
theorem start {β:Type} (op:ByteArray) (nm:ByteArray) (ks:List D) (p:Int) (k:List TV→List TV→Option β):evalF Tryz.prog (R6 none) Tryz.f88 [.d true 5 (.ag [D.str op,D.str nm,D.sl 5 ks,D.int .i64 p])] k=if(op.toList==[116,114,117,101])=true then k [.d false 0 (.bool true)] []else k [.d false 0 (.bool (op.toList==[102,97,108,115,101]))] []:=by kernel_rfl
end K89
namespace K88
noncomputable def X:Fx:=⟨Tryz.prog,R7,4,1⟩
theorem start {β:Type} (op:ByteArray) (k:List TV→List TV→Option β):evalF Tryz.prog R7 Tryz.f86 [.d true 0 (.str op)] k=k [.d true 5 (.ag [D.str op,D.str (ByteArray.mk #[]),D.sl 5 [],D.int .i64 0])] []:=by kernel_rfl
end K88
namespace K84
noncomputable def X:Fx:=⟨Tryz.prog,R8,16,2⟩
theorem start {β:Type} (op:ByteArray) (ks:List D) (k:List TV→List TV→Option β):evalF Tryz.prog R8 Tryz.f82 [.d true 0 (.str op),.d true 0 (.sl 5 ks)] k=k [.d true 5 (.ag [D.str op,D.str (ByteArray.mk #[]),D.sl 5 ks,D.int .i64 0])] []:=by kernel_rfl
end K84
namespace K83
noncomputable def X:Fx:=⟨Tryz.prog,R9,4,1⟩
theorem start {β:Type} (op:ByteArray) (k:List TV→List TV→Option β):evalF Tryz.prog R9 Tryz.f81 [.d true 0 (.str op)] k=if(op.toList==[116,114,117,101])=true then k [.d false 0 (.str (ByteArray.mk #[102,97,108,115,101]))] []else if(op.toList==[102,97,108,115,101])=true then k [.d false 0 (.str (ByteArray.mk #[116,114,117,101]))] []else if(op.toList==[38])=true then k [.d false 0 (.str (ByteArray.mk #[124]))] []else if(op.toList==[124])=true then k [.d false 0 (.str (ByteArray.mk #[38]))] []else if(op.toList==[85])=true then k [.d false 0 (.str (ByteArray.mk #[82]))] []else if(op.toList==[82])=true then k [.d false 0 (.str (ByteArray.mk #[85]))] []else k [.d false 0 (.str op)] []:=by kernel_rfl
end K83
namespace K82
noncomputable def X:Fx:=⟨Tryz.prog,R10,4,1⟩
theorem start {β:Type} (l:Int) (k:List TV→List TV→Option β):evalF Tryz.prog R10 Tryz.f80 [.ob true [.d false 0 (.int .i64 l)]] k=k [.d false 0 (.bool (decide (IntKind.wrap .i64 (l - 1)<0)))] [.ob true [.d false 0 (.int .i64 (IntKind.wrap .i64 (l - 1)))]]:=by kernel_rfl
end K82
end Go.Sd
namespace Go.Sd
open Go Go.Cm Go.Proofs Go.Sc
set_option maxRecDepth 100000
namespace K59
  section
  variable (b:Option Nat)
noncomputable def X:Fx:=⟨Tryz.prog,R5 b,4,1⟩
def s0 (ks:List D) (x61:Int):S:=⟨Tm.mk 23 [(13,.d true 0 (.sl 5 ks)),(14,.d false 0 (.int .i64 (ks.length:Int))),(15,.d false 0 (.int .i64 x61))],[]⟩
def e0r:S:=⟨Tm.mk 23 [(2,.d false 0 (.bool false))],[]⟩
def e0x0:S:=⟨Tm.mk 23 [],[]⟩
noncomputable abbrev L0:S→Option (S ⊕ (Ex×S)):=roundK (X b) [(0,0)] (sub [1,1,0,1,0,0] (body Tryz.f51))
theorem start {β:Type} (op:ByteArray) (nm:ByteArray) (ks:List D) (p:Int) (k:List TV→List TV→Option β):evalF Tryz.prog (R5 b) Tryz.f51 [.d true 5 (.ag [D.str op,D.str nm,D.sl 5 ks,D.int .i64 p])] k=if(!kidsN op==(ks.length:Int))=true then k [.d false 0 (.bool false)] []else goLp (X b) [(0,0)] (sub [1,1,0,1,0,0] (body Tryz.f51)) [Kf.block 0 0,Kf.seq [] (sub [1,1,1] (body Tryz.f51)) 4] (finK Tryz.prog Tryz.f51 [.d true 5 (.ag [D.str op,D.str nm,D.sl 5 ks,D.int .i64 p])] k) (s0 ks (0:Int)):=by kernel_rfl
theorem round0_0 (ks:List D) (x60:Int):roundK (X b) [(0,0)] (sub [1,1,0,1,0,0] (body Tryz.f51)) (s0 ks x60)=if decide (x60<(ks.length:Int))=true then if 0≤x60 then match ks[x60.toNat]? with
   |some x71=>match x71 with
    |D.ag xs72=>match xs72 with
     |x73::r74=>match x73 with
      |D.str s75=>match r74 with
       |x76::r77=>match x76 with
        |D.str s78=>match r77 with
         |x79::r80=>match x79 with
          |D.sl sh81 xs82=>if sh81=5 then match r80 with
           |x83::r84=>match x83 with
            |D.int j85 m86=>if j85=IntKind.i64 then match r84 with
             |[]=>match ofD (.ag [D.str s75,D.str s78,D.sl 5 xs82,D.int .i64 m86])with
              |some f89=>if bd b f89 then if(!formF f89)=true then some (Sum.inr (Ex.ret,e0r))else some (Sum.inl (s0 ks (IntKind.wrap .i64 (x60+1))))else none
              |none=>none
             |x=>none else none
            |x=>none
           |[]=>none else none
          |x=>none
         |[]=>none
        |x=>none
       |[]=>none
      |x=>none
     |[]=>none
    |x=>none
   |none=>none else none else some (Sum.inr (Ex.exit 0,e0x0)):=by kernel_rfl
theorem behind0r {β:Type} (op:ByteArray) (nm:ByteArray) (ks:List D) (p:Int) (k:List TV→List TV→Option β):applyK (X b) (finK Tryz.prog Tryz.f51 [.d true 5 (.ag [D.str op,D.str nm,D.sl 5 ks,D.int .i64 p])] k) [Kf.block 0 0,Kf.seq [] (sub [1,1,1] (body Tryz.f51)) 4] Ex.ret e0r=k [.d false 0 (.bool false)] []:=by kernel_rfl
theorem behind0x0 {β:Type} (op:ByteArray) (nm:ByteArray) (ks:List D) (p:Int) (k:List TV→List TV→Option β):applyK (X b) (finK Tryz.prog Tryz.f51 [.d true 5 (.ag [D.str op,D.str nm,D.sl 5 ks,D.int .i64 p])] k) [Kf.block 0 0,Kf.seq [] (sub [1,1,1] (body Tryz.f51)) 4] (Ex.exit 0) e0x0=k [.d false 0 (.bool true)] []:=by kernel_rfl
end
end K59
end Go.Sd
namespace Go.Sd
open Go Go.Cm Go.Proofs Go.Sc
set_option maxRecDepth 100000
namespace K26
  section
  variable (b:Option Nat)
noncomputable def X:Fx:=⟨Tryz.prog,R6 b,4,1⟩
def s0 (ks:List D) (x129:Int):S:=⟨Tm.mk 53 [(43,.d true 0 (.sl 5 ks)),(44,.d false 0 (.int .i64 (ks.length:Int))),(45,.d false 0 (.int .i64 x129))],[]⟩
def e0r:S:=⟨Tm.mk 53 [(2,.d false 0 (.bool false))],[]⟩
def e0x1:S:=⟨Tm.mk 53 [],[]⟩
noncomputable abbrev L0:S→Option (S ⊕ (Ex×S)):=roundK (X b) [(1,0)] (sub [1,1,1,0,1,0,0] (body Tryz.f37))
theorem start {β:Type} (op:ByteArray) (nm:ByteArray) (ks:List D) (p:Int) (k:List TV→List TV→Option β):evalF Tryz.prog (R6 b) Tryz.f37 [.d true 5 (.ag [D.str op,D.str nm,D.sl 5 ks,D.int .i64 p])] k=if(op.toList==[70])=true then if(op.toList==[70])=true then k [.d false 0 (.bool false)] []else if(op.toList==[33])=true then if((ks.length:Int)==1)=true then match ks[0]? with
   |some x140=>match match x140 with
    |D.ag xs=>xs[0]?
    |x=>none with
    |some y141=>match y141 with
     |D.str s142=>if(s142.toList==[108,97,98,101,108])=true then match ks[0]? with
      |some x143=>match match x143 with
       |D.ag xs=>xs[2]?
       |x=>none with
       |some y144=>match y144 with
        |D.sl sh145 xs146=>if sh145=5 then k [.d false 0 (.bool ((xs146.length:Int)==0))] []else none
        |x=>none
       |none=>none
      |none=>none else k [.d false 0 (.bool false)] []
     |x=>none
    |none=>none
   |none=>none else k [.d false 0 (.bool false)] []else if(!kidsN op==(ks.length:Int))=true then k [.d false 0 (.bool false)] []else goLp (X b) [(1,0)] (sub [1,1,1,0,1,0,0] (body Tryz.f37)) [Kf.block 1 0,Kf.seq [] (sub [1,1,1,1] (body Tryz.f37)) 4] (finK Tryz.prog Tryz.f37 [.d true 5 (.ag [D.str op,D.str nm,D.sl 5 ks,D.int .i64 p])] k) (s0 ks (0:Int))else if(op.toList==[71])=true then if(op.toList==[71])=true then k [.d false 0 (.bool false)] []else if(op.toList==[33])=true then if((ks.length:Int)==1)=true then match ks[0]? with
    |some x158=>match match x158 with
     |D.ag xs=>xs[0]?
     |x=>none with
     |some y159=>match y159 with
      |D.str s160=>if(s160.toList==[108,97,98,101,108])=true then match ks[0]? with
       |some x161=>match match x161 with
        |D.ag xs=>xs[2]?
        |x=>none with
        |some y162=>match y162 with
         |D.sl sh163 xs164=>if sh163=5 then k [.d false 0 (.bool ((xs164.length:Int)==0))] []else none
         |x=>none
        |none=>none
       |none=>none else k [.d false 0 (.bool false)] []
      |x=>none
     |none=>none
    |none=>none else k [.d false 0 (.bool false)] []else if(!kidsN op==(ks.length:Int))=true then k [.d false 0 (.bool false)] []else goLp (X b) [(1,0)] (sub [1,1,1,0,1,0,0] (body Tryz.f37)) [Kf.block 1 0,Kf.seq [] (sub [1,1,1,1] (body Tryz.f37)) 4] (finK Tryz.prog Tryz.f37 [.d true 5 (.ag [D.str op,D.str nm,D.sl 5 ks,D.int .i64 p])] k) (s0 ks (0:Int))else if(op.toList==[87])=true then if(op.toList==[87])=true then k [.d false 0 (.bool false)] []else if(op.toList==[33])=true then if((ks.length:Int)==1)=true then match ks[0]? with
     |some x176=>match match x176 with
      |D.ag xs=>xs[0]?
      |x=>none with
      |some y177=>match y177 with
       |D.str s178=>if(s178.toList==[108,97,98,101,108])=true then match ks[0]? with
        |some x179=>match match x179 with
         |D.ag xs=>xs[2]?
         |x=>none with
         |some y180=>match y180 with
          |D.sl sh181 xs182=>if sh181=5 then k [.d false 0 (.bool ((xs182.length:Int)==0))] []else none
          |x=>none
         |none=>none
        |none=>none else k [.d false 0 (.bool false)] []
       |x=>none
      |none=>none
     |none=>none else k [.d false 0 (.bool false)] []else if(!kidsN op==(ks.length:Int))=true then k [.d false 0 (.bool false)] []else goLp (X b) [(1,0)] (sub [1,1,1,0,1,0,0] (body Tryz.f37)) [Kf.block 1 0,Kf.seq [] (sub [1,1,1,1] (body Tryz.f37)) 4] (finK Tryz.prog Tryz.f37 [.d true 5 (.ag [D.str op,D.str nm,D.sl 5 ks,D.int .i64 p])] k) (s0 ks (0:Int))else if(op.toList==[61,62])=true then k [.d false 0 (.bool false)] []else if(op.toList==[33])=true then if((ks.length:Int)==1)=true then match ks[0]? with
     |some x193=>match match x193 with
      |D.ag xs=>xs[0]?
      |x=>none with
      |some y194=>match y194 with
       |D.str s195=>if(s195.toList==[108,97,98,101,108])=true then match ks[0]? with
        |some x196=>match match x196 with
         |D.ag xs=>xs[2]?
         |x=>none with
         |some y197=>match y197 with
          |D.sl sh198 xs199=>if sh198=5 then k [.d false 0 (.bool ((xs199.length:Int)==0))] []else none
          |x=>none
         |none=>none
        |none=>none else k [.d false 0 (.bool false)] []
       |x=>none
      |none=>none
     |none=>none else k [.d false 0 (.bool false)] []else if(!kidsN op==(ks.length:Int))=true then k [.d false 0 (.bool false)] []else goLp (X b) [(1,0)] (sub [1,1,1,0,1,0,0] (body Tryz.f37)) [Kf.block 1 0,Kf.seq [] (sub [1,1,1,1] (body Tryz.f37)) 4] (finK Tryz.prog Tryz.f37 [.d true 5 (.ag [D.str op,D.str nm,D.sl 5 ks,D.int .i64 p])] k) (s0 ks (0:Int)):=by kernel_rfl
theorem round0_0 (ks:List D) (x128:Int):roundK (X b) [(1,0)] (sub [1,1,1,0,1,0,0] (body Tryz.f37)) (s0 ks x128)=if decide (x128<(ks.length:Int))=true then if 0≤x128 then match ks[x128.toNat]? with
   |some x207=>match x207 with
    |D.ag xs208=>match xs208 with
     |x209::r210=>match x209 with
      |D.str s211=>match r210 with
       |x212::r213=>match x212 with
        |D.str s214=>match r213 with
         |x215::r216=>match x215 with
          |D.sl sh217 xs218=>if sh217=5 then match r216 with
           |x219::r220=>match x219 with
            |D.int j221 m222=>if j221=IntKind.i64 then match r220 with
             |[]=>match ofD (.ag [D.str s211,D.str s214,D.sl 5 xs218,D.int .i64 m222])with
              |some f225=>if bd b f225 then if(!isF f225)=true then some (Sum.inr (Ex.ret,e0r))else some (Sum.inl (s0 ks (IntKind.wrap .i64 (x128+1))))else none
              |none=>none
             |x=>none else none
            |x=>none
           |[]=>none else none
          |x=>none
         |[]=>none
        |x=>none
       |[]=>none
      |x=>none
     |[]=>none
    |x=>none
   |none=>none else none else some (Sum.inr (Ex.exit 1,e0x1)):=by kernel_rfl
theorem behind0r {β:Type} (op:ByteArray) (nm:ByteArray) (ks:List D) (p:Int) (k:List TV→List TV→Option β):applyK (X b) (finK Tryz.prog Tryz.f37 [.d true 5 (.ag [D.str op,D.str nm,D.sl 5 ks,D.int .i64 p])] k) [Kf.block 1 0,Kf.seq [] (sub [1,1,1,1] (body Tryz.f37)) 4] Ex.ret e0r=k [.d false 0 (.bool false)] []:=by kernel_rfl
theorem behind0x1 {β:Type} (op:ByteArray) (nm:ByteArray) (ks:List D) (p:Int) (k:List TV→List TV→Option β):applyK (X b) (finK Tryz.prog Tryz.f37 [.d true 5 (.ag [D.str op,D.str nm,D.sl 5 ks,D.int .i64 p])] k) [Kf.block 1 0,Kf.seq [] (sub [1,1,1,1] (body Tryz.f37)) 4] (Ex.exit 1) e0x1=k [.d false 0 (.bool true)] []:=by kernel_rfl
end
end K26
end Go.Sd
namespace Go.Sd
open Go Go.Cm Go.Proofs Go.Sc
set_option maxRecDepth 100000
theorem ev_kids (op:ByteArray) {γ:Type} (q:List TV→List TV→Option γ):evalF Tryz.prog R3 Tryz.f58 [.d true 0 (.str op)] q=q [.d false 0 (.int .i64 (kidsN op))] []:=by
 refine(K58.start op q).trans ?_
 unfold kidsN
 cases h0:(op.toList==[116,114,117,101])with
 |true=>
  simp only[h0,if_true]
 |false=>
  simp only[h0,Bool.false_eq_true,if_false]
  cases h1:(op.toList==[102,97,108,115,101])with
  |true=>
   simp only[h1,if_true]
  |false=>
   simp only[h1,Bool.false_eq_true,if_false]
   cases h2:(op.toList==[108,97,98,101,108])with
   |true=>
    simp only[h2,if_true]
   |false=>
    simp only[h2,Bool.false_eq_true,if_false]
    cases h3:(op.toList==[33])with
    |true=>
     simp only[h3,if_true]
    |false=>
     simp only[h3,Bool.false_eq_true,if_false]
     cases h4:(op.toList==[88])with
     |true=>
      simp only[h4,if_true]
     |false=>
      simp only[h4,Bool.false_eq_true,if_false]
      cases h5:(op.toList==[70])with
      |true=>
       simp only[h5,if_true]
      |false=>
       simp only[h5,Bool.false_eq_true,if_false]
       cases h6:(op.toList==[71])with
       |true=>
        simp only[h6,if_true]
       |false=>
        simp only[h6,Bool.false_eq_true,if_false]
        cases h7:(op.toList==[38])with
        |true=>
         simp only[h7,if_true]
        |false=>
         simp only[h7,Bool.false_eq_true,if_false]
         cases h8:(op.toList==[124])with
         |true=>
          simp only[h8,if_true]
         |false=>
          simp only[h8,Bool.false_eq_true,if_false]
          cases h9:(op.toList==[61,62])with
          |true=>
           simp only[h9,if_true]
          |false=>
           simp only[h9,Bool.false_eq_true,if_false]
           cases h10:(op.toList==[85])with
           |true=>
            simp only[h10,if_true]
           |false=>
            simp only[h10,Bool.false_eq_true,if_false]
            cases h11:(op.toList==[87])with
            |true=>
             simp only[h11,if_true]
            |false=>
             simp only[h11,Bool.false_eq_true,if_false]
             cases h12:(op.toList==[82])with
             |true=>
              simp only[h12,if_true]
             |false=>
              simp only[h12,Bool.false_eq_true,if_false]
theorem envr4:EnvOk glS Tryz.prog R4:=envr2.fn mixed Tryz.func58 (by kernel_rfl) fun β args k r hr=>by
 unfold cKids at hr
 split at hr
 ·exact⟨_,_,hr,fun q=>ev_kids _ q⟩
 ·cases hr
theorem form_loop {b:Option Nat} {fs:List Fm} (hl:fs.length≤4096) (hb:∀f∈fs,bd b f):∀(gs:List Fm) (i:Nat),fs.drop i=gs→i≤fs.length→
  Lp (K59.L0 b) (K59.s0 (Fm.dL fs) i)=match formL gs with|true=>some (.exit 0,K59.e0x0)|false=>some (.ret,K59.e0r)
 |[],i,hi,hle=>by
  have hr:=K59.round0_0 b (Fm.dL fs) i
  have:fs.length≤i:=by have:=congrArg List.length hi;simp at this;omega
  rw[dL_len,if_neg (by simp;omega)]at hr
  exact Lp_exit hr
 |f::gs,i,hi,hle=>by
  have hr:=K59.round0_0 b (Fm.dL fs) i
  obtain⟨hlt,hf,hfs⟩:=drop_split hi
  rw[dL_len,if_pos (by simp;omega),if_pos (by omega),Int.toNat_natCast,dL_get hlt,hf]at hr
  have hm:f∈fs:=hf▸List.getElem_mem hlt
  have hbf:=hb f hm
  cases f with
  |mk op nm ks p=>
   have hof:=ofD_d (.mk op nm ks p)
   simp only[Fm.d]at hr hof
   simp only[hof,if_true,if_pos hbf,wi (show i≤4096 by omega)]at hr
   simp only[formL]
   cases hs:formF (.mk op nm ks p)with
   |false=>rw[hs]at hr;exact Lp_exit hr
   |true=>
    rw[hs]at hr
    rw[Bool.true_and]
    simp only[Bool.not_true,Bool.false_eq_true,if_false]at hr
    rw[Lp_unfold hr,form_loop hl hb gs (i+1) hfs (by omega)]
theorem bd_kids {b:Option Nat} {op nm:ByteArray} {ks:List Fm} {p:Int} (hs:(Fm.mk op nm ks p).sm=true) (hb:∀n,b=some n→(Fm.mk op nm ks p).dep≤n):ks.length≤4096∧∀f∈ks,bd b f:=by
 simp only[Fm.sm,Bool.and_eq_true,Nat.ble_eq]at hs
 refine⟨hs.1,fun g hg=>bd_none ⟨sm_mem hs.2 hg,trivial⟩ fun n hn=>?_⟩
 have h1:=hb n hn
 have h2:=dep_mem hg
 simp only[Fm.dep]at h1
 omega
theorem ev_form {b:Option Nat} {f:Fm} (hs:f.sm=true) (hb:∀n,b=some n→f.dep≤n) {γ:Type} (q:List TV→List TV→Option γ):
  evalF Tryz.prog (R5 b) Tryz.f51 [.d true 5 f.d] q=q [.d false 0 (.bool (formF f))] []:=by
 cases f with
 |mk op nm ks p=>
  obtain⟨h1,h2⟩:=bd_kids hs hb
  have h:=form_loop (b:=b) h1 h2 ks 0 rfl (by omega)
  have st:=K59.start b op nm (Fm.dL ks) p q
  simp only[Fm.d]
  refine st.trans ?_
  rw[dL_len]
  simp only[formF]
  cases hk:(kidsN op==(ks.length:Int))with
  |false=>simp only[hk,Bool.not_false,if_true,Bool.false_and]
  |true=>
   simp only[hk,Bool.not_true,Bool.false_eq_true,if_false,Bool.true_and]
   cases hf:formL ks with
   |true=>rw[hf]at h;exact(goLp_of h).trans (K59.behind0x0 b op nm (Fm.dL ks) p q)
   |false=>rw[hf]at h;exact(goLp_of h).trans (K59.behind0r b op nm (Fm.dL ks) p q)
theorem env_one {E:Env} {f:FuncId} {fn:Func} {c:{β:Type}→Option Nat→List TV→(List TV→List TV→Option β)→Option β} {g:Fm→TV} (hE:EnvOk glS Tryz.prog E) (hf:Tryz.prog.funcs[f]? =some fn) (hn:(fn.name== "runtime.NumGoroutine")=false)
  (hc:∀{β:Type} (b:Option Nat) (args:List TV) (k:List TV→List TV→Option β) (r:β),c b args k=some r↔∃h:Fm,args=[.d true 5 h.d]∧bd b h∧k [g h] []=some r)
  (hev:∀(b:Option Nat) (h:Fm),h.sm=true→(∀n,b=some n→h.dep≤n)→∀{γ:Type} (q:List TV→List TV→Option γ),evalF Tryz.prog (E.add f io0 (c b)) fn [.d true 5 h.d] q=q [g h] []):
  EnvOk glS Tryz.prog (E.add f io0 (c none)):=by
 have key:∀n,EnvOk glS Tryz.prog (E.add f io0 (c (some n))):=by
  intro n
  induction n with
  |zero=>
   refine hE.add fun β args k r hr=>?_
   obtain⟨h,_,hb,_⟩:=(hc _ _ _ _).1 hr
   have:=hb.2;simp only at this;omega
  |succ n ih=>
   refine hE.add fun β args k r hr=>?_
   obtain⟨h,rfl,hb,hk⟩:=(hc _ _ _ _).1 hr
   exact⟨_,_,hk,valid_of ih mixed hf hn (hev (some n) h hb.1 (fun m hm=>by cases hm;have:=hb.2;simp only at this;omega) _)⟩
 refine EnvOk.lim key fun β g' args k r hr=>?_
 simp only[Env.add]at hr ⊢
 cases hg:Nat.beq g' f with
 |false=>simp only[hg]at hr ⊢;exact⟨0,hr⟩
 |true=>
  simp only[hg]at hr ⊢
  obtain⟨h,rfl,hb,hk⟩:=(hc _ _ _ _).1 hr
  exact⟨h.dep+1,(hc _ _ _ _).2 ⟨h,rfl,bd_at hb,hk⟩⟩
theorem envr5:EnvOk glS Tryz.prog (R5 none):=env_one (c:=@cForm) (g:=fun h=>.d false 0 (.bool (formF h))) envr4 Tryz.func51 (by kernel_rfl) (fun b args k r=>by
 unfold cForm
 constructor
 ·intro h
  split at h
  ·split at h
   ·rename_i x f hf
    unfold chkK at h
    split at h
    ·rename_i hb;exact⟨f,by rw[d_ofD _ _ hf],hb,h⟩
    ·cases h
   ·cases h
  ·cases h
 ·rintro⟨f,rfl,hb,hk⟩
  simp only[ofD_d,chkK]
  rw[if_pos hb];exact hk) fun b h hs hb=>fun q=>ev_form hs hb q
theorem is_loop {b:Option Nat} {fs:List Fm} (hl:fs.length≤4096) (hb:∀f∈fs,bd b f):∀(gs:List Fm) (i:Nat),fs.drop i=gs→i≤fs.length→
  Lp (K26.L0 b) (K26.s0 (Fm.dL fs) i)=match isL gs with|true=>some (.exit 1,K26.e0x1)|false=>some (.ret,K26.e0r)
 |[],i,hi,hle=>by
  have hr:=K26.round0_0 b (Fm.dL fs) i
  have:fs.length≤i:=by have:=congrArg List.length hi;simp at this;omega
  rw[dL_len,if_neg (by simp;omega)]at hr
  exact Lp_exit hr
 |f::gs,i,hi,hle=>by
  have hr:=K26.round0_0 b (Fm.dL fs) i
  obtain⟨hlt,hf,hfs⟩:=drop_split hi
  rw[dL_len,if_pos (by simp;omega),if_pos (by omega),Int.toNat_natCast,dL_get hlt,hf]at hr
  have hm:f∈fs:=hf▸List.getElem_mem hlt
  have hbf:=hb f hm
  cases f with
  |mk op nm ks p=>
   have hof:=ofD_d (.mk op nm ks p)
   simp only[Fm.d]at hr hof
   simp only[hof,if_true,if_pos hbf,wi (show i≤4096 by omega)]at hr
   simp only[isL]
   cases hs:isF (.mk op nm ks p)with
   |false=>rw[hs]at hr;exact Lp_exit hr
   |true=>
    rw[hs]at hr
    rw[Bool.true_and]
    simp only[Bool.not_true,Bool.false_eq_true,if_false]at hr
    rw[Lp_unfold hr,is_loop hl hb gs (i+1) hfs (by omega)]
theorem ev_is {b:Option Nat} {f:Fm} (hs:f.sm=true) (hb:∀n,b=some n→f.dep≤n) {γ:Type} (q:List TV→List TV→Option γ):
  evalF Tryz.prog (R6 b) Tryz.f37 [.d true 5 f.d] q=q [.d false 0 (.bool (isF f))] []:=by
 cases f with
 |mk op nm ks p=>
  obtain⟨h1,h2⟩:=bd_kids hs hb
  have h:=is_loop (b:=b) h1 h2 ks 0 rfl (by omega)
  have st:=K26.start b op nm (Fm.dL ks) p q
  simp only[Fm.d]
  refine st.trans ?_
  rw[dL_len]
  simp only[isF]
  cases h0:(op.toList==[70])with
  |true=>
   simp only[h0,if_true]
  |false=>
   simp only[h0,Bool.false_eq_true,if_false]
   cases h1:(op.toList==[71])with
   |true=>
    simp only[h1,if_true]
   |false=>
    simp only[h1,Bool.false_eq_true,if_false]
    cases h2:(op.toList==[87])with
    |true=>
     simp only[h2,if_true]
    |false=>
     simp only[h2,Bool.false_eq_true,if_false]
     cases h3:(op.toList==[61,62])with
     |true=>
      simp only[h3,if_true]
     |false=>
      simp only[h3,Bool.false_eq_true,if_false]
      cases h33:(op.toList==[33])with
      |true=>
       simp only[h33,if_true]
       clear h st h1 h2 hb hs
       cases ks with
       |nil=>simp only[List.length_nil,show(((0:Nat):Int)==1)=false from rfl,Bool.false_eq_true,if_false]
       |cons f1 r=>
        cases r with
        |cons f2 r=>
         have e:((((f1::f2::r).length:Nat):Int)==1)=false:=by simp;omega
         simp only[e,Bool.false_eq_true,if_false]
        |nil=>
         cases f1 with
         |mk o2 n2 k2 p2=>
          simp only[Fm.dL,Fm.d,dL_len,List.length_cons,List.length_nil,List.getElem?_cons_zero,List.getElem?_cons_succ,if_true,show(((0+1:Nat):Int)==1)=true from rfl]
          cases ho:(o2.toList==[108,97,98,101,108])with
          |false=>simp only[ho,Bool.false_eq_true,if_false,Bool.false_and]
          |true=>
           simp only[ho,if_true,Bool.true_and]
           cases k2 with
           |nil=>rfl
           |cons g gs=>
            have e:((((g::gs).length:Nat):Int)==0)=false:=by simp;omega
            rw[e];rfl
      |false=>
       simp only[h33,Bool.false_eq_true,if_false]
       cases hk:(kidsN op==(ks.length:Int))with
       |false=>simp only[hk,Bool.not_false,if_true,Bool.false_and]
       |true=>
        simp only[hk,Bool.not_true,Bool.false_eq_true,if_false,Bool.true_and]
        cases hf:isL ks with
        |true=>rw[hf]at h;exact(goLp_of h).trans (K26.behind0x1 b op nm (Fm.dL ks) p q)
        |false=>rw[hf]at h;exact(goLp_of h).trans (K26.behind0r b op nm (Fm.dL ks) p q)
theorem envr6:EnvOk glS Tryz.prog (R6 none):=env_one (c:=@cIsN) (g:=fun h=>.d false 0 (.bool (isF h))) envr5 Tryz.func37 (by kernel_rfl) (fun b args k r=>by
 unfold cIsN
 constructor
 ·intro h
  split at h
  ·split at h
   ·rename_i x f hf
    unfold chkK at h
    split at h
    ·rename_i hb;exact⟨f,by rw[d_ofD _ _ hf],hb,h⟩
    ·cases h
   ·cases h
  ·cases h
 ·rintro⟨f,rfl,hb,hk⟩
  simp only[ofD_d,chkK]
  rw[if_pos hb];exact hk) fun b h hs hb=>fun q=>ev_is hs hb q
theorem envr7:EnvOk glS Tryz.prog R7:=envr6.fn mixed Tryz.func88 (by kernel_rfl) fun β args k r hr=>by
 unfold cConst at hr
 split at hr
 ·rename_i op nm ks p
  refine⟨_,_,hr,fun q=>(K89.start op nm ks p q).trans ?_⟩
  unfold constB
  cases h:(op.toList==[116,114,117,101])with
  |true=>rfl
  |false=>rfl
 ·cases hr
theorem envr8:EnvOk glS Tryz.prog R8:=envr7.fn mixed Tryz.func86 (by kernel_rfl) fun β args k r hr=>by
 unfold cPlain at hr
 split at hr
 ·exact⟨_,_,hr,fun q=>K88.start _ q⟩
 ·cases hr
theorem envr9:EnvOk glS Tryz.prog R9:=envr8.fn mixed Tryz.func82 (by kernel_rfl) fun β args k r hr=>by
 unfold cNode at hr
 split at hr
 ·exact⟨_,_,hr,fun q=>K84.start _ _ q⟩
 ·cases hr
theorem ev_dual (op:ByteArray) {γ:Type} (q:List TV→List TV→Option γ):evalF Tryz.prog R9 Tryz.f81 [.d true 0 (.str op)] q=q [.d false 0 (.str (dualB op))] []:=by
 refine(K83.start op q).trans ?_
 unfold dualB
 cases h0:(op.toList==[116,114,117,101])with
 |true=>
  simp only[h0,if_true]
 |false=>
  simp only[h0,Bool.false_eq_true,if_false]
  cases h1:(op.toList==[102,97,108,115,101])with
  |true=>
   simp only[h1,if_true]
  |false=>
   simp only[h1,Bool.false_eq_true,if_false]
   cases h2:(op.toList==[38])with
   |true=>
    simp only[h2,if_true]
   |false=>
    simp only[h2,Bool.false_eq_true,if_false]
    cases h3:(op.toList==[124])with
    |true=>
     simp only[h3,if_true]
    |false=>
     simp only[h3,Bool.false_eq_true,if_false]
     cases h4:(op.toList==[85])with
     |true=>
      simp only[h4,if_true]
     |false=>
      simp only[h4,Bool.false_eq_true,if_false]
      cases h5:(op.toList==[82])with
      |true=>
       simp only[h5,if_true]
      |false=>
       simp only[h5,Bool.false_eq_true,if_false]
theorem envr10:EnvOk glS Tryz.prog R10:=envr9.fn mixed Tryz.func81 (by kernel_rfl) fun β args k r hr=>by
 unfold cDual at hr
 split at hr
 ·exact⟨_,_,hr,fun q=>ev_dual _ q⟩
 ·cases hr
theorem envr11:EnvOk glS Tryz.prog R11:=envr10.fn mixed Tryz.func80 (by kernel_rfl) fun β args k r hr=>by
 unfold cSpent at hr
 split at hr
 ·rename_i l
  unfold chkK at hr
  split at hr
  ·rename_i h0
   exact⟨_,_,hr,fun q=>by rw[K82.start,wrap_id (by omega) (by omega)]⟩
  ·cases hr
 ·cases hr
end Go.Sd
namespace Go.Sd
open Go Go.Cm Go.Proofs Go.Sc
set_option maxRecDepth 100000
def mkr (l:Int):TV:=.ob true [.d false 0 (.int .i64 l)]
def ansM {β:Type} (k:List TV→List TV→Option β):Option (Fm×Int)→Option β
 |some (.mk o n ks p,l)=>k [.d true 5 (fmD o n (Fm.dL ks) p)] [mkr l]
 |none=>none
def cMake {β:Type} (b:Option Nat) (args:List TV) (k:List TV→List TV→Option β):Option β:=
 match args with
 |[.ob true [.d false 0 (.int .i64 l)],.d true 5 x,.d true 0 (.bool not)]=>match ofD x with
  |some f=>chkK (mok (-17179869184) b f l) (ansM k (makeF f not l))
  |none=>none
 |_=>none
def cBoth {β:Type} (b:Option Nat) (args:List TV) (k:List TV→List TV→Option β):Option β:=
 match args with
 |[.ob true [.d false 0 (.int .i64 l)],.d true 0 (.str op),.d true 5 x,.d true 0 (.bool i),.d true 0 (.bool j)]=>match ofD x with
  |some f=>chkK (mok (-8589934592) b f l) (ansM k (bothF op f i j l))
  |none=>none
 |_=>none
def cEver {β:Type} (b:Option Nat) (args:List TV) (k:List TV→List TV→Option β):Option β:=
 match args with
 |[.ob true [.d false 0 (.int .i64 l)],.d true 5 x,.d true 0 (.bool not)]=>match ofD x with
  |some f=>chkK (mok 0 b f l) (ansM k (everF f not l))
  |none=>none
 |_=>none
def cWeak {β:Type} (b:Option Nat) (args:List TV) (k:List TV→List TV→Option β):Option β:=
 match args with
 |[.ob true [.d false 0 (.int .i64 l)],.d true 5 x,.d true 0 (.bool not)]=>match ofD x with
  |some f=>chkK (mok 0 b f l) (ansM k (weakF f not l))
  |none=>none
 |_=>none
structure Mb where
 (m b e w:Option Nat)
def RM (B:Mb):Env:=(((R11.add 52 io1 (cMake B.m)).add 83 io1 (cBoth B.b)).add 84 io1 (cEver B.e)).add 85 io1 (cWeak B.w)
end Go.Sd
namespace Go.Sd
open Go Go.Cm Go.Proofs Go.Sc
set_option maxRecDepth 100000
namespace M85
  section
  variable (B:Mb)
noncomputable def X:Fx:=⟨Tryz.prog,RM B,1024,5⟩
theorem start {β:Type} (l:Int) (s:ByteArray) (op:ByteArray) (nm:ByteArray) (ks:List D) (p:Int) (i:Bool) (j:Bool) (k:List TV→List TV→Option β):evalF Tryz.prog (RM B) Tryz.f83 [.ob true [.d false 0 (.int .i64 l)],.d true 0 (.str s),.d true 5 (.ag [D.str op,D.str nm,D.sl 5 ks,D.int .i64 p]),.d true 0 (.bool i),.d true 0 (.bool j)] k=match ks[0]? with
   |some x2=>match x2 with
    |D.ag xs3=>match xs3 with
     |x4::r5=>match x4 with
      |D.str s6=>match r5 with
       |x7::r8=>match x7 with
        |D.str s9=>match r8 with
         |x10::r11=>match x10 with
          |D.sl sh12 xs13=>if sh12=5 then match r11 with
           |x14::r15=>match x14 with
            |D.int j16 m17=>if j16=IntKind.i64 then match r15 with
             |[]=>match ofD (.ag [D.str s6,D.str s9,D.sl 5 xs13,D.int .i64 m17])with
              |some f19=>if mok (-17179869184:Int) B.m f19 l then match makeF f19 i l with
               |some (Fm.mk o20 n21 ks22 p23,l24)=>match ks[1]? with
                |some x26=>match x26 with
                 |D.ag xs27=>match xs27 with
                  |x28::r29=>match x28 with
                   |D.str s30=>match r29 with
                    |x31::r32=>match x31 with
                     |D.str s33=>match r32 with
                      |x34::r35=>match x34 with
                       |D.sl sh36 xs37=>if sh36=5 then match r35 with
                        |x38::r39=>match x38 with
                         |D.int j40 m41=>if j40=IntKind.i64 then match r39 with
                          |[]=>match ofD (.ag [D.str s30,D.str s33,D.sl 5 xs37,D.int .i64 m41])with
                           |some f43=>if mok (-17179869184:Int) B.m f43 l24 then match makeF f43 j l24 with
                            |some (Fm.mk o44 n45 ks46 p47,l48)=>k [.d true 5 (.ag [D.str s,D.str (ByteArray.mk #[]),D.sl 5 [D.ag [D.str o20,D.str n21,D.sl 5 (Fm.dL ks22),D.int .i64 p23],D.ag [D.str o44,D.str n45,D.sl 5 (Fm.dL ks46),D.int .i64 p47]],D.int .i64 0])] [.ob true [.d false 0 (.int .i64 l48)]]
                            |none=>none else none
                           |none=>none
                          |x=>none else none
                         |x=>none
                        |[]=>none else none
                       |x=>none
                      |[]=>none
                     |x=>none
                    |[]=>none
                   |x=>none
                  |[]=>none
                 |x=>none
                |none=>none
               |none=>none else none
              |none=>none
             |x=>none else none
            |x=>none
           |[]=>none else none
          |x=>none
         |[]=>none
        |x=>none
       |[]=>none
      |x=>none
     |[]=>none
    |x=>none
   |none=>none:=by kernel_rfl
end
end M85
namespace M86
  section
  variable (B:Mb)
noncomputable def X:Fx:=⟨Tryz.prog,RM B,64,3⟩
theorem start {β:Type} (l:Int) (op:ByteArray) (nm:ByteArray) (ks:List D) (p:Int) (t:Bool) (k:List TV→List TV→Option β):evalF Tryz.prog (RM B) Tryz.f84 [.ob true [.d false 0 (.int .i64 l)],.d true 5 (.ag [D.str op,D.str nm,D.sl 5 ks,D.int .i64 p]),.d true 0 (.bool t)] k=if(-1099511627776:Int)≤l∧l≤1099511627776 then if(!(op.toList==[70])==t)=true then match ks[0]? with
   |some x5=>match x5 with
    |D.ag xs6=>match xs6 with
     |x7::r8=>match x7 with
      |D.str s9=>match r8 with
       |x10::r11=>match x10 with
        |D.str s12=>match r11 with
         |x13::r14=>match x13 with
          |D.sl sh15 xs16=>if sh15=5 then match r14 with
           |x17::r18=>match x17 with
            |D.int j19 m20=>if j19=IntKind.i64 then match r18 with
             |[]=>match ofD (.ag [D.str s9,D.str s12,D.sl 5 xs16,D.int .i64 m20])with
              |some f22=>if mok (-17179869184:Int) B.m f22 (l - 1)then match makeF f22 t (l - 1)with
               |some (Fm.mk o23 n24 ks25 p26,l27)=>k [.d true 5 (.ag [D.str (ByteArray.mk #[85]),D.str (ByteArray.mk #[]),D.sl 5 [fmD (ByteArray.mk #[116,114,117,101]) (ByteArray.mk #[]) [] (0:Int),fmD o23 n24 (Fm.dL ks25) p26],D.int .i64 0])] [.ob true [.d false 0 (.int .i64 l27)]]
               |none=>none else none
              |none=>none
             |x=>none else none
            |x=>none
           |[]=>none else none
          |x=>none
         |[]=>none
        |x=>none
       |[]=>none
      |x=>none
     |[]=>none
    |x=>none
   |none=>none else match ks[0]? with
   |some x29=>match x29 with
    |D.ag xs30=>match xs30 with
     |x31::r32=>match x31 with
      |D.str s33=>match r32 with
       |x34::r35=>match x34 with
        |D.str s36=>match r35 with
         |x37::r38=>match x37 with
          |D.sl sh39 xs40=>if sh39=5 then match r38 with
           |x41::r42=>match x41 with
            |D.int j43 m44=>if j43=IntKind.i64 then match r42 with
             |[]=>match ofD (.ag [D.str s33,D.str s36,D.sl 5 xs40,D.int .i64 m44])with
              |some f46=>if mok (-17179869184:Int) B.m f46 (l - 1)then match makeF f46 t (l - 1)with
               |some (Fm.mk o47 n48 ks49 p50,l51)=>k [.d true 5 (.ag [D.str (ByteArray.mk #[82]),D.str (ByteArray.mk #[]),D.sl 5 [fmD (ByteArray.mk #[102,97,108,115,101]) (ByteArray.mk #[]) [] (0:Int),fmD o47 n48 (Fm.dL ks49) p50],D.int .i64 0])] [.ob true [.d false 0 (.int .i64 l51)]]
               |none=>none else none
              |none=>none
             |x=>none else none
            |x=>none
           |[]=>none else none
          |x=>none
         |[]=>none
        |x=>none
       |[]=>none
      |x=>none
     |[]=>none
    |x=>none
   |none=>none else none:=by kernel_rfl
end
end M86
namespace M87
  section
  variable (B:Mb)
noncomputable def X:Fx:=⟨Tryz.prog,RM B,64,3⟩
theorem start {β:Type} (l:Int) (op:ByteArray) (nm:ByteArray) (ks:List D) (p:Int) (t:Bool) (k:List TV→List TV→Option β):evalF Tryz.prog (RM B) Tryz.f85 [.ob true [.d false 0 (.int .i64 l)],.d true 5 (.ag [D.str op,D.str nm,D.sl 5 ks,D.int .i64 p]),.d true 0 (.bool t)] k=if(-1099511627776:Int)≤l∧l≤1099511627776 then if t=true then match ks[1]? with
   |some x7=>match x7 with
    |D.ag xs8=>match xs8 with
     |x9::r10=>match x9 with
      |D.str s11=>match r10 with
       |x12::r13=>match x12 with
        |D.str s14=>match r13 with
         |x15::r16=>match x15 with
          |D.sl sh17 xs18=>if sh17=5 then match r16 with
           |x19::r20=>match x19 with
            |D.int j21 m22=>if j21=IntKind.i64 then match r20 with
             |[]=>match ofD (.ag [D.str s11,D.str s14,D.sl 5 xs18,D.int .i64 m22])with
              |some f24=>if mok (-17179869184:Int) B.m f24 (l - 1)then match makeF f24 t (l - 1)with
               |some (Fm.mk o25 n26 ks27 p28,l29)=>match ofD (.ag [D.str op,D.str nm,D.sl 5 ks,D.int .i64 p])with
                |some f31=>if mok (-8589934592:Int) B.b f31 l29 then match bothF (ByteArray.mk #[38]) f31 t t l29 with
                 |some (Fm.mk o32 n33 ks34 p35,l36)=>k [.d true 5 (.ag [D.str (ByteArray.mk #[85]),D.str (ByteArray.mk #[]),D.sl 5 [D.ag [D.str o25,D.str n26,D.sl 5 (Fm.dL ks27),D.int .i64 p28],fmD o32 n33 (Fm.dL ks34) p35],D.int .i64 0])] [.ob true [.d false 0 (.int .i64 l36)]]
                 |none=>none else none
                |none=>none
               |none=>none else none
              |none=>none
             |x=>none else none
            |x=>none
           |[]=>none else none
          |x=>none
         |[]=>none
        |x=>none
       |[]=>none
      |x=>none
     |[]=>none
    |x=>none
   |none=>none else match ks[1]? with
   |some x38=>match x38 with
    |D.ag xs39=>match xs39 with
     |x40::r41=>match x40 with
      |D.str s42=>match r41 with
       |x43::r44=>match x43 with
        |D.str s45=>match r44 with
         |x46::r47=>match x46 with
          |D.sl sh48 xs49=>if sh48=5 then match r47 with
           |x50::r51=>match x50 with
            |D.int j52 m53=>if j52=IntKind.i64 then match r51 with
             |[]=>match ofD (.ag [D.str s42,D.str s45,D.sl 5 xs49,D.int .i64 m53])with
              |some f55=>if mok (-17179869184:Int) B.m f55 (l - 1)then match makeF f55 t (l - 1)with
               |some (Fm.mk o56 n57 ks58 p59,l60)=>match ofD (.ag [D.str op,D.str nm,D.sl 5 ks,D.int .i64 p])with
                |some f62=>if mok (-8589934592:Int) B.b f62 l60 then match bothF (ByteArray.mk #[124]) f62 t t l60 with
                 |some (Fm.mk o63 n64 ks65 p66,l67)=>k [.d true 5 (.ag [D.str (ByteArray.mk #[82]),D.str (ByteArray.mk #[]),D.sl 5 [D.ag [D.str o56,D.str n57,D.sl 5 (Fm.dL ks58),D.int .i64 p59],fmD o63 n64 (Fm.dL ks65) p66],D.int .i64 0])] [.ob true [.d false 0 (.int .i64 l67)]]
                 |none=>none else none
                |none=>none
               |none=>none else none
              |none=>none
             |x=>none else none
            |x=>none
           |[]=>none else none
          |x=>none
         |[]=>none
        |x=>none
       |[]=>none
      |x=>none
     |[]=>none
    |x=>none
   |none=>none else none:=by kernel_rfl
end
end M87
end Go.Sd
namespace Go.Sd
open Go Go.Cm Go.Proofs Go.Sc
set_option maxRecDepth 100000
namespace M61
  section
  variable (B:Mb)
noncomputable def X:Fx:=⟨Tryz.prog,RM B,64,3⟩
theorem start {β:Type} (l:Int) (op:ByteArray) (nm:ByteArray) (ks:List D) (p:Int) (t:Bool) (k:List TV→List TV→Option β):evalF Tryz.prog (RM B) Tryz.f52 [.ob true [.d false 0 (.int .i64 l)],.d true 5 (.ag [D.str op,D.str nm,D.sl 5 ks,D.int .i64 p]),.d true 0 (.bool t)] k=if(-1099511627776:Int)≤l∧l≤1099511627776 then if decide (l - 1<(0:Int))=true then k [.d false 5 (.ag [D.str (ByteArray.mk #[]),D.str (ByteArray.mk #[]),D.sl 5 [],D.int .i64 0])] [.ob true [.d false 0 (.int .i64 (l - 1))]]else if t=true then if(op.toList==[108,97,98,101,108])=true then if t=true then if(-1099511627776:Int)≤l - 1∧l - 1≤(1099511627776:Int)then if(!decide (l - 1 - (1:Int)<0))=true then k [.d true 5 (.ag [D.str (ByteArray.mk #[33]),D.str (ByteArray.mk #[]),D.sl 5 [D.ag [D.str (ByteArray.mk #[108,97,98,101,108]),D.str nm,D.sl 5 [],D.int .i64 0]],D.int .i64 0])] [.ob true [.d false 0 (.int .i64 (l - 1 - (1:Int)))]]else k [.d true 5 (.ag [D.str (ByteArray.mk #[108,97,98,101,108]),D.str nm,D.sl 5 [],D.int .i64 0])] [.ob true [.d false 0 (.int .i64 (l - 1 - (1:Int)))]]else none else k [.d true 5 (.ag [D.str (ByteArray.mk #[108,97,98,101,108]),D.str nm,D.sl 5 [],D.int .i64 0])] [.ob true [.d false 0 (.int .i64 (l - 1))]]else if(op.toList==[33])=true then match ks[0]? with
   |some x22=>match x22 with
    |D.ag xs23=>match xs23 with
     |x24::r25=>match x24 with
      |D.str s26=>match r25 with
       |x27::r28=>match x27 with
        |D.str s29=>match r28 with
         |x30::r31=>match x30 with
          |D.sl sh32 xs33=>if sh32=5 then match r31 with
           |x34::r35=>match x34 with
            |D.int j36 m37=>if j36=IntKind.i64 then match r35 with
             |[]=>match ofD (.ag [D.str s26,D.str s29,D.sl 5 xs33,D.int .i64 m37])with
              |some f39=>if mok (-17179869184:Int) B.m f39 (IntKind.wrap .i64 (l - 1+(1:Int)))then match makeF f39 (!t) (IntKind.wrap .i64 (l - 1+(1:Int)))with
               |some (Fm.mk o40 n41 ks42 p43,l44)=>k [.d true 5 (.ag [D.str o40,D.str n41,D.sl 5 (Fm.dL ks42),D.int .i64 p43])] [.ob true [.d false 0 (.int .i64 l44)]]
               |none=>none else none
              |none=>none
             |x=>none else none
            |x=>none
           |[]=>none else none
          |x=>none
         |[]=>none
        |x=>none
       |[]=>none
      |x=>none
     |[]=>none
    |x=>none
   |none=>none else if(op.toList==[88])=true then match ks[0]? with
    |some x48=>match x48 with
     |D.ag xs49=>match xs49 with
      |x50::r51=>match x50 with
       |D.str s52=>match r51 with
        |x53::r54=>match x53 with
         |D.str s55=>match r54 with
          |x56::r57=>match x56 with
           |D.sl sh58 xs59=>if sh58=5 then match r57 with
            |x60::r61=>match x60 with
             |D.int j62 m63=>if j62=IntKind.i64 then match r61 with
              |[]=>match ofD (.ag [D.str s52,D.str s55,D.sl 5 xs59,D.int .i64 m63])with
               |some f65=>if mok (-17179869184:Int) B.m f65 (l - 1)then match makeF f65 t (l - 1)with
                |some (Fm.mk o66 n67 ks68 p69,l70)=>k [.d true 5 (.ag [D.str (ByteArray.mk #[88]),D.str (ByteArray.mk #[]),D.sl 5 [fmD o66 n67 (Fm.dL ks68) p69],D.int .i64 0])] [.ob true [.d false 0 (.int .i64 l70)]]
                |none=>none else none
               |none=>none
              |x=>none else none
             |x=>none
            |[]=>none else none
           |x=>none
          |[]=>none
         |x=>none
        |[]=>none
       |x=>none
      |[]=>none
     |x=>none
    |none=>none else if(op.toList==[38])=true then if(op.toList==[38])=true then match ofD (.ag [D.str op,D.str nm,D.sl 5 ks,D.int .i64 p])with
     |some f75=>if mok (-8589934592:Int) B.b f75 (l - 1)then match bothF (dualB op) f75 t t (l - 1)with
      |some (Fm.mk o76 n77 ks78 p79,l80)=>k [.d true 5 (.ag [D.str o76,D.str n77,D.sl 5 (Fm.dL ks78),D.int .i64 p79])] [.ob true [.d false 0 (.int .i64 l80)]]
      |none=>none else none
     |none=>none else if(op.toList==[85])=true then if(op.toList==[85])=true then match ofD (.ag [D.str op,D.str nm,D.sl 5 ks,D.int .i64 p])with
      |some f85=>if mok (-8589934592:Int) B.b f85 (l - 1)then match bothF (dualB op) f85 t t (l - 1)with
       |some (Fm.mk o86 n87 ks88 p89,l90)=>k [.d true 5 (.ag [D.str o86,D.str n87,D.sl 5 (Fm.dL ks88),D.int .i64 p89])] [.ob true [.d false 0 (.int .i64 l90)]]
       |none=>none else none
      |none=>none else if(op.toList==[61,62])=true then if t=true then match ofD (.ag [D.str op,D.str nm,D.sl 5 ks,D.int .i64 p])with
       |some f96=>if mok (-8589934592:Int) B.b f96 (l - 1)then match bothF (ByteArray.mk #[38]) f96 false true (l - 1)with
        |some (Fm.mk o97 n98 ks99 p100,l101)=>k [.d true 5 (.ag [D.str o97,D.str n98,D.sl 5 (Fm.dL ks99),D.int .i64 p100])] [.ob true [.d false 0 (.int .i64 l101)]]
        |none=>none else none
       |none=>none else match ofD (.ag [D.str op,D.str nm,D.sl 5 ks,D.int .i64 p])with
       |some f103=>if mok (-8589934592:Int) B.b f103 (l - 1)then match bothF (ByteArray.mk #[124]) f103 true false (l - 1)with
        |some (Fm.mk o104 n105 ks106 p107,l108)=>k [.d true 5 (.ag [D.str o104,D.str n105,D.sl 5 (Fm.dL ks106),D.int .i64 p107])] [.ob true [.d false 0 (.int .i64 l108)]]
        |none=>none else none
       |none=>none else if(op.toList==[70])=true then if(op.toList==[70])=true then match ofD (.ag [D.str op,D.str nm,D.sl 5 ks,D.int .i64 p])with
        |some f113=>if mok (0:Int) B.e f113 (l - 1)then match everF f113 t (l - 1)with
         |some (Fm.mk o114 n115 ks116 p117,l118)=>k [.d true 5 (.ag [D.str o114,D.str n115,D.sl 5 (Fm.dL ks116),D.int .i64 p117])] [.ob true [.d false 0 (.int .i64 l118)]]
         |none=>none else none
        |none=>none else if(op.toList==[87])=true then match ofD (.ag [D.str op,D.str nm,D.sl 5 ks,D.int .i64 p])with
         |some f122=>if mok (0:Int) B.w f122 (l - 1)then match weakF f122 t (l - 1)with
          |some (Fm.mk o123 n124 ks125 p126,l127)=>k [.d true 5 (.ag [D.str o123,D.str n124,D.sl 5 (Fm.dL ks125),D.int .i64 p126])] [.ob true [.d false 0 (.int .i64 l127)]]
          |none=>none else none
         |none=>none else k [.d false 5 (.ag [D.str (dualB op),D.str (ByteArray.mk #[]),D.sl 5 [],D.int .i64 0])] [.ob true [.d false 0 (.int .i64 (l - 1))]]else if(op.toList==[71])=true then match ofD (.ag [D.str op,D.str nm,D.sl 5 ks,D.int .i64 p])with
        |some f132=>if mok (0:Int) B.e f132 (l - 1)then match everF f132 t (l - 1)with
         |some (Fm.mk o133 n134 ks135 p136,l137)=>k [.d true 5 (.ag [D.str o133,D.str n134,D.sl 5 (Fm.dL ks135),D.int .i64 p136])] [.ob true [.d false 0 (.int .i64 l137)]]
         |none=>none else none
        |none=>none else if(op.toList==[87])=true then match ofD (.ag [D.str op,D.str nm,D.sl 5 ks,D.int .i64 p])with
         |some f141=>if mok (0:Int) B.w f141 (l - 1)then match weakF f141 t (l - 1)with
          |some (Fm.mk o142 n143 ks144 p145,l146)=>k [.d true 5 (.ag [D.str o142,D.str n143,D.sl 5 (Fm.dL ks144),D.int .i64 p145])] [.ob true [.d false 0 (.int .i64 l146)]]
          |none=>none else none
         |none=>none else k [.d false 5 (.ag [D.str (dualB op),D.str (ByteArray.mk #[]),D.sl 5 [],D.int .i64 0])] [.ob true [.d false 0 (.int .i64 (l - 1))]]else if(op.toList==[82])=true then match ofD (.ag [D.str op,D.str nm,D.sl 5 ks,D.int .i64 p])with
      |some f151=>if mok (-8589934592:Int) B.b f151 (l - 1)then match bothF (dualB op) f151 t t (l - 1)with
       |some (Fm.mk o152 n153 ks154 p155,l156)=>k [.d true 5 (.ag [D.str o152,D.str n153,D.sl 5 (Fm.dL ks154),D.int .i64 p155])] [.ob true [.d false 0 (.int .i64 l156)]]
       |none=>none else none
      |none=>none else if(op.toList==[61,62])=true then if t=true then match ofD (.ag [D.str op,D.str nm,D.sl 5 ks,D.int .i64 p])with
       |some f162=>if mok (-8589934592:Int) B.b f162 (l - 1)then match bothF (ByteArray.mk #[38]) f162 false true (l - 1)with
        |some (Fm.mk o163 n164 ks165 p166,l167)=>k [.d true 5 (.ag [D.str o163,D.str n164,D.sl 5 (Fm.dL ks165),D.int .i64 p166])] [.ob true [.d false 0 (.int .i64 l167)]]
        |none=>none else none
       |none=>none else match ofD (.ag [D.str op,D.str nm,D.sl 5 ks,D.int .i64 p])with
       |some f169=>if mok (-8589934592:Int) B.b f169 (l - 1)then match bothF (ByteArray.mk #[124]) f169 true false (l - 1)with
        |some (Fm.mk o170 n171 ks172 p173,l174)=>k [.d true 5 (.ag [D.str o170,D.str n171,D.sl 5 (Fm.dL ks172),D.int .i64 p173])] [.ob true [.d false 0 (.int .i64 l174)]]
        |none=>none else none
       |none=>none else if(op.toList==[70])=true then if(op.toList==[70])=true then match ofD (.ag [D.str op,D.str nm,D.sl 5 ks,D.int .i64 p])with
        |some f179=>if mok (0:Int) B.e f179 (l - 1)then match everF f179 t (l - 1)with
         |some (Fm.mk o180 n181 ks182 p183,l184)=>k [.d true 5 (.ag [D.str o180,D.str n181,D.sl 5 (Fm.dL ks182),D.int .i64 p183])] [.ob true [.d false 0 (.int .i64 l184)]]
         |none=>none else none
        |none=>none else if(op.toList==[87])=true then match ofD (.ag [D.str op,D.str nm,D.sl 5 ks,D.int .i64 p])with
         |some f188=>if mok (0:Int) B.w f188 (l - 1)then match weakF f188 t (l - 1)with
          |some (Fm.mk o189 n190 ks191 p192,l193)=>k [.d true 5 (.ag [D.str o189,D.str n190,D.sl 5 (Fm.dL ks191),D.int .i64 p192])] [.ob true [.d false 0 (.int .i64 l193)]]
          |none=>none else none
         |none=>none else k [.d false 5 (.ag [D.str (dualB op),D.str (ByteArray.mk #[]),D.sl 5 [],D.int .i64 0])] [.ob true [.d false 0 (.int .i64 (l - 1))]]else if(op.toList==[71])=true then match ofD (.ag [D.str op,D.str nm,D.sl 5 ks,D.int .i64 p])with
        |some f198=>if mok (0:Int) B.e f198 (l - 1)then match everF f198 t (l - 1)with
         |some (Fm.mk o199 n200 ks201 p202,l203)=>k [.d true 5 (.ag [D.str o199,D.str n200,D.sl 5 (Fm.dL ks201),D.int .i64 p202])] [.ob true [.d false 0 (.int .i64 l203)]]
         |none=>none else none
        |none=>none else if(op.toList==[87])=true then match ofD (.ag [D.str op,D.str nm,D.sl 5 ks,D.int .i64 p])with
         |some f207=>if mok (0:Int) B.w f207 (l - 1)then match weakF f207 t (l - 1)with
          |some (Fm.mk o208 n209 ks210 p211,l212)=>k [.d true 5 (.ag [D.str o208,D.str n209,D.sl 5 (Fm.dL ks210),D.int .i64 p211])] [.ob true [.d false 0 (.int .i64 l212)]]
          |none=>none else none
         |none=>none else k [.d false 5 (.ag [D.str (dualB op),D.str (ByteArray.mk #[]),D.sl 5 [],D.int .i64 0])] [.ob true [.d false 0 (.int .i64 (l - 1))]]else if(op.toList==[124])=true then match ofD (.ag [D.str op,D.str nm,D.sl 5 ks,D.int .i64 p])with
     |some f217=>if mok (-8589934592:Int) B.b f217 (l - 1)then match bothF (dualB op) f217 t t (l - 1)with
      |some (Fm.mk o218 n219 ks220 p221,l222)=>k [.d true 5 (.ag [D.str o218,D.str n219,D.sl 5 (Fm.dL ks220),D.int .i64 p221])] [.ob true [.d false 0 (.int .i64 l222)]]
      |none=>none else none
     |none=>none else if(op.toList==[85])=true then if(op.toList==[85])=true then match ofD (.ag [D.str op,D.str nm,D.sl 5 ks,D.int .i64 p])with
      |some f227=>if mok (-8589934592:Int) B.b f227 (l - 1)then match bothF (dualB op) f227 t t (l - 1)with
       |some (Fm.mk o228 n229 ks230 p231,l232)=>k [.d true 5 (.ag [D.str o228,D.str n229,D.sl 5 (Fm.dL ks230),D.int .i64 p231])] [.ob true [.d false 0 (.int .i64 l232)]]
       |none=>none else none
      |none=>none else if(op.toList==[61,62])=true then if t=true then match ofD (.ag [D.str op,D.str nm,D.sl 5 ks,D.int .i64 p])with
       |some f238=>if mok (-8589934592:Int) B.b f238 (l - 1)then match bothF (ByteArray.mk #[38]) f238 false true (l - 1)with
        |some (Fm.mk o239 n240 ks241 p242,l243)=>k [.d true 5 (.ag [D.str o239,D.str n240,D.sl 5 (Fm.dL ks241),D.int .i64 p242])] [.ob true [.d false 0 (.int .i64 l243)]]
        |none=>none else none
       |none=>none else match ofD (.ag [D.str op,D.str nm,D.sl 5 ks,D.int .i64 p])with
       |some f245=>if mok (-8589934592:Int) B.b f245 (l - 1)then match bothF (ByteArray.mk #[124]) f245 true false (l - 1)with
        |some (Fm.mk o246 n247 ks248 p249,l250)=>k [.d true 5 (.ag [D.str o246,D.str n247,D.sl 5 (Fm.dL ks248),D.int .i64 p249])] [.ob true [.d false 0 (.int .i64 l250)]]
        |none=>none else none
       |none=>none else if(op.toList==[70])=true then if(op.toList==[70])=true then match ofD (.ag [D.str op,D.str nm,D.sl 5 ks,D.int .i64 p])with
        |some f255=>if mok (0:Int) B.e f255 (l - 1)then match everF f255 t (l - 1)with
         |some (Fm.mk o256 n257 ks258 p259,l260)=>k [.d true 5 (.ag [D.str o256,D.str n257,D.sl 5 (Fm.dL ks258),D.int .i64 p259])] [.ob true [.d false 0 (.int .i64 l260)]]
         |none=>none else none
        |none=>none else if(op.toList==[87])=true then match ofD (.ag [D.str op,D.str nm,D.sl 5 ks,D.int .i64 p])with
         |some f264=>if mok (0:Int) B.w f264 (l - 1)then match weakF f264 t (l - 1)with
          |some (Fm.mk o265 n266 ks267 p268,l269)=>k [.d true 5 (.ag [D.str o265,D.str n266,D.sl 5 (Fm.dL ks267),D.int .i64 p268])] [.ob true [.d false 0 (.int .i64 l269)]]
          |none=>none else none
         |none=>none else k [.d false 5 (.ag [D.str (dualB op),D.str (ByteArray.mk #[]),D.sl 5 [],D.int .i64 0])] [.ob true [.d false 0 (.int .i64 (l - 1))]]else if(op.toList==[71])=true then match ofD (.ag [D.str op,D.str nm,D.sl 5 ks,D.int .i64 p])with
        |some f274=>if mok (0:Int) B.e f274 (l - 1)then match everF f274 t (l - 1)with
         |some (Fm.mk o275 n276 ks277 p278,l279)=>k [.d true 5 (.ag [D.str o275,D.str n276,D.sl 5 (Fm.dL ks277),D.int .i64 p278])] [.ob true [.d false 0 (.int .i64 l279)]]
         |none=>none else none
        |none=>none else if(op.toList==[87])=true then match ofD (.ag [D.str op,D.str nm,D.sl 5 ks,D.int .i64 p])with
         |some f283=>if mok (0:Int) B.w f283 (l - 1)then match weakF f283 t (l - 1)with
          |some (Fm.mk o284 n285 ks286 p287,l288)=>k [.d true 5 (.ag [D.str o284,D.str n285,D.sl 5 (Fm.dL ks286),D.int .i64 p287])] [.ob true [.d false 0 (.int .i64 l288)]]
          |none=>none else none
         |none=>none else k [.d false 5 (.ag [D.str (dualB op),D.str (ByteArray.mk #[]),D.sl 5 [],D.int .i64 0])] [.ob true [.d false 0 (.int .i64 (l - 1))]]else if(op.toList==[82])=true then match ofD (.ag [D.str op,D.str nm,D.sl 5 ks,D.int .i64 p])with
      |some f293=>if mok (-8589934592:Int) B.b f293 (l - 1)then match bothF (dualB op) f293 t t (l - 1)with
       |some (Fm.mk o294 n295 ks296 p297,l298)=>k [.d true 5 (.ag [D.str o294,D.str n295,D.sl 5 (Fm.dL ks296),D.int .i64 p297])] [.ob true [.d false 0 (.int .i64 l298)]]
       |none=>none else none
      |none=>none else if(op.toList==[61,62])=true then if t=true then match ofD (.ag [D.str op,D.str nm,D.sl 5 ks,D.int .i64 p])with
       |some f304=>if mok (-8589934592:Int) B.b f304 (l - 1)then match bothF (ByteArray.mk #[38]) f304 false true (l - 1)with
        |some (Fm.mk o305 n306 ks307 p308,l309)=>k [.d true 5 (.ag [D.str o305,D.str n306,D.sl 5 (Fm.dL ks307),D.int .i64 p308])] [.ob true [.d false 0 (.int .i64 l309)]]
        |none=>none else none
       |none=>none else match ofD (.ag [D.str op,D.str nm,D.sl 5 ks,D.int .i64 p])with
       |some f311=>if mok (-8589934592:Int) B.b f311 (l - 1)then match bothF (ByteArray.mk #[124]) f311 true false (l - 1)with
        |some (Fm.mk o312 n313 ks314 p315,l316)=>k [.d true 5 (.ag [D.str o312,D.str n313,D.sl 5 (Fm.dL ks314),D.int .i64 p315])] [.ob true [.d false 0 (.int .i64 l316)]]
        |none=>none else none
       |none=>none else if(op.toList==[70])=true then if(op.toList==[70])=true then match ofD (.ag [D.str op,D.str nm,D.sl 5 ks,D.int .i64 p])with
        |some f321=>if mok (0:Int) B.e f321 (l - 1)then match everF f321 t (l - 1)with
         |some (Fm.mk o322 n323 ks324 p325,l326)=>k [.d true 5 (.ag [D.str o322,D.str n323,D.sl 5 (Fm.dL ks324),D.int .i64 p325])] [.ob true [.d false 0 (.int .i64 l326)]]
         |none=>none else none
        |none=>none else if(op.toList==[87])=true then match ofD (.ag [D.str op,D.str nm,D.sl 5 ks,D.int .i64 p])with
         |some f330=>if mok (0:Int) B.w f330 (l - 1)then match weakF f330 t (l - 1)with
          |some (Fm.mk o331 n332 ks333 p334,l335)=>k [.d true 5 (.ag [D.str o331,D.str n332,D.sl 5 (Fm.dL ks333),D.int .i64 p334])] [.ob true [.d false 0 (.int .i64 l335)]]
          |none=>none else none
         |none=>none else k [.d false 5 (.ag [D.str (dualB op),D.str (ByteArray.mk #[]),D.sl 5 [],D.int .i64 0])] [.ob true [.d false 0 (.int .i64 (l - 1))]]else if(op.toList==[71])=true then match ofD (.ag [D.str op,D.str nm,D.sl 5 ks,D.int .i64 p])with
        |some f340=>if mok (0:Int) B.e f340 (l - 1)then match everF f340 t (l - 1)with
         |some (Fm.mk o341 n342 ks343 p344,l345)=>k [.d true 5 (.ag [D.str o341,D.str n342,D.sl 5 (Fm.dL ks343),D.int .i64 p344])] [.ob true [.d false 0 (.int .i64 l345)]]
         |none=>none else none
        |none=>none else if(op.toList==[87])=true then match ofD (.ag [D.str op,D.str nm,D.sl 5 ks,D.int .i64 p])with
         |some f349=>if mok (0:Int) B.w f349 (l - 1)then match weakF f349 t (l - 1)with
          |some (Fm.mk o350 n351 ks352 p353,l354)=>k [.d true 5 (.ag [D.str o350,D.str n351,D.sl 5 (Fm.dL ks352),D.int .i64 p353])] [.ob true [.d false 0 (.int .i64 l354)]]
          |none=>none else none
         |none=>none else k [.d false 5 (.ag [D.str (dualB op),D.str (ByteArray.mk #[]),D.sl 5 [],D.int .i64 0])] [.ob true [.d false 0 (.int .i64 (l - 1))]]else if(op.toList==[108,97,98,101,108])=true then if t=true then if(-1099511627776:Int)≤l - 1∧l - 1≤(1099511627776:Int)then if(!decide (l - 1 - (1:Int)<0))=true then k [.d true 5 (.ag [D.str (ByteArray.mk #[33]),D.str (ByteArray.mk #[]),D.sl 5 [D.ag [D.str (ByteArray.mk #[108,97,98,101,108]),D.str nm,D.sl 5 [],D.int .i64 0]],D.int .i64 0])] [.ob true [.d false 0 (.int .i64 (l - 1 - (1:Int)))]]else k [.d true 5 (.ag [D.str (ByteArray.mk #[108,97,98,101,108]),D.str nm,D.sl 5 [],D.int .i64 0])] [.ob true [.d false 0 (.int .i64 (l - 1 - (1:Int)))]]else none else k [.d true 5 (.ag [D.str (ByteArray.mk #[108,97,98,101,108]),D.str nm,D.sl 5 [],D.int .i64 0])] [.ob true [.d false 0 (.int .i64 (l - 1))]]else if(op.toList==[33])=true then match ks[0]? with
   |some x370=>match x370 with
    |D.ag xs371=>match xs371 with
     |x372::r373=>match x372 with
      |D.str s374=>match r373 with
       |x375::r376=>match x375 with
        |D.str s377=>match r376 with
         |x378::r379=>match x378 with
          |D.sl sh380 xs381=>if sh380=5 then match r379 with
           |x382::r383=>match x382 with
            |D.int j384 m385=>if j384=IntKind.i64 then match r383 with
             |[]=>match ofD (.ag [D.str s374,D.str s377,D.sl 5 xs381,D.int .i64 m385])with
              |some f387=>if mok (-17179869184:Int) B.m f387 (IntKind.wrap .i64 (l - 1+(1:Int)))then match makeF f387 (!t) (IntKind.wrap .i64 (l - 1+(1:Int)))with
               |some (Fm.mk o388 n389 ks390 p391,l392)=>k [.d true 5 (.ag [D.str o388,D.str n389,D.sl 5 (Fm.dL ks390),D.int .i64 p391])] [.ob true [.d false 0 (.int .i64 l392)]]
               |none=>none else none
              |none=>none
             |x=>none else none
            |x=>none
           |[]=>none else none
          |x=>none
         |[]=>none
        |x=>none
       |[]=>none
      |x=>none
     |[]=>none
    |x=>none
   |none=>none else if(op.toList==[88])=true then match ks[0]? with
    |some x396=>match x396 with
     |D.ag xs397=>match xs397 with
      |x398::r399=>match x398 with
       |D.str s400=>match r399 with
        |x401::r402=>match x401 with
         |D.str s403=>match r402 with
          |x404::r405=>match x404 with
           |D.sl sh406 xs407=>if sh406=5 then match r405 with
            |x408::r409=>match x408 with
             |D.int j410 m411=>if j410=IntKind.i64 then match r409 with
              |[]=>match ofD (.ag [D.str s400,D.str s403,D.sl 5 xs407,D.int .i64 m411])with
               |some f413=>if mok (-17179869184:Int) B.m f413 (l - 1)then match makeF f413 t (l - 1)with
                |some (Fm.mk o414 n415 ks416 p417,l418)=>k [.d true 5 (.ag [D.str (ByteArray.mk #[88]),D.str (ByteArray.mk #[]),D.sl 5 [fmD o414 n415 (Fm.dL ks416) p417],D.int .i64 0])] [.ob true [.d false 0 (.int .i64 l418)]]
                |none=>none else none
               |none=>none
              |x=>none else none
             |x=>none
            |[]=>none else none
           |x=>none
          |[]=>none
         |x=>none
        |[]=>none
       |x=>none
      |[]=>none
     |x=>none
    |none=>none else if(op.toList==[38])=true then if(op.toList==[38])=true then match ofD (.ag [D.str op,D.str nm,D.sl 5 ks,D.int .i64 p])with
     |some f423=>if mok (-8589934592:Int) B.b f423 (l - 1)then match bothF op f423 t t (l - 1)with
      |some (Fm.mk o424 n425 ks426 p427,l428)=>k [.d true 5 (.ag [D.str o424,D.str n425,D.sl 5 (Fm.dL ks426),D.int .i64 p427])] [.ob true [.d false 0 (.int .i64 l428)]]
      |none=>none else none
     |none=>none else if(op.toList==[85])=true then if(op.toList==[85])=true then match ofD (.ag [D.str op,D.str nm,D.sl 5 ks,D.int .i64 p])with
      |some f433=>if mok (-8589934592:Int) B.b f433 (l - 1)then match bothF op f433 t t (l - 1)with
       |some (Fm.mk o434 n435 ks436 p437,l438)=>k [.d true 5 (.ag [D.str o434,D.str n435,D.sl 5 (Fm.dL ks436),D.int .i64 p437])] [.ob true [.d false 0 (.int .i64 l438)]]
       |none=>none else none
      |none=>none else if(op.toList==[61,62])=true then if t=true then match ofD (.ag [D.str op,D.str nm,D.sl 5 ks,D.int .i64 p])with
       |some f444=>if mok (-8589934592:Int) B.b f444 (l - 1)then match bothF (ByteArray.mk #[38]) f444 false true (l - 1)with
        |some (Fm.mk o445 n446 ks447 p448,l449)=>k [.d true 5 (.ag [D.str o445,D.str n446,D.sl 5 (Fm.dL ks447),D.int .i64 p448])] [.ob true [.d false 0 (.int .i64 l449)]]
        |none=>none else none
       |none=>none else match ofD (.ag [D.str op,D.str nm,D.sl 5 ks,D.int .i64 p])with
       |some f451=>if mok (-8589934592:Int) B.b f451 (l - 1)then match bothF (ByteArray.mk #[124]) f451 true false (l - 1)with
        |some (Fm.mk o452 n453 ks454 p455,l456)=>k [.d true 5 (.ag [D.str o452,D.str n453,D.sl 5 (Fm.dL ks454),D.int .i64 p455])] [.ob true [.d false 0 (.int .i64 l456)]]
        |none=>none else none
       |none=>none else if(op.toList==[70])=true then if(op.toList==[70])=true then match ofD (.ag [D.str op,D.str nm,D.sl 5 ks,D.int .i64 p])with
        |some f461=>if mok (0:Int) B.e f461 (l - 1)then match everF f461 t (l - 1)with
         |some (Fm.mk o462 n463 ks464 p465,l466)=>k [.d true 5 (.ag [D.str o462,D.str n463,D.sl 5 (Fm.dL ks464),D.int .i64 p465])] [.ob true [.d false 0 (.int .i64 l466)]]
         |none=>none else none
        |none=>none else if(op.toList==[87])=true then match ofD (.ag [D.str op,D.str nm,D.sl 5 ks,D.int .i64 p])with
         |some f470=>if mok (0:Int) B.w f470 (l - 1)then match weakF f470 t (l - 1)with
          |some (Fm.mk o471 n472 ks473 p474,l475)=>k [.d true 5 (.ag [D.str o471,D.str n472,D.sl 5 (Fm.dL ks473),D.int .i64 p474])] [.ob true [.d false 0 (.int .i64 l475)]]
          |none=>none else none
         |none=>none else k [.d false 5 (.ag [D.str op,D.str (ByteArray.mk #[]),D.sl 5 [],D.int .i64 0])] [.ob true [.d false 0 (.int .i64 (l - 1))]]else if(op.toList==[71])=true then match ofD (.ag [D.str op,D.str nm,D.sl 5 ks,D.int .i64 p])with
        |some f480=>if mok (0:Int) B.e f480 (l - 1)then match everF f480 t (l - 1)with
         |some (Fm.mk o481 n482 ks483 p484,l485)=>k [.d true 5 (.ag [D.str o481,D.str n482,D.sl 5 (Fm.dL ks483),D.int .i64 p484])] [.ob true [.d false 0 (.int .i64 l485)]]
         |none=>none else none
        |none=>none else if(op.toList==[87])=true then match ofD (.ag [D.str op,D.str nm,D.sl 5 ks,D.int .i64 p])with
         |some f489=>if mok (0:Int) B.w f489 (l - 1)then match weakF f489 t (l - 1)with
          |some (Fm.mk o490 n491 ks492 p493,l494)=>k [.d true 5 (.ag [D.str o490,D.str n491,D.sl 5 (Fm.dL ks492),D.int .i64 p493])] [.ob true [.d false 0 (.int .i64 l494)]]
          |none=>none else none
         |none=>none else k [.d false 5 (.ag [D.str op,D.str (ByteArray.mk #[]),D.sl 5 [],D.int .i64 0])] [.ob true [.d false 0 (.int .i64 (l - 1))]]else if(op.toList==[82])=true then match ofD (.ag [D.str op,D.str nm,D.sl 5 ks,D.int .i64 p])with
      |some f499=>if mok (-8589934592:Int) B.b f499 (l - 1)then match bothF op f499 t t (l - 1)with
       |some (Fm.mk o500 n501 ks502 p503,l504)=>k [.d true 5 (.ag [D.str o500,D.str n501,D.sl 5 (Fm.dL ks502),D.int .i64 p503])] [.ob true [.d false 0 (.int .i64 l504)]]
       |none=>none else none
      |none=>none else if(op.toList==[61,62])=true then if t=true then match ofD (.ag [D.str op,D.str nm,D.sl 5 ks,D.int .i64 p])with
       |some f510=>if mok (-8589934592:Int) B.b f510 (l - 1)then match bothF (ByteArray.mk #[38]) f510 false true (l - 1)with
        |some (Fm.mk o511 n512 ks513 p514,l515)=>k [.d true 5 (.ag [D.str o511,D.str n512,D.sl 5 (Fm.dL ks513),D.int .i64 p514])] [.ob true [.d false 0 (.int .i64 l515)]]
        |none=>none else none
       |none=>none else match ofD (.ag [D.str op,D.str nm,D.sl 5 ks,D.int .i64 p])with
       |some f517=>if mok (-8589934592:Int) B.b f517 (l - 1)then match bothF (ByteArray.mk #[124]) f517 true false (l - 1)with
        |some (Fm.mk o518 n519 ks520 p521,l522)=>k [.d true 5 (.ag [D.str o518,D.str n519,D.sl 5 (Fm.dL ks520),D.int .i64 p521])] [.ob true [.d false 0 (.int .i64 l522)]]
        |none=>none else none
       |none=>none else if(op.toList==[70])=true then if(op.toList==[70])=true then match ofD (.ag [D.str op,D.str nm,D.sl 5 ks,D.int .i64 p])with
        |some f527=>if mok (0:Int) B.e f527 (l - 1)then match everF f527 t (l - 1)with
         |some (Fm.mk o528 n529 ks530 p531,l532)=>k [.d true 5 (.ag [D.str o528,D.str n529,D.sl 5 (Fm.dL ks530),D.int .i64 p531])] [.ob true [.d false 0 (.int .i64 l532)]]
         |none=>none else none
        |none=>none else if(op.toList==[87])=true then match ofD (.ag [D.str op,D.str nm,D.sl 5 ks,D.int .i64 p])with
         |some f536=>if mok (0:Int) B.w f536 (l - 1)then match weakF f536 t (l - 1)with
          |some (Fm.mk o537 n538 ks539 p540,l541)=>k [.d true 5 (.ag [D.str o537,D.str n538,D.sl 5 (Fm.dL ks539),D.int .i64 p540])] [.ob true [.d false 0 (.int .i64 l541)]]
          |none=>none else none
         |none=>none else k [.d false 5 (.ag [D.str op,D.str (ByteArray.mk #[]),D.sl 5 [],D.int .i64 0])] [.ob true [.d false 0 (.int .i64 (l - 1))]]else if(op.toList==[71])=true then match ofD (.ag [D.str op,D.str nm,D.sl 5 ks,D.int .i64 p])with
        |some f546=>if mok (0:Int) B.e f546 (l - 1)then match everF f546 t (l - 1)with
         |some (Fm.mk o547 n548 ks549 p550,l551)=>k [.d true 5 (.ag [D.str o547,D.str n548,D.sl 5 (Fm.dL ks549),D.int .i64 p550])] [.ob true [.d false 0 (.int .i64 l551)]]
         |none=>none else none
        |none=>none else if(op.toList==[87])=true then match ofD (.ag [D.str op,D.str nm,D.sl 5 ks,D.int .i64 p])with
         |some f555=>if mok (0:Int) B.w f555 (l - 1)then match weakF f555 t (l - 1)with
          |some (Fm.mk o556 n557 ks558 p559,l560)=>k [.d true 5 (.ag [D.str o556,D.str n557,D.sl 5 (Fm.dL ks558),D.int .i64 p559])] [.ob true [.d false 0 (.int .i64 l560)]]
          |none=>none else none
         |none=>none else k [.d false 5 (.ag [D.str op,D.str (ByteArray.mk #[]),D.sl 5 [],D.int .i64 0])] [.ob true [.d false 0 (.int .i64 (l - 1))]]else if(op.toList==[124])=true then match ofD (.ag [D.str op,D.str nm,D.sl 5 ks,D.int .i64 p])with
     |some f565=>if mok (-8589934592:Int) B.b f565 (l - 1)then match bothF op f565 t t (l - 1)with
      |some (Fm.mk o566 n567 ks568 p569,l570)=>k [.d true 5 (.ag [D.str o566,D.str n567,D.sl 5 (Fm.dL ks568),D.int .i64 p569])] [.ob true [.d false 0 (.int .i64 l570)]]
      |none=>none else none
     |none=>none else if(op.toList==[85])=true then if(op.toList==[85])=true then match ofD (.ag [D.str op,D.str nm,D.sl 5 ks,D.int .i64 p])with
      |some f575=>if mok (-8589934592:Int) B.b f575 (l - 1)then match bothF op f575 t t (l - 1)with
       |some (Fm.mk o576 n577 ks578 p579,l580)=>k [.d true 5 (.ag [D.str o576,D.str n577,D.sl 5 (Fm.dL ks578),D.int .i64 p579])] [.ob true [.d false 0 (.int .i64 l580)]]
       |none=>none else none
      |none=>none else if(op.toList==[61,62])=true then if t=true then match ofD (.ag [D.str op,D.str nm,D.sl 5 ks,D.int .i64 p])with
       |some f586=>if mok (-8589934592:Int) B.b f586 (l - 1)then match bothF (ByteArray.mk #[38]) f586 false true (l - 1)with
        |some (Fm.mk o587 n588 ks589 p590,l591)=>k [.d true 5 (.ag [D.str o587,D.str n588,D.sl 5 (Fm.dL ks589),D.int .i64 p590])] [.ob true [.d false 0 (.int .i64 l591)]]
        |none=>none else none
       |none=>none else match ofD (.ag [D.str op,D.str nm,D.sl 5 ks,D.int .i64 p])with
       |some f593=>if mok (-8589934592:Int) B.b f593 (l - 1)then match bothF (ByteArray.mk #[124]) f593 true false (l - 1)with
        |some (Fm.mk o594 n595 ks596 p597,l598)=>k [.d true 5 (.ag [D.str o594,D.str n595,D.sl 5 (Fm.dL ks596),D.int .i64 p597])] [.ob true [.d false 0 (.int .i64 l598)]]
        |none=>none else none
       |none=>none else if(op.toList==[70])=true then if(op.toList==[70])=true then match ofD (.ag [D.str op,D.str nm,D.sl 5 ks,D.int .i64 p])with
        |some f603=>if mok (0:Int) B.e f603 (l - 1)then match everF f603 t (l - 1)with
         |some (Fm.mk o604 n605 ks606 p607,l608)=>k [.d true 5 (.ag [D.str o604,D.str n605,D.sl 5 (Fm.dL ks606),D.int .i64 p607])] [.ob true [.d false 0 (.int .i64 l608)]]
         |none=>none else none
        |none=>none else if(op.toList==[87])=true then match ofD (.ag [D.str op,D.str nm,D.sl 5 ks,D.int .i64 p])with
         |some f612=>if mok (0:Int) B.w f612 (l - 1)then match weakF f612 t (l - 1)with
          |some (Fm.mk o613 n614 ks615 p616,l617)=>k [.d true 5 (.ag [D.str o613,D.str n614,D.sl 5 (Fm.dL ks615),D.int .i64 p616])] [.ob true [.d false 0 (.int .i64 l617)]]
          |none=>none else none
         |none=>none else k [.d false 5 (.ag [D.str op,D.str (ByteArray.mk #[]),D.sl 5 [],D.int .i64 0])] [.ob true [.d false 0 (.int .i64 (l - 1))]]else if(op.toList==[71])=true then match ofD (.ag [D.str op,D.str nm,D.sl 5 ks,D.int .i64 p])with
        |some f622=>if mok (0:Int) B.e f622 (l - 1)then match everF f622 t (l - 1)with
         |some (Fm.mk o623 n624 ks625 p626,l627)=>k [.d true 5 (.ag [D.str o623,D.str n624,D.sl 5 (Fm.dL ks625),D.int .i64 p626])] [.ob true [.d false 0 (.int .i64 l627)]]
         |none=>none else none
        |none=>none else if(op.toList==[87])=true then match ofD (.ag [D.str op,D.str nm,D.sl 5 ks,D.int .i64 p])with
         |some f631=>if mok (0:Int) B.w f631 (l - 1)then match weakF f631 t (l - 1)with
          |some (Fm.mk o632 n633 ks634 p635,l636)=>k [.d true 5 (.ag [D.str o632,D.str n633,D.sl 5 (Fm.dL ks634),D.int .i64 p635])] [.ob true [.d false 0 (.int .i64 l636)]]
          |none=>none else none
         |none=>none else k [.d false 5 (.ag [D.str op,D.str (ByteArray.mk #[]),D.sl 5 [],D.int .i64 0])] [.ob true [.d false 0 (.int .i64 (l - 1))]]else if(op.toList==[82])=true then match ofD (.ag [D.str op,D.str nm,D.sl 5 ks,D.int .i64 p])with
      |some f641=>if mok (-8589934592:Int) B.b f641 (l - 1)then match bothF op f641 t t (l - 1)with
       |some (Fm.mk o642 n643 ks644 p645,l646)=>k [.d true 5 (.ag [D.str o642,D.str n643,D.sl 5 (Fm.dL ks644),D.int .i64 p645])] [.ob true [.d false 0 (.int .i64 l646)]]
       |none=>none else none
      |none=>none else if(op.toList==[61,62])=true then if t=true then match ofD (.ag [D.str op,D.str nm,D.sl 5 ks,D.int .i64 p])with
       |some f652=>if mok (-8589934592:Int) B.b f652 (l - 1)then match bothF (ByteArray.mk #[38]) f652 false true (l - 1)with
        |some (Fm.mk o653 n654 ks655 p656,l657)=>k [.d true 5 (.ag [D.str o653,D.str n654,D.sl 5 (Fm.dL ks655),D.int .i64 p656])] [.ob true [.d false 0 (.int .i64 l657)]]
        |none=>none else none
       |none=>none else match ofD (.ag [D.str op,D.str nm,D.sl 5 ks,D.int .i64 p])with
       |some f659=>if mok (-8589934592:Int) B.b f659 (l - 1)then match bothF (ByteArray.mk #[124]) f659 true false (l - 1)with
        |some (Fm.mk o660 n661 ks662 p663,l664)=>k [.d true 5 (.ag [D.str o660,D.str n661,D.sl 5 (Fm.dL ks662),D.int .i64 p663])] [.ob true [.d false 0 (.int .i64 l664)]]
        |none=>none else none
       |none=>none else if(op.toList==[70])=true then if(op.toList==[70])=true then match ofD (.ag [D.str op,D.str nm,D.sl 5 ks,D.int .i64 p])with
        |some f669=>if mok (0:Int) B.e f669 (l - 1)then match everF f669 t (l - 1)with
         |some (Fm.mk o670 n671 ks672 p673,l674)=>k [.d true 5 (.ag [D.str o670,D.str n671,D.sl 5 (Fm.dL ks672),D.int .i64 p673])] [.ob true [.d false 0 (.int .i64 l674)]]
         |none=>none else none
        |none=>none else if(op.toList==[87])=true then match ofD (.ag [D.str op,D.str nm,D.sl 5 ks,D.int .i64 p])with
         |some f678=>if mok (0:Int) B.w f678 (l - 1)then match weakF f678 t (l - 1)with
          |some (Fm.mk o679 n680 ks681 p682,l683)=>k [.d true 5 (.ag [D.str o679,D.str n680,D.sl 5 (Fm.dL ks681),D.int .i64 p682])] [.ob true [.d false 0 (.int .i64 l683)]]
          |none=>none else none
         |none=>none else k [.d false 5 (.ag [D.str op,D.str (ByteArray.mk #[]),D.sl 5 [],D.int .i64 0])] [.ob true [.d false 0 (.int .i64 (l - 1))]]else if(op.toList==[71])=true then match ofD (.ag [D.str op,D.str nm,D.sl 5 ks,D.int .i64 p])with
        |some f688=>if mok (0:Int) B.e f688 (l - 1)then match everF f688 t (l - 1)with
         |some (Fm.mk o689 n690 ks691 p692,l693)=>k [.d true 5 (.ag [D.str o689,D.str n690,D.sl 5 (Fm.dL ks691),D.int .i64 p692])] [.ob true [.d false 0 (.int .i64 l693)]]
         |none=>none else none
        |none=>none else if(op.toList==[87])=true then match ofD (.ag [D.str op,D.str nm,D.sl 5 ks,D.int .i64 p])with
         |some f697=>if mok (0:Int) B.w f697 (l - 1)then match weakF f697 t (l - 1)with
          |some (Fm.mk o698 n699 ks700 p701,l702)=>k [.d true 5 (.ag [D.str o698,D.str n699,D.sl 5 (Fm.dL ks700),D.int .i64 p701])] [.ob true [.d false 0 (.int .i64 l702)]]
          |none=>none else none
         |none=>none else k [.d false 5 (.ag [D.str op,D.str (ByteArray.mk #[]),D.sl 5 [],D.int .i64 0])] [.ob true [.d false 0 (.int .i64 (l - 1))]]else none:=by kernel_rfl
end
end M61
end Go.Sd
namespace Go.Sd
open Go Go.Cm Go.Proofs Go.Sc
set_option maxRecDepth 100000
theorem valid_up {gl:Gl} {P:Program} {f:FuncId} {args outs:List TV} {t:Bool} {sh:Nat} {x:D} (h:Valid gl P f args [.d t sh x] outs):Valid gl P f args [.d true sh x] outs:=by
 intro w us M g hG hr ha hM
 refine(h w us M g hG hr ha hM).mono fun e w'=>?_
 rintro⟨rs,M',e1,B⟩
 refine⟨rs,M',e1,⟨B.len,?_,B.nodup,B.mem,B.size,B.old,B.os,B.tape,B.output⟩⟩
 have h2:=B.rt
 simp only[List.cons_append,RTs]at h2 ⊢
 obtain⟨u,rest,M1,M2,k1,k2,h3,h4⟩:=h2
 refine⟨u,rest,M1,M2,k1,k2,?_,h4⟩
 simp only[RT]at h3 ⊢
 refine⟨h3.1,h3.2.1,RA.mono (fun b hb=>⟨⟨hb.1,hb.2.1,?_⟩,rfl⟩) _ _ h3.2.2⟩
 rcases hb.2.2 with h5|h5
 ·exact .inl ⟨rfl,h5.2⟩
 ·exact .inr h5
def ansT {β:Type} (t:Bool) (k:List TV→List TV→Option β):Option (Fm×Int)→Option β
 |some (.mk o n ks p,l)=>k [.d t 5 (fmD o n (Fm.dL ks) p)] [mkr l]
 |none=>none
theorem ansM_out {β:Type} {k:List TV→List TV→Option β} {x:Option (Fm×Int)} {r:β} (h:ansM k x=some r):
  ∃y outs,k [.d true 5 y] outs=some r∧∀(t:Bool) {γ:Type} (q:List TV→List TV→Option γ),ansT t q x=q [.d t 5 y] outs:=by
 cases x with
 |none=>cases h
 |some v=>
  obtain⟨⟨o,n,ks,p⟩,l⟩:=v
  exact⟨_,_,h,fun t {γ} q=>rfl⟩
theorem kid_ok {lo l:Int} {b bm:Option Nat} {op nm:ByteArray} {ks:List Fm} {p:Int} (h:mok lo b (.mk op nm ks p) l) (hb:∀n,bm=some n→(Fm.mk op nm ks p).dep≤n) {g:Fm} (hg:g∈ks) {l2:Int} (h1: -17179869184≤l2) (h2:l2≤17179869184):
  mok (-17179869184) bm g l2:=by
 have hd:=dep_mem hg
 have h3:=h.2.1
 simp only[Fm.dep]at h3
 exact⟨(bd_kids h.1.1 hb).2 g hg,by omega,h1,h2⟩
theorem lft_of {f:Fm} {not:Bool} {l:Int} {r:Fm×Int} (e:makeF f not l=some r):Lft f.dep l r.2:=makeF_lft f.dep f not l r (Nat.le_refl _) e
theorem ev_both {B:Mb} {f:Fm} {l:Int} (hb:∀n,B.m=some n→f.dep≤n) (h:mok (-8589934592) none f l) (op:ByteArray) (i j:Bool) (hno:bothF op f i j l≠none) {γ:Type} (q:List TV→List TV→Option γ):
  evalF Tryz.prog (RM B) Tryz.f83 [mkr l,.d true 0 (.str op),.d true 5 f.d,.d true 0 (.bool i),.d true 0 (.bool j)] q=ansT true q (bothF op f i j l):=by
 cases f with
 |mk o n ks p=>
  refine(M85.start B l op o n (Fm.dL ks) p i j q).trans ?_
  unfold bothF at hno ⊢
  have hl:=h.2.2
  have h3:=h.2.1
  simp only[Fm.dep]at h3
  match ks,hno with
  |[],hno=>exact(hno rfl).elim
  |[a],hno=>exact(hno rfl).elim
  |a::b::rs,hno=>
   simp only at hno ⊢
   have ka:=kid_ok h hb (.head _) (l2:=l) (by omega) (by omega)
   have hda:=dep_mem (show a∈a::b::rs from .head _)
   cases a with
   |mk oa na ksa pa=>
    have hofa:=ofD_d (.mk oa na ksa pa)
    simp only[Fm.d]at hofa
    simp only[Fm.dL,Fm.d,List.getElem?_cons_zero,List.getElem?_cons_succ,if_true,hofa,if_pos ka]
    cases hx:makeF (.mk oa na ksa pa) i l with
    |none=>rw[hx]at hno;exact(hno rfl).elim
    |some r=>
     have hlf:=lft_of hx
     obtain⟨⟨o2,n2,k2,p2⟩,l2⟩:=r
     rw[hx]at hno
     simp only[Lft]at hno hlf ⊢
     have kb:=kid_ok h hb (.tail _ (.head _)) (l2:=l2) (by
      rcases Int.lt_or_le l 0 with h0|h0
      ·have:=hlf.2.1 (by omega);omega
      ·have:=hlf.2.2 h0;omega) (by omega)
     cases b with
     |mk ob nb ksb pb=>
      have hofb:=ofD_d (.mk ob nb ksb pb)
      simp only[Fm.d]at hofb
      simp only[Fm.d,hofb,if_pos kb]
      cases hy:makeF (.mk ob nb ksb pb) j l2 with
      |none=>rw[hy]at hno;exact(hno rfl).elim
      |some r=>
       obtain⟨⟨o3,n3,k3,p3⟩,l3⟩:=r
       rfl
theorem ev_ever {B:Mb} {f:Fm} {l:Int} (hb:∀n,B.m=some n→f.dep≤n) (h:mok 0 none f l) (t:Bool) (hno:everF f t l≠none) {γ:Type} (q:List TV→List TV→Option γ):
  evalF Tryz.prog (RM B) Tryz.f84 [mkr l,.d true 5 f.d,.d true 0 (.bool t)] q=ansT true q (everF f t l):=by
 cases f with
 |mk o n ks p=>
  refine(M86.start B l o n (Fm.dL ks) p t q).trans ?_
  unfold everF at hno ⊢
  have hl:=h.2.2
  rw[if_pos (by omega)]
  match ks,hno with
  |[],hno=>exact(hno rfl).elim
  |a::rs,hno=>
   simp only at hno ⊢
   have ka:=kid_ok h hb (.head _) (l2:=l - 1) (by omega) (by omega)
   cases a with
   |mk oa na ksa pa=>
    have hofa:=ofD_d (.mk oa na ksa pa)
    simp only[Fm.d]at hofa
    simp only[Fm.dL,Fm.d,List.getElem?_cons_zero,List.getElem?_cons_succ,if_true,hofa,if_pos ka]
    cases hx:makeF (.mk oa na ksa pa) t (l - 1)with
    |none=>rw[hx]at hno;exact(hno rfl).elim
    |some r=>
     obtain⟨⟨o2,n2,k2,p2⟩,l2⟩:=r
     simp only
     cases h70:(o.toList==[70])<;>cases t<;>rfl
theorem ev_weak {B:Mb} {f:Fm} {l:Int} (hb:∀n,B.m=some n→f.dep≤n) (hb2:∀n,B.b=some n→f.dep<n) (h:mok 0 none f l) (t:Bool) (hno:weakF f t l≠none) {γ:Type} (q:List TV→List TV→Option γ):
  evalF Tryz.prog (RM B) Tryz.f85 [mkr l,.d true 5 f.d,.d true 0 (.bool t)] q=ansT true q (weakF f t l):=by
 cases f with
 |mk o n ks p=>
  refine(M87.start B l o n (Fm.dL ks) p t q).trans ?_
  unfold weakF at hno ⊢
  have hl:=h.2.2
  have h3:=h.2.1
  have hofs:=ofD_d (.mk o n ks p)
  simp only[Fm.d]at hofs
  simp only[Fm.dep]at h3
  match ks,hno with
  |[],hno=>exact(hno rfl).elim
  |[a],hno=>exact(hno rfl).elim
  |a::b::rs,hno=>
   simp only at hno
   have ka:=kid_ok h hb (show b∈a::b::rs from .tail _ (.head _)) (l2:=l - 1) (by omega) (by omega)
   have hda:=dep_mem (show b∈a::b::rs from .tail _ (.head _))
   have kb0:∀l2:Int, -8589934592≤l2→l2≤17179869184→mok (-8589934592) B.b (.mk o n (a::b::rs) p) l2:=fun l2 h1 h2=>⟨bd_none h.1 hb2,h.2.1,h1,h2⟩
   cases b with
   |mk oa na ksa pa=>
    have hofa:=ofD_d (.mk oa na ksa pa)
    simp only[Fm.d]at hofa
    simp only[Fm.dL,Fm.d]at hofs
    simp only[if_pos (show(-1099511627776:Int)≤l∧l≤1099511627776 by omega),Fm.dL,Fm.d,List.getElem?_cons_zero,List.getElem?_cons_succ,if_true,hofa,if_pos ka,hofs]
    cases hx:makeF (.mk oa na ksa pa) t (l - 1)with
    |none=>rw[hx]at hno;exact(hno rfl).elim
    |some r=>
     have hlf:=lft_of hx
     obtain⟨⟨o2,n2,k2,p2⟩,l2⟩:=r
     rw[hx]at hno
     simp only[Lft]at hno hlf ⊢
     have kb:=kb0 l2 (by
      rcases Int.lt_or_le (l - 1) 0 with h0|h0
      ·have:=hlf.2.1 (by omega);omega
      ·have:=hlf.2.2 h0;omega) (by omega)
     cases hy:makeF a t l2 with
     |none=>rw[hy]at hno;exact(hno rfl).elim
     |some r3=>
      obtain⟨x3,l3⟩:=r3
      rw[hy]at hno
      simp only at hno ⊢
      cases hz:makeF (.mk oa na ksa pa) t l3 with
      |none=>rw[hz]at hno;exact(hno rfl).elim
      |some r4=>
       obtain⟨x4,l4⟩:=r4
       have ebo:∀(op:ByteArray),bothF op (.mk o n (a::.mk oa na ksa pa::rs) p) t t l2=some (nd op [x3,x4],l4):=fun op=>by
        simp only[bothF,hy,hz]
       cases t with
       |true=>simp only[Bool.not_true,Bool.false_eq_true,if_false,if_true,if_pos kb,ebo];rfl
       |false=>simp only[Bool.not_false,Bool.false_eq_true,if_false,if_true,if_pos kb,ebo];rfl
end Go.Sd
namespace Go.Sd
open Go Go.Cm Go.Proofs Go.Sc
set_option maxRecDepth 100000
section
variable {op nm:ByteArray} {ks:List Fm} {p:Int} {l:Int} {t:Bool}
theorem mk_both (hl:¬l - 1<0) (h0:(op.toList==[108,97,98,101,108])=false) (h1:(op.toList==[33])=false) (h2:(op.toList==[88])=false) (h3:both4 op=true):
  makeF (.mk op nm ks p) t l=bothF (opN op t) (.mk op nm ks p) t t (l - 1):=by
 unfold makeF;simp only[if_neg hl,h0,h1,h2,h3,Bool.false_eq_true,if_false,if_true];rfl
theorem mk_imp (hl:¬l - 1<0) (h0:(op.toList==[108,97,98,101,108])=false) (h1:(op.toList==[33])=false) (h2:(op.toList==[88])=false) (h3:both4 op=false) (h4:(op.toList==[61,62])=true):
  makeF (.mk op nm ks p) t l=match t with|true=>bothF ⟨#[38]⟩ (.mk op nm ks p) false true (l - 1)|false=>bothF ⟨#[124]⟩ (.mk op nm ks p) true false (l - 1):=by
 unfold makeF;simp only[if_neg hl,h0,h1,h2,h3,h4,Bool.false_eq_true,if_false,if_true];cases t<;>rfl
theorem mk_ever (hl:¬l - 1<0) (h0:(op.toList==[108,97,98,101,108])=false) (h1:(op.toList==[33])=false) (h2:(op.toList==[88])=false) (h3:both4 op=false) (h4:(op.toList==[61,62])=false)
  (h5:(op.toList==[70]||op.toList==[71])=true):makeF (.mk op nm ks p) t l=everF (.mk op nm ks p) t (l - 1):=by
 unfold makeF;simp only[if_neg hl,h0,h1,h2,h3,h4,h5,Bool.false_eq_true,if_false,if_true];rfl
theorem mk_weak (hl:¬l - 1<0) (h0:(op.toList==[108,97,98,101,108])=false) (h1:(op.toList==[33])=false) (h2:(op.toList==[88])=false) (h3:both4 op=false) (h4:(op.toList==[61,62])=false)
  (h5:(op.toList==[70]||op.toList==[71])=false) (h6:(op.toList==[87])=true):makeF (.mk op nm ks p) t l=weakF (.mk op nm ks p) t (l - 1):=by
 unfold makeF;simp only[if_neg hl,h0,h1,h2,h3,h4,h5,h6,Bool.false_eq_true,if_false,if_true];rfl
theorem mk_last (hl:¬l - 1<0) (h0:(op.toList==[108,97,98,101,108])=false) (h1:(op.toList==[33])=false) (h2:(op.toList==[88])=false) (h3:both4 op=false) (h4:(op.toList==[61,62])=false)
  (h5:(op.toList==[70]||op.toList==[71])=false) (h6:(op.toList==[87])=false):makeF (.mk op nm ks p) t l=some (nd (opN op t) [],l - 1):=by
 unfold makeF;simp only[if_neg hl,h0,h1,h2,h3,h4,h5,h6,Bool.false_eq_true,if_false]
theorem mk_not (hl:¬l - 1<0) (h0:(op.toList==[108,97,98,101,108])=false) (h1:(op.toList==[33])=true):makeF (.mk op nm ks p) t l=match ks with|k::_=>makeF k (!t) (l - 1+1)|[]=>none:=by
 conv=>lhs;unfold makeF
 simp only[if_neg hl,h0,h1,Bool.false_eq_true,if_false,if_true]
 all_goals (cases ks<;>rfl)
theorem mk_x (hl:¬l - 1<0) (h0:(op.toList==[108,97,98,101,108])=false) (h1:(op.toList==[33])=false) (h2:(op.toList==[88])=true):
  makeF (.mk op nm ks p) t l=match ks with|k::_=>(match makeF k t (l - 1)with|some (x,l2)=>some (nd ⟨#[88]⟩ [x],l2)|none=>none)|[]=>none:=by
 conv=>lhs;unfold makeF
 simp only[if_neg hl,h0,h1,h2,Bool.false_eq_true,if_false,if_true]
 all_goals
  cases ks with
  |nil=>rfl
  |cons k rs=>
   simp only
   cases makeF k t (l - 1)with
   |none=>rfl
   |some r=>obtain⟨x,l2⟩:=r;rfl
end
set_option maxHeartbeats 4000000 in
theorem ev_make {B:Mb} {f:Fm} {l:Int} (hb:∀n,B.m=some n→f.dep≤n) (hb2:∀n,B.b=some n→f.dep<n) (he:∀n,B.e=some n→f.dep<n) (hw:∀n,B.w=some n→f.dep<n) (h:mok (-17179869184) none f l) (t:Bool) (hno:makeF f t l≠none):
  ∃s:Bool,∀{γ:Type} (q:List TV→List TV→Option γ),evalF Tryz.prog (RM B) Tryz.f52 [mkr l,.d true 5 f.d,.d true 0 (.bool t)] q=ansT s q (makeF f t l):=by
 cases f with
 |mk op nm ks p=>
  have hl0:=h.2.2
  have hofs:=ofD_d (.mk op nm ks p)
  simp only[Fm.d]at hofs
  have bnd:(-1099511627776:Int)≤l∧l≤1099511627776:=by omega
  have bnd1:(-1099511627776:Int)≤l - 1∧l - 1≤1099511627776:=by omega
  by_cases hl:l - 1<0
  ·refine⟨false,fun q=>(M61.start B l op nm (Fm.dL ks) p t q).trans ?_⟩
   rw[if_pos bnd,if_pos (by simpa using hl)]
   unfold makeF
   rw[if_pos hl];rfl
  have hl':¬decide (l - 1<0)=true:=by simpa using hl
  have kb:mok (-8589934592) B.b (.mk op nm ks p) (l - 1):=⟨bd_none h.1 hb2,h.2.1,by omega,by omega⟩
  have ke:mok 0 B.e (.mk op nm ks p) (l - 1):=⟨bd_none h.1 he,h.2.1,by omega,by omega⟩
  have kw:mok 0 B.w (.mk op nm ks p) (l - 1):=⟨bd_none h.1 hw,h.2.1,by omega,by omega⟩
  have hwr:IntKind.wrap .i64 (l - 1+1)=l - 1+1:=wrap_id (by omega) (by omega)
  cases h0:(op.toList==[108,97,98,101,108])with
  |true=>
   refine⟨true,fun q=>(M61.start B l op nm (Fm.dL ks) p t q).trans ?_⟩
   unfold makeF
   rw[if_pos bnd,if_neg hl',if_neg hl]
   cases t with
   |true=>
    simp only[h0,if_true,if_pos bnd1]
    by_cases h9:l - 1 - 1<0
    ·simp only[h9,decide_true,Bool.not_true,Bool.false_eq_true,if_false,if_true];rfl
    ·simp only[h9,decide_false,Bool.not_false,if_true,if_false];rfl
   |false=>simp only[h0,Bool.false_eq_true,if_false,if_true];rfl
  |false=>
  cases h1:(op.toList==[33])with
  |true=>
   rw[mk_not hl h0 h1]at hno ⊢
   match ks,hno,h with
   |[],hno,h=>exact(hno rfl).elim
   |.mk oa na ksa pa::rs,hno,h=>
    have ka:=kid_ok h hb (.head _) (l2:=l - 1+1) (by omega) (by omega)
    have hofa:=ofD_d (.mk oa na ksa pa)
    simp only[Fm.d]at hofa
    refine⟨true,fun q=>(M61.start B l op nm (Fm.dL (.mk oa na ksa pa::rs)) p t q).trans ?_⟩
    rw[if_pos bnd,if_neg hl']
    cases t with
    |true=>
     simp only[h0,h1,Bool.false_eq_true,if_false,if_true,Fm.dL,Fm.d,List.getElem?_cons_zero,hofa,hwr,if_pos ka,Bool.not_true,Bool.not_false]at hno ⊢
     cases hx:makeF (.mk oa na ksa pa) false (l - 1+1)with
     |none=>exact(hno hx).elim
     |some r=>obtain⟨⟨o2,n2,k2,p2⟩,l2⟩:=r;rfl
    |false=>
     simp only[h0,h1,Bool.false_eq_true,if_false,if_true,Fm.dL,Fm.d,List.getElem?_cons_zero,hofa,hwr,if_pos ka,Bool.not_true,Bool.not_false]at hno ⊢
     cases hx:makeF (.mk oa na ksa pa) true (l - 1+1)with
     |none=>exact(hno hx).elim
     |some r=>obtain⟨⟨o2,n2,k2,p2⟩,l2⟩:=r;rfl
  |false=>
  cases h2:(op.toList==[88])with
  |true=>
   rw[mk_x hl h0 h1 h2]at hno ⊢
   match ks,hno,h with
   |[],hno,h=>exact(hno rfl).elim
   |.mk oa na ksa pa::rs,hno,h=>
    have ka:=kid_ok h hb (.head _) (l2:=l - 1) (by omega) (by omega)
    have hofa:=ofD_d (.mk oa na ksa pa)
    simp only[Fm.d]at hofa
    refine⟨true,fun q=>(M61.start B l op nm (Fm.dL (.mk oa na ksa pa::rs)) p t q).trans ?_⟩
    rw[if_pos bnd,if_neg hl']
    cases t with
    |true=>
     simp only[h0,h1,h2,Bool.false_eq_true,if_false,if_true,Fm.dL,Fm.d,List.getElem?_cons_zero,hofa,if_pos ka]at hno ⊢
     cases hx:makeF (.mk oa na ksa pa) true (l - 1)with
     |none=>rw[hx]at hno;exact(hno rfl).elim
     |some r=>obtain⟨⟨o2,n2,k2,p2⟩,l2⟩:=r;rfl
    |false=>
     simp only[h0,h1,h2,Bool.false_eq_true,if_false,if_true,Fm.dL,Fm.d,List.getElem?_cons_zero,hofa,if_pos ka]at hno ⊢
     cases hx:makeF (.mk oa na ksa pa) false (l - 1)with
     |none=>rw[hx]at hno;exact(hno rfl).elim
     |some r=>obtain⟨⟨o2,n2,k2,p2⟩,l2⟩:=r;rfl
  |false=>
  cases ha:(op.toList==[38])with
  |true=>
   have h3:both4 op=true:=by simp only[both4,ha];rfl
   rw[mk_both hl h0 h1 h2 h3]at hno ⊢
   refine⟨true,fun q=>(M61.start B l op nm (Fm.dL ks) p t q).trans ?_⟩
   rw[if_pos bnd,if_neg hl']
   cases t with
   |true=>
    simp only[h0,h1,h2,ha,Bool.false_eq_true,if_false,if_true,hofs,if_pos kb,opN]at hno ⊢
    cases hx:bothF (dualB op) (.mk op nm ks p) true true (l - 1)with
    |none=>exact(hno hx).elim
    |some v=>obtain⟨⟨o2,n2,k2,p2⟩,l2⟩:=v;rfl
   |false=>
    simp only[h0,h1,h2,ha,Bool.false_eq_true,if_false,if_true,hofs,if_pos kb,opN]at hno ⊢
    cases hx:bothF op (.mk op nm ks p) false false (l - 1)with
    |none=>exact(hno hx).elim
    |some v=>obtain⟨⟨o2,n2,k2,p2⟩,l2⟩:=v;rfl
  |false=>
  cases hb0:(op.toList==[124])with
  |true=>
   have h3:both4 op=true:=by simp only[both4,ha,hb0];rfl
   rw[mk_both hl h0 h1 h2 h3]at hno ⊢
   refine⟨true,fun q=>(M61.start B l op nm (Fm.dL ks) p t q).trans ?_⟩
   rw[if_pos bnd,if_neg hl']
   cases t with
   |true=>
    simp only[h0,h1,h2,ha,hb0,Bool.false_eq_true,if_false,if_true,hofs,if_pos kb,opN]at hno ⊢
    cases hx:bothF (dualB op) (.mk op nm ks p) true true (l - 1)with
    |none=>exact(hno hx).elim
    |some v=>obtain⟨⟨o2,n2,k2,p2⟩,l2⟩:=v;rfl
   |false=>
    simp only[h0,h1,h2,ha,hb0,Bool.false_eq_true,if_false,if_true,hofs,if_pos kb,opN]at hno ⊢
    cases hx:bothF op (.mk op nm ks p) false false (l - 1)with
    |none=>exact(hno hx).elim
    |some v=>obtain⟨⟨o2,n2,k2,p2⟩,l2⟩:=v;rfl
  |false=>
  cases hc:(op.toList==[85])with
  |true=>
   have h3:both4 op=true:=by simp only[both4,ha,hb0,hc];rfl
   rw[mk_both hl h0 h1 h2 h3]at hno ⊢
   refine⟨true,fun q=>(M61.start B l op nm (Fm.dL ks) p t q).trans ?_⟩
   rw[if_pos bnd,if_neg hl']
   cases t with
   |true=>
    simp only[h0,h1,h2,ha,hb0,hc,Bool.false_eq_true,if_false,if_true,hofs,if_pos kb,opN]at hno ⊢
    cases hx:bothF (dualB op) (.mk op nm ks p) true true (l - 1)with
    |none=>exact(hno hx).elim
    |some v=>obtain⟨⟨o2,n2,k2,p2⟩,l2⟩:=v;rfl
   |false=>
    simp only[h0,h1,h2,ha,hb0,hc,Bool.false_eq_true,if_false,if_true,hofs,if_pos kb,opN]at hno ⊢
    cases hx:bothF op (.mk op nm ks p) false false (l - 1)with
    |none=>exact(hno hx).elim
    |some v=>obtain⟨⟨o2,n2,k2,p2⟩,l2⟩:=v;rfl
  |false=>
  cases hd:(op.toList==[82])with
  |true=>
   have h3:both4 op=true:=by simp only[both4,ha,hb0,hc,hd];rfl
   rw[mk_both hl h0 h1 h2 h3]at hno ⊢
   refine⟨true,fun q=>(M61.start B l op nm (Fm.dL ks) p t q).trans ?_⟩
   rw[if_pos bnd,if_neg hl']
   cases t with
   |true=>
    simp only[h0,h1,h2,ha,hb0,hc,hd,Bool.false_eq_true,if_false,if_true,hofs,if_pos kb,opN]at hno ⊢
    cases hx:bothF (dualB op) (.mk op nm ks p) true true (l - 1)with
    |none=>exact(hno hx).elim
    |some v=>obtain⟨⟨o2,n2,k2,p2⟩,l2⟩:=v;rfl
   |false=>
    simp only[h0,h1,h2,ha,hb0,hc,hd,Bool.false_eq_true,if_false,if_true,hofs,if_pos kb,opN]at hno ⊢
    cases hx:bothF op (.mk op nm ks p) false false (l - 1)with
    |none=>exact(hno hx).elim
    |some v=>obtain⟨⟨o2,n2,k2,p2⟩,l2⟩:=v;rfl
  |false=>
  have h3:both4 op=false:=by simp only[both4,ha,hb0,hc,hd];rfl
  cases h4:(op.toList==[61,62])with
  |true=>
   rw[mk_imp hl h0 h1 h2 h3 h4]at hno ⊢
   refine⟨true,fun q=>(M61.start B l op nm (Fm.dL ks) p t q).trans ?_⟩
   rw[if_pos bnd,if_neg hl']
   cases t with
   |true=>
    simp only[h0,h1,h2,ha,hb0,hc,hd,h4,Bool.false_eq_true,if_false,if_true,hofs,if_pos kb,opN]at hno ⊢
    cases hx:bothF ⟨#[38]⟩ (.mk op nm ks p) false true (l - 1)with
    |none=>exact(hno hx).elim
    |some v=>obtain⟨⟨o2,n2,k2,p2⟩,l2⟩:=v;rfl
   |false=>
    simp only[h0,h1,h2,ha,hb0,hc,hd,h4,Bool.false_eq_true,if_false,if_true,hofs,if_pos kb,opN]at hno ⊢
    cases hx:bothF ⟨#[124]⟩ (.mk op nm ks p) true false (l - 1)with
    |none=>exact(hno hx).elim
    |some v=>obtain⟨⟨o2,n2,k2,p2⟩,l2⟩:=v;rfl
  |false=>
  cases h5:(op.toList==[70])with
  |true=>
   have h56:(op.toList==[70]||op.toList==[71])=true:=by simp only[h5];rfl
   rw[mk_ever hl h0 h1 h2 h3 h4 h56]at hno ⊢
   refine⟨true,fun q=>(M61.start B l op nm (Fm.dL ks) p t q).trans ?_⟩
   rw[if_pos bnd,if_neg hl']
   cases t with
   |true=>
    simp only[h0,h1,h2,ha,hb0,hc,hd,h4,h5,Bool.false_eq_true,if_false,if_true,hofs,if_pos ke,opN]at hno ⊢
    cases hx:everF (.mk op nm ks p) true (l - 1)with
    |none=>exact(hno hx).elim
    |some v=>obtain⟨⟨o2,n2,k2,p2⟩,l2⟩:=v;rfl
   |false=>
    simp only[h0,h1,h2,ha,hb0,hc,hd,h4,h5,Bool.false_eq_true,if_false,if_true,hofs,if_pos ke,opN]at hno ⊢
    cases hx:everF (.mk op nm ks p) false (l - 1)with
    |none=>exact(hno hx).elim
    |some v=>obtain⟨⟨o2,n2,k2,p2⟩,l2⟩:=v;rfl
  |false=>
  cases h6:(op.toList==[71])with
  |true=>
   have h56:(op.toList==[70]||op.toList==[71])=true:=by simp only[h5,h6];rfl
   rw[mk_ever hl h0 h1 h2 h3 h4 h56]at hno ⊢
   refine⟨true,fun q=>(M61.start B l op nm (Fm.dL ks) p t q).trans ?_⟩
   rw[if_pos bnd,if_neg hl']
   cases t with
   |true=>
    simp only[h0,h1,h2,ha,hb0,hc,hd,h4,h5,h6,Bool.false_eq_true,if_false,if_true,hofs,if_pos ke,opN]at hno ⊢
    cases hx:everF (.mk op nm ks p) true (l - 1)with
    |none=>exact(hno hx).elim
    |some v=>obtain⟨⟨o2,n2,k2,p2⟩,l2⟩:=v;rfl
   |false=>
    simp only[h0,h1,h2,ha,hb0,hc,hd,h4,h5,h6,Bool.false_eq_true,if_false,if_true,hofs,if_pos ke,opN]at hno ⊢
    cases hx:everF (.mk op nm ks p) false (l - 1)with
    |none=>exact(hno hx).elim
    |some v=>obtain⟨⟨o2,n2,k2,p2⟩,l2⟩:=v;rfl
  |false=>
  have h56:(op.toList==[70]||op.toList==[71])=false:=by simp only[h5,h6];rfl
  cases h7:(op.toList==[87])with
  |true=>
   rw[mk_weak hl h0 h1 h2 h3 h4 h56 h7]at hno ⊢
   refine⟨true,fun q=>(M61.start B l op nm (Fm.dL ks) p t q).trans ?_⟩
   rw[if_pos bnd,if_neg hl']
   cases t with
   |true=>
    simp only[h0,h1,h2,ha,hb0,hc,hd,h4,h5,h6,h7,Bool.false_eq_true,if_false,if_true,hofs,if_pos kw,opN]at hno ⊢
    cases hx:weakF (.mk op nm ks p) true (l - 1)with
    |none=>exact(hno hx).elim
    |some v=>obtain⟨⟨o2,n2,k2,p2⟩,l2⟩:=v;rfl
   |false=>
    simp only[h0,h1,h2,ha,hb0,hc,hd,h4,h5,h6,h7,Bool.false_eq_true,if_false,if_true,hofs,if_pos kw,opN]at hno ⊢
    cases hx:weakF (.mk op nm ks p) false (l - 1)with
    |none=>exact(hno hx).elim
    |some v=>obtain⟨⟨o2,n2,k2,p2⟩,l2⟩:=v;rfl
  |false=>
   rw[mk_last hl h0 h1 h2 h3 h4 h56 h7]at hno ⊢
   refine⟨false,fun q=>(M61.start B l op nm (Fm.dL ks) p t q).trans ?_⟩
   rw[if_pos bnd,if_neg hl']
   cases t<;>simp only[h0,h1,h2,ha,hb0,hc,hd,h4,h5,h6,h7,Bool.false_eq_true,if_false,if_true,opN]<;>rfl
end Go.Sd
namespace Go.Sd
open Go Go.Cm Go.Proofs Go.Sc
set_option maxRecDepth 100000
theorem ansM_some {β:Type} {k:List TV→List TV→Option β} {x:Option (Fm×Int)} {r:β} (h:ansM k x=some r):x≠none:=fun e=>by rw[e]at h;cases h
theorem mok_all {lo:Int} {b:Option Nat} {f:Fm} {l:Int} (h:mok lo b f l):mok lo none f l:=⟨bd_all h.1,h.2⟩
theorem mok_lt {lo:Int} {n:Nat} {f:Fm} {l:Int} (h:mok lo (some n) f l):f.dep<n:=h.1.2
theorem upm_b {B:Mb} {n:Nat} (h:EnvOk glS Tryz.prog (RM B)) (hm:∀m,B.m=some m→n≤m):EnvOk glS Tryz.prog (RM {B with b:=some (n+1) }):=by
 intro β g args k r hr
 simp only[RM,Env.add]at hr
 cases h87:Nat.beq g 85 with
 |true=>
  simp only[h87]at hr
  exact h β g args k r (by simp only[RM,Env.add,h87];exact hr)
 |false=>
 simp only[h87]at hr
 cases h86:Nat.beq g 84 with
 |true=>
  simp only[h86]at hr
  exact h β g args k r (by simp only[RM,Env.add,h87,h86];exact hr)
 |false=>
 simp only[h86]at hr
 cases h85:Nat.beq g 83 with
 |true=>
  simp only[h85]at hr
  have hg:=Nat.eq_of_beq_eq_true h85
  subst hg
  unfold cBoth at hr
  split at hr
  ·rename_i l op x i j
   split at hr
   ·rename_i f hf
    unfold chkK at hr
    split at hr
    ·rename_i h0
     have hd:=mok_lt h0
     rw[d_ofD _ _ hf]
     have hno:=ansM_some hr
     obtain⟨y,outs,h1,h2⟩:=ansM_out hr
     exact⟨_,_,h1,valid_of h mixed Tryz.func83 (by kernel_rfl) ((ev_both (fun m hm'=>by have:=hm m hm';omega) (mok_all h0) op i j hno _).trans (h2 true _))⟩
    ·cases hr
   ·cases hr
  ·cases hr
 |false=>
 simp only[h85]at hr
 cases h61:Nat.beq g 52 with
 |true=>
  simp only[h61]at hr
  exact h β g args k r (by simp only[RM,Env.add,h87,h86,h85,h61];exact hr)
 |false=>
 simp only[h61]at hr
 exact h β g args k r (by simp only[RM,Env.add,h87,h86,h85,h61];exact hr)
theorem upm_e {B:Mb} {n:Nat} (h:EnvOk glS Tryz.prog (RM B)) (hm:∀m,B.m=some m→n≤m):EnvOk glS Tryz.prog (RM {B with e:=some (n+1) }):=by
 intro β g args k r hr
 simp only[RM,Env.add]at hr
 cases h87:Nat.beq g 85 with
 |true=>
  simp only[h87]at hr
  exact h β g args k r (by simp only[RM,Env.add,h87];exact hr)
 |false=>
 simp only[h87]at hr
 cases h86:Nat.beq g 84 with
 |true=>
  simp only[h86]at hr
  have hg:=Nat.eq_of_beq_eq_true h86
  subst hg
  unfold cEver at hr
  split at hr
  ·rename_i l x not
   split at hr
   ·rename_i f hf
    unfold chkK at hr
    split at hr
    ·rename_i h0
     have hd:=mok_lt h0
     rw[d_ofD _ _ hf]
     have hno:=ansM_some hr
     obtain⟨y,outs,h1,h2⟩:=ansM_out hr
     exact⟨_,_,h1,valid_of h mixed Tryz.func84 (by kernel_rfl) ((ev_ever (fun m hm'=>by have:=hm m hm';omega) (mok_all h0) not hno _).trans (h2 true _))⟩
    ·cases hr
   ·cases hr
  ·cases hr
 |false=>
 simp only[h86]at hr
 cases h85:Nat.beq g 83 with
 |true=>
  simp only[h85]at hr
  exact h β g args k r (by simp only[RM,Env.add,h87,h86,h85];exact hr)
 |false=>
 simp only[h85]at hr
 cases h61:Nat.beq g 52 with
 |true=>
  simp only[h61]at hr
  exact h β g args k r (by simp only[RM,Env.add,h87,h86,h85,h61];exact hr)
 |false=>
 simp only[h61]at hr
 exact h β g args k r (by simp only[RM,Env.add,h87,h86,h85,h61];exact hr)
theorem upm_w {B:Mb} {n:Nat} (h:EnvOk glS Tryz.prog (RM B)) (hm:∀m,B.m=some m→n≤m) (hb:∀m,B.b=some m→n+1≤m):EnvOk glS Tryz.prog (RM {B with w:=some (n+1) }):=by
 intro β g args k r hr
 simp only[RM,Env.add]at hr
 cases h87:Nat.beq g 85 with
 |true=>
  simp only[h87]at hr
  have hg:=Nat.eq_of_beq_eq_true h87
  subst hg
  unfold cWeak at hr
  split at hr
  ·rename_i l x not
   split at hr
   ·rename_i f hf
    unfold chkK at hr
    split at hr
    ·rename_i h0
     have hd:=mok_lt h0
     rw[d_ofD _ _ hf]
     have hno:=ansM_some hr
     obtain⟨y,outs,h1,h2⟩:=ansM_out hr
     exact⟨_,_,h1,valid_of h mixed Tryz.func85 (by kernel_rfl) ((ev_weak (fun m hm'=>by have:=hm m hm';omega) (fun m hm'=>by have:=hb m hm';omega) (mok_all h0) not hno _).trans (h2 true _))⟩
    ·cases hr
   ·cases hr
  ·cases hr
 |false=>
 simp only[h87]at hr
 cases h86:Nat.beq g 84 with
 |true=>
  simp only[h86]at hr
  exact h β g args k r (by simp only[RM,Env.add,h87,h86];exact hr)
 |false=>
 simp only[h86]at hr
 cases h85:Nat.beq g 83 with
 |true=>
  simp only[h85]at hr
  exact h β g args k r (by simp only[RM,Env.add,h87,h86,h85];exact hr)
 |false=>
 simp only[h85]at hr
 cases h61:Nat.beq g 52 with
 |true=>
  simp only[h61]at hr
  exact h β g args k r (by simp only[RM,Env.add,h87,h86,h85,h61];exact hr)
 |false=>
 simp only[h61]at hr
 exact h β g args k r (by simp only[RM,Env.add,h87,h86,h85,h61];exact hr)
theorem upm_m {B:Mb} {n:Nat} (h:EnvOk glS Tryz.prog (RM B)) (hm:∀m,B.m=some m→n≤m) (hb:∀m,B.b=some m→n+1≤m) (he:∀m,B.e=some m→n+1≤m) (hw:∀m,B.w=some m→n+1≤m):EnvOk glS Tryz.prog (RM {B with m:=some (n+1) }):=by
 intro β g args k r hr
 simp only[RM,Env.add]at hr
 cases h87:Nat.beq g 85 with
 |true=>
  simp only[h87]at hr
  exact h β g args k r (by simp only[RM,Env.add,h87];exact hr)
 |false=>
 simp only[h87]at hr
 cases h86:Nat.beq g 84 with
 |true=>
  simp only[h86]at hr
  exact h β g args k r (by simp only[RM,Env.add,h87,h86];exact hr)
 |false=>
 simp only[h86]at hr
 cases h85:Nat.beq g 83 with
 |true=>
  simp only[h85]at hr
  exact h β g args k r (by simp only[RM,Env.add,h87,h86,h85];exact hr)
 |false=>
 simp only[h85]at hr
 cases h61:Nat.beq g 52 with
 |true=>
  simp only[h61]at hr
  have hg:=Nat.eq_of_beq_eq_true h61
  subst hg
  unfold cMake at hr
  split at hr
  ·rename_i l x not
   split at hr
   ·rename_i f hf
    unfold chkK at hr
    split at hr
    ·rename_i h0
     have hd:=mok_lt h0
     rw[d_ofD _ _ hf]
     have hno:=ansM_some hr
     obtain⟨y,outs,h1,h2⟩:=ansM_out hr
     obtain⟨t,ht⟩:=ev_make (B:=B) (fun m hm'=>by have:=hm m hm';omega) (fun m hm'=>by have:=hb m hm';omega) (fun m hm'=>by have:=he m hm';omega) (fun m hm'=>by have:=hw m hm';omega) (mok_all h0) not hno
     exact⟨_,_,h1,valid_up (valid_of h mixed Tryz.func52 (by kernel_rfl) ((ht _).trans (h2 t _)))⟩
    ·cases hr
   ·cases hr
  ·cases hr
 |false=>
 simp only[h61]at hr
 exact h β g args k r (by simp only[RM,Env.add,h87,h86,h85,h61];exact hr)
def allM (n:Nat):Mb:=⟨some n,some n,some n,some n⟩
theorem evm_all:∀n:Nat,EnvOk glS Tryz.prog (RM (allM n))
 |0=>by
  intro β g args k r hr
  refine envr11 β g args k r ?_
  simp only[RM,Env.add,allM]at hr
  cases h87:Nat.beq g 85 with
  |true=>
   simp only[h87]at hr
   unfold cWeak at hr
   split at hr
   ·split at hr
    ·unfold chkK at hr
     split at hr
     ·rename_i h0;have:=mok_lt h0;omega
     ·cases hr
    ·cases hr
   ·cases hr
  |false=>
  simp only[h87]at hr
  cases h86:Nat.beq g 84 with
  |true=>
   simp only[h86]at hr
   unfold cEver at hr
   split at hr
   ·split at hr
    ·unfold chkK at hr
     split at hr
     ·rename_i h0;have:=mok_lt h0;omega
     ·cases hr
    ·cases hr
   ·cases hr
  |false=>
  simp only[h86]at hr
  cases h85:Nat.beq g 83 with
  |true=>
   simp only[h85]at hr
   unfold cBoth at hr
   split at hr
   ·split at hr
    ·unfold chkK at hr
     split at hr
     ·rename_i h0;have:=mok_lt h0;omega
     ·cases hr
    ·cases hr
   ·cases hr
  |false=>
  simp only[h85]at hr
  cases h61:Nat.beq g 52 with
  |true=>
   simp only[h61]at hr
   unfold cMake at hr
   split at hr
   ·split at hr
    ·unfold chkK at hr
     split at hr
     ·rename_i h0;have:=mok_lt h0;omega
     ·cases hr
    ·cases hr
   ·cases hr
  |false=>
  simp only[h61]at hr
  exact hr
 |n+1=>by
  have h:=evm_all n
  have h1:=upm_b (n:=n) h (fun m hm=>by cases hm;omega)
  have h2:=upm_e (n:=n) h1 (fun m hm=>by cases hm;omega)
  have h3:=upm_w (n:=n) h2 (fun m hm=>by cases hm;omega) (fun m hm=>by cases hm;omega)
  exact upm_m (n:=n) h3 (fun m hm=>by cases hm;omega) (fun m hm=>by cases hm;omega) (fun m hm=>by cases hm;omega) (fun m hm=>by cases hm;omega)
def R12:Env:=RM ⟨none,none,none,none⟩
theorem mok_at {lo:Int} {f:Fm} {l:Int} (h:mok lo none f l):mok lo (some (f.dep+1)) f l:=⟨bd_at h.1,h.2⟩
theorem envr12:EnvOk glS Tryz.prog R12:=by
 refine EnvOk.lim evm_all fun β g args k r hr=>?_
 simp only[R12,RM,Env.add,allM]at hr ⊢
 cases h87:Nat.beq g 85 with
 |true=>
  simp only[h87]at hr ⊢
  unfold cWeak at hr ⊢
  split at hr
  ·split at hr
   ·rename_i f hf
    unfold chkK at hr
    split at hr
    ·rename_i h0;exact⟨f.dep+1,by simp only[hf,chkK];rw[if_pos (mok_at h0)];exact hr⟩
    ·cases hr
   ·cases hr
  ·cases hr
 |false=>
 simp only[h87]at hr ⊢
 cases h86:Nat.beq g 84 with
 |true=>
  simp only[h86]at hr ⊢
  unfold cEver at hr ⊢
  split at hr
  ·split at hr
   ·rename_i f hf
    unfold chkK at hr
    split at hr
    ·rename_i h0;exact⟨f.dep+1,by simp only[hf,chkK];rw[if_pos (mok_at h0)];exact hr⟩
    ·cases hr
   ·cases hr
  ·cases hr
 |false=>
 simp only[h86]at hr ⊢
 cases h85:Nat.beq g 83 with
 |true=>
  simp only[h85]at hr ⊢
  unfold cBoth at hr ⊢
  split at hr
  ·split at hr
   ·rename_i f hf
    unfold chkK at hr
    split at hr
    ·rename_i h0;exact⟨f.dep+1,by simp only[hf,chkK];rw[if_pos (mok_at h0)];exact hr⟩
    ·cases hr
   ·cases hr
  ·cases hr
 |false=>
 simp only[h85]at hr ⊢
 cases h61:Nat.beq g 52 with
 |true=>
  simp only[h61]at hr ⊢
  unfold cMake at hr ⊢
  split at hr
  ·split at hr
   ·rename_i f hf
    unfold chkK at hr
    split at hr
    ·rename_i h0;exact⟨f.dep+1,by simp only[hf,chkK];rw[if_pos (mok_at h0)];exact hr⟩
    ·cases hr
   ·cases hr
  ·cases hr
 |false=>
 simp only[h61]at hr ⊢
 exact⟨0,hr⟩
end Go.Sd
namespace Go.Sc
def ltB (b:Option Nat) (m:Nat):Prop:=match b with|none=>True|some n=>m<n
instance (b:Option Nat) (m:Nat):Decidable (ltB b m):=by unfold ltB;cases b<;>infer_instance
theorem not_ltB_zero {m:Nat} (h:ltB (some 0) m):False:=Nat.not_lt_zero _ h
end Go.Sc
namespace Go.Cm
theorem EnvOk.lims {gl:Gl} {P:Program} {E:Env} {En:Nat→Env} (h0:EnvOk gl P (En 0)) (hs:∀n,EnvOk gl P (En n)→EnvOk gl P (En (n+1)))
  (hc:∀(β:Type) (g:FuncId) (args:List TV) (k:List TV→List TV→Option β) (r:β),E.c g args k=some r→∃n,(En n).c g args k=some r):EnvOk gl P E:=by
 have h:∀n,EnvOk gl P (En n):=fun n=>by
  induction n with
  |zero=>exact h0
  |succ n ih=>exact hs n ih
 intro β g args k r hr
 obtain⟨n,hn⟩:=hc β g args k r hr
 exact h n β g args k r hn
theorem EnvOk.rec1 {gl:Gl} {P:Program} {E:Env} {f:FuncId} {io:Nat→Bool} (c:Option Nat→{β:Type}→List TV→(List TV→List TV→Option β)→Option β) (hE:EnvOk gl P E)
  (h0:∀(β:Type) (args:List TV) (k:List TV→List TV→Option β) (r:β),c (some 0) args k=some r→False)
  (hs:∀n,EnvOk gl P (E.add f io (c (some n)))→∀(β:Type) (args:List TV) (k:List TV→List TV→Option β) (r:β),c (some (n+1)) args k=some r→∃res outs,k res outs=some r∧Valid gl P f args res outs)
  (hl:∀(β:Type) (args:List TV) (k:List TV→List TV→Option β) (r:β),c Option.none args k=some r→∃n,c (some n) args k=some r):EnvOk gl P (E.add f io (c Option.none)):=by
 refine EnvOk.lims (En:=fun n=>E.add f io (c (some n))) (hE.add fun β args k r hr=>(h0 β args k r hr).elim) (fun n ih=>hE.add fun β args k r hr=>hs n ih β args k r hr) fun β g args k r hr=>?_
 simp only[Env.add]at hr ⊢
 cases hg:Nat.beq g f with
 |false=>simp only[hg]at hr ⊢;exact⟨0,hr⟩
 |true=>simp only[hg]at hr ⊢;exact hl β args k r hr
theorem EnvOk.rec2 {gl:Gl} {P:Program} {E:Env} {f g:FuncId} {iof iog:Nat→Bool} (c d:Option Nat→{β:Type}→List TV→(List TV→List TV→Option β)→Option β) (hE:EnvOk gl P E)
  (h0:∀(β:Type) (args:List TV) (k:List TV→List TV→Option β) (r:β),c (some 0) args k=some r→False)
  (h1:∀(β:Type) (args:List TV) (k:List TV→List TV→Option β) (r:β),d (some 0) args k=some r→False)
  (hs:∀n,EnvOk gl P ((E.add f iof (c (some n))).add g iog (d (some n)))→∀(β:Type) (args:List TV) (k:List TV→List TV→Option β) (r:β),c (some (n+1)) args k=some r→∃res outs,k res outs=some r∧Valid gl P f args res outs)
  (ht:∀n,EnvOk gl P ((E.add f iof (c (some n))).add g iog (d (some n)))→∀(β:Type) (args:List TV) (k:List TV→List TV→Option β) (r:β),d (some (n+1)) args k=some r→∃res outs,k res outs=some r∧Valid gl P g args res outs)
  (hl:∀(β:Type) (args:List TV) (k:List TV→List TV→Option β) (r:β),c Option.none args k=some r→∃n,c (some n) args k=some r)
  (hm:∀(β:Type) (args:List TV) (k:List TV→List TV→Option β) (r:β),d Option.none args k=some r→∃n,d (some n) args k=some r):EnvOk gl P ((E.add f iof (c Option.none)).add g iog (d Option.none)):=by
 refine EnvOk.lims (En:=fun n=>(E.add f iof (c (some n))).add g iog (d (some n))) ((hE.add fun β args k r hr=>(h0 β args k r hr).elim).add fun β args k r hr=>(h1 β args k r hr).elim)
  (fun n ih=>(hE.add fun β args k r hr=>hs n ih β args k r hr).add fun β args k r hr=>ht n ih β args k r hr) fun β j args k r hr=>?_
 simp only[Env.add]at hr ⊢
 cases hg:Nat.beq j g with
 |true=>simp only[hg]at hr ⊢;exact hm β args k r hr
 |false=>
  simp only[hg]at hr ⊢
  cases hf:Nat.beq j f with
  |false=>simp only[hf]at hr ⊢;exact⟨0,hr⟩
  |true=>simp only[hf]at hr ⊢;exact hl β args k r hr
end Go.Cm
namespace Go.Sd
open Go Go.Cm Go.Proofs Go.Sc
set_option maxRecDepth 100000
def ansF {β:Type} (t:Bool) (k:List TV→List TV→Option β):Fm→Option β
 |.mk o n ks p=>k [.d t 5 (fmD o n (Fm.dL ks) p)] []
def cPair {β:Type} (args:List TV) (k:List TV→List TV→Option β):Option β:=
 match args with
 |[.d true 5 x,.d true 5 y,.d true 5 z]=>match ofD x with
  |some f=>match ofD y with
   |some a=>match ofD z with
    |some b=>chkK (bd none a) (ansF true k (pairF f a b))
    |none=>none
   |none=>none
  |none=>none
 |_=>none
def R13:Env:=R12.add 89 io0 cPair
def cSimp {β:Type} (b:Option Nat) (args:List TV) (k:List TV→List TV→Option β):Option β:=
 match args with
 |[.d true 5 x]=>match ofD x with
  |some f=>chkK (bd b f) (ansF true k (simpleF f))
  |none=>none
 |_=>none
def R14 (b:Option Nat):Env:=R13.add 55 io0 (cSimp b)
def cBinds {β:Type} (args:List TV) (k:List TV→List TV→Option β):Option β:=
 match args with
 |[.d true 0 (.str op)]=>k [.d false 0 (.int .i64 (bindsN op))] []
 |_=>none
def R15:Env:=(R14 none).add 78 io0 cBinds
def cPrint {β:Type} (b:Option Nat) (args:List TV) (k:List TV→List TV→Option β):Option β:=
 match args with
 |[.d true 5 x]=>match ofD x with
  |some f=>chkK (ltB b (2*f.dep+1)∧(printF f).size≤9223372036854775807) (k [.d false 0 (.str (printF f))] [])
  |none=>none
 |_=>none
def cKid {β:Type} (b:Option Nat) (args:List TV) (k:List TV→List TV→Option β):Option β:=
 match args with
 |[.d true 5 x,.d true 0 (.int .i64 i),.d true 0 (.int .i64 t)]=>match ofD x with
  |some f=>chkK (0≤i∧ltB b (2*f.dep)∧(kidP f i t).size≤9223372036854775807) (k [.d false 0 (.str (kidP f i t))] [])
  |none=>none
 |_=>none
def R16 (b:Option Nat):Env:=(R15.add 50 io0 (cPrint b)).add 79 io0 (cKid b)
end Go.Sd
namespace Go.Sd
open Go Go.Cm Go.Proofs Go.Sc
set_option maxRecDepth 100000
namespace T53
  section
  variable (b:Option Nat)
noncomputable def X:Fx:=⟨Tryz.prog,R16 b,4,1⟩
theorem start {β:Type} (op:ByteArray) (nm:ByteArray) (ks:List D) (p:Int) (k:List TV→List TV→Option β):evalF Tryz.prog (R16 b) Tryz.f50 [.d true 5 (.ag [D.str op,D.str nm,D.sl 5 ks,D.int .i64 p])] k=if(bindsN op==6)=true then if(op.toList==[108,97,98,101,108])=true then if 1+ByteArray.size nm≤9223372036854775807 then if ByteArray.size (ByteArray.mk #[34]++nm)+1≤9223372036854775807 then k [.d false 0 (.str (ByteArray.mk #[34]++nm++ByteArray.mk #[34]))] []else none else none else k [.d false 0 (.str op)] []else if(bindsN op==5)=true then if(op.toList==[33])=true then match ofD (.ag [D.str op,D.str nm,D.sl 5 ks,D.int .i64 p])with
   |some f15=>if(0:Int)≤0∧ltB b (2*Fm.dep f15)∧ByteArray.size (kidP f15 (0:Int) (5:Int))≤9223372036854775807 then if 1+ByteArray.size (kidP f15 (0:Int) (5:Int))≤9223372036854775807 then k [.d false 0 (.str (ByteArray.mk #[33]++kidP f15 (0:Int) (5:Int)))] []else none else none
   |none=>none else if ByteArray.size op+1≤9223372036854775807 then match ofD (.ag [D.str op,D.str nm,D.sl 5 ks,D.int .i64 p])with
    |some f17=>if(0:Int)≤0∧ltB b (2*Fm.dep f17)∧ByteArray.size (kidP f17 (0:Int) (5:Int))≤9223372036854775807 then if ByteArray.size (op++ByteArray.mk #[32])+ByteArray.size (kidP f17 (0:Int) (5:Int))≤9223372036854775807 then k [.d false 0 (.str (op++ByteArray.mk #[32]++kidP f17 (0:Int) (5:Int)))] []else none else none
    |none=>none else none else if(bindsN op==1)=true then if(bindsN op==1)=true then match ofD (.ag [D.str op,D.str nm,D.sl 5 ks,D.int .i64 p])with
    |some f23=>if(0:Int)≤0∧ltB b (2*Fm.dep f23)∧ByteArray.size (kidP f23 (0:Int) (IntKind.wrap .i64 (bindsN op+1)))≤9223372036854775807 then if ByteArray.size (kidP f23 (0:Int) (IntKind.wrap .i64 (bindsN op+1)))+1≤9223372036854775807 then if ByteArray.size (kidP f23 (0:Int) (IntKind.wrap .i64 (bindsN op+1))++ByteArray.mk #[32])+ByteArray.size op≤9223372036854775807 then if ByteArray.size (kidP f23 (0:Int) (IntKind.wrap .i64 (bindsN op+1))++ByteArray.mk #[32]++op)+1≤9223372036854775807 then match ofD (.ag [D.str op,D.str nm,D.sl 5 ks,D.int .i64 p])with
     |some f24=>if(0:Int)≤1∧ltB b (2*Fm.dep f24)∧ByteArray.size (kidP f24 (1:Int) (bindsN op))≤9223372036854775807 then if ByteArray.size (kidP f23 (0:Int) (IntKind.wrap .i64 (bindsN op+1))++ByteArray.mk #[32]++op++ByteArray.mk #[32])+ByteArray.size (kidP f24 (1:Int) (bindsN op))≤9223372036854775807 then k [.d false 0 (.str (kidP f23 (0:Int) (IntKind.wrap .i64 (bindsN op+1))++ByteArray.mk #[32]++op++ByteArray.mk #[32]++kidP f24 (1:Int) (bindsN op)))] []else none else none
     |none=>none else none else none else none else none
    |none=>none else match ofD (.ag [D.str op,D.str nm,D.sl 5 ks,D.int .i64 p])with
    |some f26=>if(0:Int)≤0∧ltB b (2*Fm.dep f26)∧ByteArray.size (kidP f26 (0:Int) (bindsN op))≤9223372036854775807 then if ByteArray.size (kidP f26 (0:Int) (bindsN op))+1≤9223372036854775807 then if ByteArray.size (kidP f26 (0:Int) (bindsN op)++ByteArray.mk #[32])+ByteArray.size op≤9223372036854775807 then if ByteArray.size (kidP f26 (0:Int) (bindsN op)++ByteArray.mk #[32]++op)+1≤9223372036854775807 then match ofD (.ag [D.str op,D.str nm,D.sl 5 ks,D.int .i64 p])with
     |some f27=>if(0:Int)≤1∧ltB b (2*Fm.dep f27)∧ByteArray.size (kidP f27 (1:Int) (IntKind.wrap .i64 (bindsN op+1)))≤9223372036854775807 then if ByteArray.size (kidP f26 (0:Int) (bindsN op)++ByteArray.mk #[32]++op++ByteArray.mk #[32])+ByteArray.size (kidP f27 (1:Int) (IntKind.wrap .i64 (bindsN op+1)))≤9223372036854775807 then k [.d false 0 (.str (kidP f26 (0:Int) (bindsN op)++ByteArray.mk #[32]++op++ByteArray.mk #[32]++kidP f27 (1:Int) (IntKind.wrap .i64 (bindsN op+1))))] []else none else none
     |none=>none else none else none else none else none
    |none=>none else if(bindsN op==4)=true then match ofD (.ag [D.str op,D.str nm,D.sl 5 ks,D.int .i64 p])with
    |some f32=>if(0:Int)≤0∧ltB b (2*Fm.dep f32)∧ByteArray.size (kidP f32 (0:Int) (IntKind.wrap .i64 (bindsN op+1)))≤9223372036854775807 then if ByteArray.size (kidP f32 (0:Int) (IntKind.wrap .i64 (bindsN op+1)))+1≤9223372036854775807 then if ByteArray.size (kidP f32 (0:Int) (IntKind.wrap .i64 (bindsN op+1))++ByteArray.mk #[32])+ByteArray.size op≤9223372036854775807 then if ByteArray.size (kidP f32 (0:Int) (IntKind.wrap .i64 (bindsN op+1))++ByteArray.mk #[32]++op)+1≤9223372036854775807 then match ofD (.ag [D.str op,D.str nm,D.sl 5 ks,D.int .i64 p])with
     |some f33=>if(0:Int)≤1∧ltB b (2*Fm.dep f33)∧ByteArray.size (kidP f33 (1:Int) (bindsN op))≤9223372036854775807 then if ByteArray.size (kidP f32 (0:Int) (IntKind.wrap .i64 (bindsN op+1))++ByteArray.mk #[32]++op++ByteArray.mk #[32])+ByteArray.size (kidP f33 (1:Int) (bindsN op))≤9223372036854775807 then k [.d false 0 (.str (kidP f32 (0:Int) (IntKind.wrap .i64 (bindsN op+1))++ByteArray.mk #[32]++op++ByteArray.mk #[32]++kidP f33 (1:Int) (bindsN op)))] []else none else none
     |none=>none else none else none else none else none
    |none=>none else match ofD (.ag [D.str op,D.str nm,D.sl 5 ks,D.int .i64 p])with
    |some f35=>if(0:Int)≤0∧ltB b (2*Fm.dep f35)∧ByteArray.size (kidP f35 (0:Int) (bindsN op))≤9223372036854775807 then if ByteArray.size (kidP f35 (0:Int) (bindsN op))+1≤9223372036854775807 then if ByteArray.size (kidP f35 (0:Int) (bindsN op)++ByteArray.mk #[32])+ByteArray.size op≤9223372036854775807 then if ByteArray.size (kidP f35 (0:Int) (bindsN op)++ByteArray.mk #[32]++op)+1≤9223372036854775807 then match ofD (.ag [D.str op,D.str nm,D.sl 5 ks,D.int .i64 p])with
     |some f36=>if(0:Int)≤1∧ltB b (2*Fm.dep f36)∧ByteArray.size (kidP f36 (1:Int) (IntKind.wrap .i64 (bindsN op+1)))≤9223372036854775807 then if ByteArray.size (kidP f35 (0:Int) (bindsN op)++ByteArray.mk #[32]++op++ByteArray.mk #[32])+ByteArray.size (kidP f36 (1:Int) (IntKind.wrap .i64 (bindsN op+1)))≤9223372036854775807 then k [.d false 0 (.str (kidP f35 (0:Int) (bindsN op)++ByteArray.mk #[32]++op++ByteArray.mk #[32]++kidP f36 (1:Int) (IntKind.wrap .i64 (bindsN op+1))))] []else none else none
     |none=>none else none else none else none else none
    |none=>none:=by kernel_rfl
end
end T53
namespace T76
  section
  variable (b:Option Nat)
noncomputable def X:Fx:=⟨Tryz.prog,R16 b,64,3⟩
theorem start {β:Type} (op:ByteArray) (nm:ByteArray) (ks:List D) (p:Int) (i:Int) (t:Int) (k:List TV→List TV→Option β):evalF Tryz.prog (R16 b) Tryz.f79 [.d true 5 (.ag [D.str op,D.str nm,D.sl 5 ks,D.int .i64 p]),.d true 0 (.int .i64 i),.d true 0 (.int .i64 t)] k=if decide (i≥(ks.length:Int))=true then k [.d false 0 (.str (ByteArray.mk #[]))] []else if 0≤i then match ks[i.toNat]? with
   |some x5=>match x5 with
    |D.ag xs6=>match xs6 with
     |x7::r8=>match x7 with
      |D.str s9=>match r8 with
       |x10::r11=>match x10 with
        |D.str s12=>match r11 with
         |x13::r14=>match x13 with
          |D.sl sh15 xs16=>if sh15=5 then match r14 with
           |x17::r18=>match x17 with
            |D.int j19 m20=>if j19=IntKind.i64 then match r18 with
             |[]=>match ofD (.ag [D.str s9,D.str s12,D.sl 5 xs16,D.int .i64 m20])with
              |some f22=>if ltB b (2*Fm.dep f22+1)∧ByteArray.size (printF f22)≤9223372036854775807 then if 0≤i then match ks[i.toNat]? with
               |some x24=>match match x24 with
                |D.ag xs=>xs[0]?
                |x=>none with
                |some y25=>match y25 with
                 |D.str s26=>if decide (bindsN s26<t)=true then if 1+ByteArray.size (printF f22)≤9223372036854775807 then if ByteArray.size (ByteArray.mk #[40]++printF f22)+1≤9223372036854775807 then k [.d false 0 (.str (ByteArray.mk #[40]++printF f22++ByteArray.mk #[41]))] []else none else none else k [.d false 0 (.str (printF f22))] []
                 |x=>none
                |none=>none
               |none=>none else none else none
              |none=>none
             |x=>none else none
            |x=>none
           |[]=>none else none
          |x=>none
         |[]=>none
        |x=>none
       |[]=>none
      |x=>none
     |[]=>none
    |x=>none
   |none=>none else none:=by kernel_rfl
end
end T76
end Go.Sd

/- Formulas, purely. -/
import Derived.Test.YtbpndgllhhajoaaGreatDoorPa
import Derived.Test.YtbpndgllhhajoaaGreatDoorPc
set_option linter.unusedVariables false
set_option linter.unusedSimpArgs false
namespace Go.Sc
open Go Go.Cm
inductive Fm where
 |mk (op nm:ByteArray) (ks:List Fm) (p:Int)
 deriving Inhabited
mutual
def Fm.d:Fm→D
 |.mk op nm ks p=>.ag [.str op,.str nm,.sl 5 (Fm.dL ks),.int .i64 p]
def Fm.dL:List Fm→List D
 |[]=>[]
 |f::fs=>f.d::Fm.dL fs
end
mutual
def Fm.dep:Fm→Nat
 |.mk _ _ ks _=>Fm.depL ks+1
def Fm.depL:List Fm→Nat
 |[]=>0
 |f::fs=>max f.dep (Fm.depL fs)
end
mutual
def ofD:D→Option Fm
 |.ag [.str op,.str nm,.sl 5 ks,.int .i64 p]=>match ofDL ks with|some fs=>some (.mk op nm fs p)|none=>none
 |_=>none
def ofDL:List D→Option (List Fm)
 |[]=>some []
 |x::xs=>match ofD x,ofDL xs with|some f,some fs=>some (f::fs)|_,_=>none
end
mutual
theorem ofD_d:∀f:Fm,ofD f.d=some f
 |.mk op nm ks p=>by simp only[Fm.d,ofD,ofDL_d ks]
theorem ofDL_d:∀fs:List Fm,ofDL (Fm.dL fs)=some fs
 |[]=>by simp only[Fm.dL,ofDL]
 |f::fs=>by simp only[Fm.dL,ofDL,ofD_d f,ofDL_d fs]
end
mutual
theorem d_ofD:∀(x:D) (f:Fm),ofD x=some f→x=f.d
 |.ag [.str op,.str nm,.sl 5 ks,.int .i64 p],f,h=>by
  simp only[ofD]at h
  split at h
  ·rename_i fs hk
   cases h
   rw[Fm.d,dL_ofDL ks fs hk]
  ·cases h
 |x,f,h=>by
  unfold ofD at h
  split at h
  ·rename_i op nm ks p
   split at h
   ·rename_i fs hk
    cases h
    rw[Fm.d,dL_ofDL ks fs hk]
   ·cases h
  ·cases h
theorem dL_ofDL:∀(xs:List D) (fs:List Fm),ofDL xs=some fs→xs=Fm.dL fs
 |[],fs,h=>by simp only[ofDL]at h;cases h;rfl
 |x::xs,fs,h=>by
  simp only[ofDL]at h
  split at h
  ·rename_i f fs' h1 h2
   cases h
   rw[Fm.dL, ←d_ofD x f h1, ←dL_ofDL xs fs' h2]
  ·cases h
end
theorem dL_eq:∀fs:List Fm,Fm.dL fs=fs.map Fm.d
 |[]=>rfl
 |f::fs=>by simp only[Fm.dL,List.map_cons,dL_eq fs]
theorem dep_mem:∀{fs:List Fm} {f:Fm},f∈fs→f.dep≤Fm.depL fs
 |g::gs,f,h=>by
  simp only[Fm.depL]
  rcases List.mem_cons.1 h with rfl|h
  ·omega
  ·have:=dep_mem h;omega
mutual
def Fm.sm:Fm→Bool
 |.mk _ _ ks _=>Nat.ble ks.length 4096&&Fm.smL ks
def Fm.smL:List Fm→Bool
 |[]=>true
 |f::fs=>f.sm&&Fm.smL fs
end
theorem sm_mem:∀{fs:List Fm} {f:Fm},Fm.smL fs=true→f∈fs→f.sm=true
 |g::gs,f,h,hm=>by
  simp only[Fm.smL,Bool.and_eq_true]at h
  rcases List.mem_cons.1 hm with rfl|hm
  ·exact h.1
  ·exact sm_mem h.2 hm
theorem dL_get {fs:List Fm} {i:Nat} (h:i<fs.length):(Fm.dL fs)[i]? =some (fs[i].d):=by rw[dL_eq,List.getElem?_map,List.getElem?_eq_getElem h];rfl
theorem dL_len (fs:List Fm):(Fm.dL fs).length=fs.length:=by rw[dL_eq,List.length_map]
def bd (b:Option Nat) (f:Fm):Prop:=f.sm=true∧match b with|none=>True|some n=>f.dep<n
instance (b:Option Nat) (f:Fm):Decidable (bd b f):=by unfold bd;cases b<;>infer_instance
def bdL (b:Option Nat) (fs:List Fm):Prop:=Nat.ble fs.length 4096=true∧Fm.smL fs=true∧match b with|none=>True|some n=>Fm.depL fs<n
instance (b:Option Nat) (f:List Fm):Decidable (bdL b f):=by unfold bdL;cases b<;>infer_instance
theorem bd_none {b:Option Nat} {f:Fm} (h:bd none f) (hb:∀n,b=some n→f.dep<n):bd b f:=by
 cases b with
 |none=>exact h
 |some n=>exact⟨h.1,hb n rfl⟩
theorem bd_at {f:Fm} (h:bd none f):bd (some (f.dep+1)) f:=⟨h.1,Nat.lt_succ_self _⟩
mutual
def sizeF:Fm→Int
 |.mk _ _ ks _=>sizeL ks 1
def sizeL:List Fm→Int→Int
 |[],n=>n
 |f::fs,n=>sizeL fs (if n≤4096 then min (n+sizeF f) 4097 else n)
end
mutual
def sameF:Fm→Fm→Bool
 |.mk o1 n1 k1 _,.mk o2 n2 k2 _=>o1.toList==o2.toList&&n1.toList==n2.toList&&sameL k1 k2
def sameL:List Fm→List Fm→Bool
 |[],[]=>true
 |f::fs,g::gs=>sameF f g&&sameL fs gs
 |_,_=>false
end
theorem sizeL_le:∀(fs:List Fm) (n:Int),n≤4097→1≤n→(∀f∈fs,1≤sizeF f∧sizeF f≤4097)→1≤sizeL fs n∧sizeL fs n≤4097
 |[],n,h,h1,_=>by simp only[sizeL];omega
 |f::fs,n,h,h1,hf=>by
  simp only[sizeL]
  have:=hf f (.head _)
  exact sizeL_le fs _ (by split<;>omega) (by split<;>omega) fun g hg=>hf g (.tail _ hg)
mutual
theorem sizeF_le:∀f:Fm,1≤sizeF f∧sizeF f≤4097
 |.mk _ _ ks _=>by
  simp only[sizeF]
  exact sizeL_le ks 1 (by omega) (by omega) (sizeF_leL ks)
theorem sizeF_leL:∀(fs:List Fm),∀f∈fs,1≤sizeF f∧sizeF f≤4097
 |[],f,h=>by cases h
 |g::gs,f,h=>by
  rcases List.mem_cons.1 h with e|h
  ·rw[e];exact sizeF_le g
  ·exact sizeF_leL gs f h
end
end Go.Sc
namespace Go.Sd
open Go Go.Cm Go.Proofs Go.Sc
set_option maxRecDepth 100000
def cSize {β:Type} (b:Option Nat) (args:List TV) (k:List TV→List TV→Option β):Option β:=
 match args with
 |[.d true 5 x]=>match ofD x with
  |some f=>chkK (bd b f) (k [.d false 0 (.int .i64 (sizeF f))] [])
  |none=>none
 |_=>none
def R1 (b:Option Nat):Env:=Q5.add 43 io0 (cSize b)
def cSame {β:Type} (b:Option Nat) (args:List TV) (k:List TV→List TV→Option β):Option β:=
 match args with
 |[.d true 5 x,.d true 5 y]=>match ofD x with
  |some f=>match ofD y with
   |some g=>chkK (bd b f) (k [.d false 0 (.bool (sameF f g))] [])
   |none=>none
  |none=>none
 |_=>none
def cEq {β:Type} (b:Option Nat) (args:List TV) (k:List TV→List TV→Option β):Option β:=
 match args with
 |[.d true 0 (.sl 5 xs),.d true 0 (.sl 5 ys),.d true 0 (.fn 114 [])]=>match ofDL xs with
  |some fs=>match ofDL ys with
   |some gs=>chkK (bdL b fs) (k [.d false 0 (.bool (sameL fs gs))] [])
   |none=>none
  |none=>none
 |_=>none
def R2 (b:Option Nat×Option Nat):Env:=((R1 none).add 114 io0 (cSame b.1)).add 123 io0 (cEq b.2)
end Go.Sd
namespace Go.Sd
open Go Go.Cm Go.Proofs Go.Sc
set_option maxRecDepth 100000
namespace S60
  section
  variable (b:Option Nat)
noncomputable def X:Fx:=⟨Tryz.prog,R1 b,4,1⟩
def s0 (ks:List D) (x60:Int) (x61:Int):S:=⟨Tm.mk 22 [(3,.d false 0 (.int .i64 x60)),(7,.d true 0 (.sl 5 ks)),(8,.d false 0 (.int .i64 (ks.length:Int))),(9,.d false 0 (.int .i64 x61))],[]⟩
def e0x0 (x122:Int):S:=⟨Tm.mk 22 [(3,.d false 0 (.int .i64 x122))],[]⟩
noncomputable abbrev L0:S→Option (S ⊕ (Ex×S)):=roundK (X b) [(0,8)] (sub [1,1,0,1,0,0] (body Tryz.f43))
theorem start {β:Type} (op:ByteArray) (nm:ByteArray) (ks:List D) (p:Int) (k:List TV→List TV→Option β):evalF Tryz.prog (R1 b) Tryz.f43 [.d true 5 (.ag [D.str op,D.str nm,D.sl 5 ks,D.int .i64 p])] k=goLp (X b) [(0,8)] (sub [1,1,0,1,0,0] (body Tryz.f43)) [Kf.block 0 8,Kf.seq [] (sub [1,1,1] (body Tryz.f43)) 4] (finK Tryz.prog Tryz.f43 [.d true 5 (.ag [D.str op,D.str nm,D.sl 5 ks,D.int .i64 p])] k) (s0 ks (1:Int) (0:Int)):=by kernel_rfl
theorem round0_0 (ks:List D) (x58:Int) (x59:Int):roundK (X b) [(0,8)] (sub [1,1,0,1,0,0] (body Tryz.f43)) (s0 ks x58 x59)=if decide (x59<(ks.length:Int))=true then if 0≤x59 then match ks[x59.toNat]? with
   |some x130=>match x130 with
    |D.ag xs131=>match xs131 with
     |x132::r133=>match x132 with
      |D.str s134=>match r133 with
       |x135::r136=>match x135 with
        |D.str s137=>match r136 with
         |x138::r139=>match x138 with
          |D.sl sh140 xs141=>if sh140=5 then match r139 with
           |x142::r143=>match x142 with
            |D.int j144 m145=>if j144=IntKind.i64 then match r143 with
             |[]=>if decide (x58≤4096)=true then match ofD (.ag [D.str s134,D.str s137,D.sl 5 xs141,D.int .i64 m145])with
              |some f150=>if bd b f150 then some (Sum.inl (s0 ks (if 4097<IntKind.wrap .i64 (x58+sizeF f150)then(4097:Int)else IntKind.wrap .i64 (x58+sizeF f150)) (IntKind.wrap .i64 (x59+1))))else none
              |none=>none else some (Sum.inl (s0 ks x58 (IntKind.wrap .i64 (x59+1))))
             |x=>none else none
            |x=>none
           |[]=>none else none
          |x=>none
         |[]=>none
        |x=>none
       |[]=>none
      |x=>none
     |[]=>none
    |x=>none
   |none=>none else none else some (Sum.inr (Ex.exit 0,e0x0 x58)):=by kernel_rfl
theorem behind0x0 {β:Type} (op:ByteArray) (nm:ByteArray) (ks:List D) (p:Int) (x122:Int) (k:List TV→List TV→Option β):applyK (X b) (finK Tryz.prog Tryz.f43 [.d true 5 (.ag [D.str op,D.str nm,D.sl 5 ks,D.int .i64 p])] k) [Kf.block 0 8,Kf.seq [] (sub [1,1,1] (body Tryz.f43)) 4] (Ex.exit 0) (e0x0 x122)=k [.d false 0 (.int .i64 x122)] []:=by kernel_rfl
end
end S60
end Go.Sd
namespace Go.Sd
open Go Go.Cm Go.Proofs Go.Sc
set_option maxRecDepth 100000
namespace S29
  section
  variable (b:Option Nat×Option Nat)
noncomputable def X:Fx:=⟨Tryz.prog,R2 b,16,2⟩
end
end S29
namespace S63
  section
  variable (b:Option Nat×Option Nat)
noncomputable def X:Fx:=⟨Tryz.prog,R2 b,64,3⟩
def s0 (ys:List D) (zs:List D) (x110:Int):S:=⟨Tm.mk 32 [(1,.d true 0 (.sl 5 zs)),(2,.d true 0 (.fn 114 [])),(15,.d true 0 (.sl 5 ys)),(16,.d false 0 (.int .i64 (ys.length:Int))),(17,.d false 0 (.int .i64 x110))],[]⟩
def e0r:S:=⟨Tm.mk 32 [(6,.d false 0 (.bool false))],[]⟩
def e0x0:S:=⟨Tm.mk 32 [],[]⟩
noncomputable abbrev L0:S→Option (S ⊕ (Ex×S)):=roundK (X b) [(0,0)] (sub [1,1,0,1,0,0] (body Tryz.f123))
end
end S63
end Go.Sd
namespace Go.Sd
open Go Go.Cm Go.Proofs Go.Sc
set_option maxRecDepth 100000
theorem EnvOk.lim {gl:Gl} {P:Program} {E:Env} {En:Nat→Env} (h:∀n,EnvOk gl P (En n))
  (hc:∀(β:Type) (g:FuncId) (args:List TV) (k:List TV→List TV→Option β) (r:β),E.c g args k=some r→∃n,(En n).c g args k=some r):EnvOk gl P E:=by
 intro β g args k r hr
 obtain⟨n,hn⟩:=hc β g args k r hr
 exact h n β g args k r hn
theorem wi {n:Nat} (h:n≤4096):IntKind.wrap .i64 ((n:Int)+1)=((n+1:Nat):Int):=by rw[wrap_id (by omega) (by omega)];omega
theorem size_loop {b:Option Nat} {fs:List Fm} (hl:fs.length≤4096) (hb:∀f∈fs,bd b f):∀(gs:List Fm) (i:Nat) (n:Int),fs.drop i=gs→i≤fs.length→1≤n→n≤4097→
  Lp (S60.L0 b) (S60.s0 (Fm.dL fs) n i)=some (.exit 0,S60.e0x0 (sizeL gs n))
 |[],i,n,hi,hle,h1,h2=>by
  have hr:=S60.round0_0 b (Fm.dL fs) n i
  have:fs.length≤i:=by have:=congrArg List.length hi;simp at this;omega
  rw[dL_len,if_neg (by simp;omega)]at hr
  exact Lp_exit hr
 |f::gs,i,n,hi,hle,h1,h2=>by
  have hr:=S60.round0_0 b (Fm.dL fs) n i
  have hlt:i<fs.length:=by
   rcases Nat.lt_or_ge i fs.length with h|h
   ·exact h
   ·rw[List.drop_eq_nil_of_le h]at hi;cases hi
  have hf:fs[i]=f:=by
   have:=List.drop_eq_getElem_cons hlt
   rw[hi]at this
   exact(List.cons.inj this).1.symm
  have hgs:fs.drop (i+1)=gs:=by
   have:=List.drop_eq_getElem_cons hlt
   rw[hi]at this
   exact(List.cons.inj this).2.symm
  rw[dL_len,if_pos (by simp;omega),if_pos (by omega),Int.toNat_natCast,dL_get hlt,hf]at hr
  have hm:f∈fs:=hf▸List.getElem_mem hlt
  have hbf:=hb f hm
  have hs:=sizeF_le f
  cases f with
  |mk op nm ks p=>
   have hof:=ofD_d (.mk op nm ks p)
   simp only[Fm.d]at hr hof
   simp only[hof,if_true,if_pos hbf,wi (show i≤4096 by omega),wrap_id (show -9223372036854775808≤n+sizeF (.mk op nm ks p)by omega) (by omega)]at hr
   have ih:=fun m h1 h2=>size_loop hl hb gs (i+1) m hgs (by omega) h1 h2
   simp only[sizeL]
   by_cases hn:n≤4096
   ·rw[if_pos (by simpa using hn)]at hr
    rw[if_pos hn]
    have e:(if(4097:Int)<n+sizeF (.mk op nm ks p)then(4097:Int)else n+sizeF (.mk op nm ks p))=min (n+sizeF (.mk op nm ks p)) 4097:=by split<;>omega
    rw[e]at hr
    exact Lp_step hr (ih _ (by omega) (by omega))
   ·rw[if_neg (by simpa using hn)]at hr
    rw[if_neg hn]
    exact Lp_step hr (ih _ h1 h2)
theorem ev_size {b:Option Nat} {f:Fm} (hs:f.sm=true) (hb:∀n,b=some n→f.dep≤n) {γ:Type} (q:List TV→List TV→Option γ):
  evalF Tryz.prog (R1 b) Tryz.f43 [.d true 5 f.d] q=q [.d false 0 (.int .i64 (sizeF f))] []:=by
 cases f with
 |mk op nm ks p=>
  simp only[Fm.sm,Bool.and_eq_true,Nat.ble_eq]at hs
  have h:=size_loop (b:=b) hs.1 (fun g hg=>bd_none ⟨sm_mem hs.2 hg,trivial⟩ fun n hn=>by
   have h1:=hb n hn
   have h2:=dep_mem hg
   simp only[Fm.dep]at h1
   omega) ks 0 1 rfl (by omega) (by omega) (by omega)
  have st:=S60.start b op nm (Fm.dL ks) p q
  simp only[Fm.d]
  rw[st,show(0:Int)=((0:Nat):Int)from rfl,goLp_of h,S60.behind0x0]
  simp only[sizeF]
theorem envr1:EnvOk glS Tryz.prog (R1 none):=by
 have key:∀n,EnvOk glS Tryz.prog (R1 (some n)):=by
  intro n
  induction n with
  |zero=>
   refine envq5.add fun β args k r hr=>?_
   unfold cSize at hr
   split at hr
   ·split at hr
    ·unfold chkK at hr
     split at hr
     ·rename_i h;have:=h.2;simp only at this;omega
     ·cases hr
    ·cases hr
   ·cases hr
  |succ n ih=>
   refine envq5.add fun β args k r hr=>?_
   unfold cSize at hr
   split at hr
   ·rename_i x
    split at hr
    ·rename_i f hf
     unfold chkK at hr
     split at hr
     ·rename_i h
      rw[d_ofD _ _ hf]
      exact⟨_,_,hr,valid_of ih mixed Tryz.func43 (by kernel_rfl) (ev_size (b:=some n) h.1 (fun m hm=>by cases hm;have:=h.2;simp only at this;omega) _)⟩
     ·cases hr
    ·cases hr
   ·cases hr
 refine EnvOk.lim key fun β g args k r hr=>?_
 simp only[R1,Env.add]at hr ⊢
 cases hg:Nat.beq g 43 with
 |false=>simp only[hg]at hr ⊢;exact⟨0,hr⟩
 |true=>
  simp only[hg]at hr ⊢
  unfold cSize at hr ⊢
  split at hr
  ·split at hr
   ·rename_i f hf
    unfold chkK at hr
    split at hr
    ·rename_i h
     exact⟨f.dep+1,by simp only[hf,chkK];rw[if_pos (bd_at h)];exact hr⟩
    ·cases hr
   ·cases hr
  ·cases hr
end Go.Sd

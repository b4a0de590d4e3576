/- NnfTells: To, bare, Shape: contracts. -/
import Derived.Test.YtbpndgllhhajoaaGreatDoorMak
import Derived.Test.YtbpndgllhhajoaaGreatDoorMae
import Derived.ChangeArms
import Derived.WideShapes
import Derived.Carry
import Derived.ChangeOld
set_option linter.unusedVariables false
set_option linter.unusedSimpArgs false
set_option maxRecDepth 100000
namespace Go.Sc
open Go Go.Cm
theorem absD_inv {x:D} {t:Pr} (h:absD x=some t):
  (∃op nm p,x=.ag [.str op,.str nm,.sl 5 [],.int .i64 p]∧((op.toList=oTrue∧t=.tt)∨(op.toList=oFalse∧t=.ff)∨(op.toList=oLabel∧t=.lab nm)))∨
  (∃op nm a p o y,x=.ag [.str op,.str nm,.sl 5 [a],.int .i64 p]∧op.toList=U1.s o∧absD a=some y∧t=.un o y)∨
  (∃op nm a c p o y z,x=.ag [.str op,.str nm,.sl 5 [a,c],.int .i64 p]∧op.toList=B2.s o∧absD a=some y∧absD c=some z∧t=.bi o y z):=by
 obtain⟨f,hf,ha⟩:=absD_out h
 have hx:=d_ofD _ _ hf
 have ad:∀g:Fm,absD g.d=g.abs:=fun g=>by unfold absD;rw[ofD_d]
 rcases abs_inv ha with⟨op,nm,p,rfl,h1⟩|⟨op,nm,a,p,o,y,rfl,h1,h2,h3⟩|⟨op,nm,a,c,p,o,y,z,rfl,h1,h2,h3,h4⟩
 ·exact .inl ⟨op,nm,p,hx,h1⟩
 ·exact .inr (.inl ⟨op,nm,a.d,p,o,y,hx,h1,by rw[ad];exact h2,h3⟩)
 ·exact .inr (.inr ⟨op,nm,a.d,c.d,p,o,y,z,hx,h1,by rw[ad];exact h2,by rw[ad];exact h3,h4⟩)
theorem absD_K {x:D} {t:Pr} (h:absD x=some t):∃op nm ks p,x=.ag [.str op,.str nm,.sl 5 ks,.int .i64 p]:=by
 rcases absD_inv h with⟨op,nm,p,e,_⟩|⟨op,nm,a,p,o,y,e,_⟩|⟨op,nm,a,c,p,o,y,z,e,_⟩<;>exact⟨_,_,_,_,e⟩
theorem ltB_le {b:Option Nat} {m n:Nat} (h:∀k,b=some k→n≤k) (hm:m<n):ltB b m:=by
 cases b with
 |none=>trivial
 |some k=>exact Nat.lt_of_lt_of_le hm (h k rfl)
theorem toN_of {b:Option Nat} {x:D} {t:Pr} (h:absD x=some t) (h1:ltB b t.sz) (h2:t.sz≤1000000):toN b x=true:=by unfold toN;rw[h];simp[h1,h2]
theorem toN_out {b:Option Nat} {x:D} (h:toN b x=true):∃t,absD x=some t∧ltB b t.sz∧t.sz≤1000000:=by
 unfold toN at h
 split at h
 ·rename_i t ht;have:=of_decide_eq_true h;exact⟨t,ht,this.1,this.2⟩
 ·cases h
open Classical in
theorem barX_of {b:Option Nat} {t:Pr} (h1:ltB b t.sz) (h2:t.sz≤1000000):barX b t.fm.d=true:=by
 have:absD t.fm.d=some t:=by unfold absD;rw[ofD_d];exact abs_fm t
 unfold barX;rw[this];exact decide_eq_true ⟨rfl,h1,h2⟩
open Classical in
theorem barX_out {b:Option Nat} {x:D} (h:barX b x=true):∃t:Pr,x=t.fm.d∧ltB b t.sz∧t.sz≤1000000:=by
 unfold barX at h
 split at h
 ·rename_i t ht;have:=of_decide_eq_true h;exact⟨t,this.1,this.2.1,this.2.2⟩
 ·cases h
end Go.Sc
namespace Go.Sd
open Go Go.Cm Go.Proofs Go.Sc
theorem toN_step {b:Option Nat} {op nm:ByteArray} {p:Int} {ks acc:List D} {x:D} {t:Bool} {i:Nat} (hx:ks[i]? =some x) (hk:toN b x=true) (hi:i<ks.length) (hl:ks.length≤2) (ha:acc.length≤2):
  N11.L0 b (N11.s0 op nm ks p i acc t)=some (.inl (N11.s0 op nm ks p ((i+1:Nat):Int) (acc++[x]) (t||true))):=by
 have hr:=N11.round0_0 b op nm ks p i acc t
 obtain⟨u,hu,_⟩:=toN_out hk
 obtain⟨o,n,l,q,rfl⟩:=absD_K hu
 rw[if_pos (by rw[decide_eq_true_eq];omega),if_pos (by omega),Int.toNat_natCast,hx]at hr
 simp only[if_true,hk,wrap_id (show -9223372036854775808≤(i:Int)+1 by omega) (by omega)]at hr
 rw[if_pos (by omega)]at hr
 exact hr
theorem toN_end {b:Option Nat} {op nm:ByteArray} {p:Int} {ks acc:List D} {t:Bool} {i:Nat} (hi:i=ks.length):N11.L0 b (N11.s0 op nm ks p i acc t)=some (.inr (.exit 0,N11.e0x0 op nm p acc t)):=by
 have hr:=N11.round0_0 b op nm ks p i acc t
 rw[if_neg (by rw[decide_eq_true_eq];omega)]at hr
 exact hr
theorem ev_toN {b:Option Nat} {x:D} {t:Pr} (h:absD x=some t) (hb:∀k,b=some k→t.sz≤k) (hz:t.sz≤1000000) {γ:Type} (q:List TV→List TV→Option γ):evalF Tryz.prog (WToN b) Tryz.f11 [.d true 5 x] q=q [.d true 5 x] []:=by
 rcases absD_inv h with⟨op,nm,p,rfl,h1⟩|⟨op,nm,a,p,o,y,rfl,h1,h2,rfl⟩|⟨op,nm,a,c,p,o,y,z,rfl,h1,h2,h3,rfl⟩
 ·have L:Lp (N11.L0 b) (N11.s0 op nm [] p 0 [] false)=_:=Lp_exit (toN_end (i:=0) rfl)
  rw[N11.start,goLp_of L,N11.behind0x0]
 ·simp only[Pr.sz]at hb hz
  have k1:=toN_of (b:=b) h2 (ltB_le hb (by omega)) (by omega)
  have L:Lp (N11.L0 b) (N11.s0 op nm [a] p 0 [] false)=_:=Lp_step (toN_step (i:=0) rfl k1 (by simp) (by simp) (by simp)) (Lp_exit (toN_end rfl))
  rw[N11.start,goLp_of L,N11.behind0x0]
  rfl
 ·simp only[Pr.sz]at hb hz
  have k1:=toN_of (b:=b) h2 (ltB_le hb (by omega)) (by omega)
  have k2:=toN_of (b:=b) h3 (ltB_le hb (by omega)) (by omega)
  have L:Lp (N11.L0 b) (N11.s0 op nm [a,c] p 0 [] false)=_:=Lp_step (toN_step (i:=0) rfl k1 (by simp) (by simp) (by simp)) (Lp_step (toN_step (i:=1) rfl k2 (by simp) (by simp) (by simp)) (Lp_exit (toN_end rfl)))
  rw[N11.start,goLp_of L,N11.behind0x0]
  rfl
theorem vcToN:∀(β:Type) (args:List TV) (k:List TV→List TV→Option β) (r:β),cToN none args k=some r→∃res outs,k res outs=some r∧Valid glS Tryz.prog 11 args res outs:=fun β args k r hr=>by
 have h:EnvOk glS Tryz.prog (WToN none):=by
  refine EnvOk.rec1 (fun b {β} args k=>cToN b args k) EnvOk.none ?_ ?_ ?_
  ·intro β args k r hr
   unfold cToN at hr
   split at hr
   ·split at hr
    ·rename_i hx;obtain⟨t,_,h,_⟩:=toN_out hx;exact not_ltB_zero h
    ·cases hr
   ·cases hr
  ·intro n ih β args k r hr
   unfold cToN at hr
   split at hr
   ·split at hr
    ·rename_i hx
     obtain⟨t,h1,h2,h3⟩:=toN_out hx
     exact⟨_,_,hr,valid_of ih mixed Tryz.func11 (by kernel_rfl) (ev_toN h1 (fun k hk=>by cases hk;exact Nat.lt_succ_iff.1 h2) h3 _)⟩
    ·cases hr
   ·cases hr
  ·intro β args k r hr
   unfold cToN at hr
   split at hr
   ·split at hr
    ·rename_i hx
     obtain⟨t,h1,h2,h3⟩:=toN_out hx
     refine⟨t.sz+1,?_⟩
     show(if _ then _ else _)=_
     rw[if_pos (toN_of h1 (Nat.lt_succ_self _) h3)]
     exact hr
    ·cases hr
   ·cases hr
 exact h β 11 args k r hr
theorem bar_step {b:Option Nat} {op nm:ByteArray} {p:Int} {ks acc:List D} {x:D} {t:Bool} {i:Nat} (hx:ks[i]? =some x) (hk:barX b x=true) (hi:i<ks.length) (hl:ks.length≤2) (ha:acc.length≤2):
  N34.L0 b (N34.s0 op nm ks p i acc t)=some (.inl (N34.s0 op nm ks p ((i+1:Nat):Int) (acc++[x]) (t||true))):=by
 have hr:=N34.round0_0 b op nm ks p i acc t
 obtain⟨u,hu,_⟩:=barX_out hk
 obtain⟨o,n,l,q,rfl⟩:=absD_K (x:=x) (t:=u) (by rw[hu];unfold absD;rw[ofD_d];exact abs_fm u)
 rw[if_pos (by rw[decide_eq_true_eq];omega),if_pos (by omega),Int.toNat_natCast,hx]at hr
 simp only[if_true,hk,wrap_id (show -9223372036854775808≤(i:Int)+1 by omega) (by omega)]at hr
 rw[if_pos (by omega)]at hr
 exact hr
theorem bar_end {b:Option Nat} {op nm:ByteArray} {p:Int} {ks acc:List D} {t:Bool} {i:Nat} (hi:i=ks.length):N34.L0 b (N34.s0 op nm ks p i acc t)=some (.inr (.exit 0,N34.e0x0 op nm acc t)):=by
 have hr:=N34.round0_0 b op nm ks p i acc t
 rw[if_neg (by rw[decide_eq_true_eq];omega)]at hr
 exact hr
theorem ev_bar {b:Option Nat} {t:Pr} (hb:∀k,b=some k→t.sz≤k) (hz:t.sz≤1000000) {γ:Type} (q:List TV→List TV→Option γ):evalF Tryz.prog (WBar b) Tryz.f34 [.d true 5 t.fm.d] q=q [.d true 5 t.fm.d] []:=by
 have leaf:∀op nm:ByteArray,evalF Tryz.prog (WBar b) Tryz.f34 [.d true 5 (.ag [.str op,.str nm,.sl 5 [],.int .i64 0])] q=q [.d true 5 (.ag [.str op,.str nm,.sl 5 [],.int .i64 0])] []:=fun op nm=>by
  have L:Lp (N34.L0 b) (N34.s0 op nm [] 0 0 [] false)=_:=Lp_exit (bar_end (i:=0) rfl)
  rw[N34.start,N34.behind0x0 b [] 0 op nm _ _ q _ L]
 cases t with
 |tt=>exact leaf _ _
 |ff=>exact leaf _ _
 |lab s=>exact leaf _ _
 |un o a=>
  simp only[Pr.sz]at hb hz
  have k1:=barX_of (b:=b) (t:=a) (ltB_le hb (by omega)) (by omega)
  show evalF Tryz.prog (WBar b) Tryz.f34 [.d true 5 (.ag [.str o.b,.str ⟨#[]⟩,.sl 5 [a.fm.d],.int .i64 0])] q=_
  have L:Lp (N34.L0 b) (N34.s0 o.b ⟨#[]⟩ [a.fm.d] 0 0 [] false)=_:=Lp_step (bar_step (i:=0) rfl k1 (by simp) (by simp) (by simp)) (Lp_exit (bar_end rfl))
  rw[N34.start,N34.behind0x0 b _ 0 o.b _ _ _ q _ L]
  rfl
 |bi o a c=>
  simp only[Pr.sz]at hb hz
  have k1:=barX_of (b:=b) (t:=a) (ltB_le hb (by omega)) (by omega)
  have k2:=barX_of (b:=b) (t:=c) (ltB_le hb (by omega)) (by omega)
  show evalF Tryz.prog (WBar b) Tryz.f34 [.d true 5 (.ag [.str o.b,.str ⟨#[]⟩,.sl 5 [a.fm.d,c.fm.d],.int .i64 0])] q=_
  have L:Lp (N34.L0 b) (N34.s0 o.b ⟨#[]⟩ [a.fm.d,c.fm.d] 0 0 [] false)=_:=Lp_step (bar_step (i:=0) rfl k1 (by simp) (by simp) (by simp)) (Lp_step (bar_step (i:=1) rfl k2 (by simp) (by simp) (by simp)) (Lp_exit (bar_end rfl)))
  rw[N34.start,N34.behind0x0 b _ 0 o.b _ _ _ q _ L]
  rfl
theorem vcBar:∀(β:Type) (args:List TV) (k:List TV→List TV→Option β) (r:β),cBar none args k=some r→∃res outs,k res outs=some r∧Valid glS Tryz.prog 34 args res outs:=fun β args k r hr=>by
 have h:EnvOk glS Tryz.prog (WBar none):=by
  refine EnvOk.rec1 (fun b {β} args k=>cBar b args k) EnvOk.none ?_ ?_ ?_
  ·intro β args k r hr
   unfold cBar at hr
   split at hr
   ·split at hr
    ·rename_i hx;obtain⟨t,_,h,_⟩:=barX_out hx;exact not_ltB_zero h
    ·cases hr
   ·cases hr
  ·intro n ih β args k r hr
   unfold cBar at hr
   split at hr
   ·split at hr
    ·rename_i hx
     obtain⟨t,rfl,h2,h3⟩:=barX_out hx
     exact⟨_,_,hr,valid_of ih mixed Tryz.func34 (by kernel_rfl) (ev_bar (fun k hk=>by cases hk;exact Nat.lt_succ_iff.1 h2) h3 _)⟩
    ·cases hr
   ·cases hr
  ·intro β args k r hr
   unfold cBar at hr
   split at hr
   ·split at hr
    ·rename_i hx
     obtain⟨t,rfl,h2,h3⟩:=barX_out hx
     refine⟨t.sz+1,?_⟩
     show(if _ then _ else _)=_
     rw[if_pos (barX_of (Nat.lt_succ_self _) h3)]
     exact hr
    ·cases hr
   ·cases hr
 exact h β 34 args k r hr
end Go.Sd
set_option maxRecDepth 100000
namespace Go.Sc
open Go Go.Cm
theorem sz_toL (s:ByteArray):s.size=s.toList.length:=by rw[ByteArray.toList_eq];rfl
theorem T8.b_toL (l:T8):(T8.b l).toList=l:=B_lit l
theorem T8.b_sz (l:T8):(T8.b l).size=l.length:=rfl
theorem absD_fm (t:Pr):absD t.fm.d=some t:=by unfold absD;rw[ofD_d];exact abs_fm t
open Classical in
theorem shpX_of {b:Option Nat} {t:Pr} (h1:ltB b t.sz) (h2:t.shape.length≤9223372036854775807):shpX b t.fm.d=some (T8.b t.shape):=by
 unfold shpX;rw[absD_fm];exact if_pos ⟨rfl,h1,h2⟩
open Classical in
theorem shpX_out {b:Option Nat} {x:D} {s:ByteArray} (h:shpX b x=some s):∃t:Pr,x=t.fm.d∧ltB b t.sz∧t.shape.length≤9223372036854775807∧s=T8.b t.shape:=by
 unfold shpX at h
 split at h
 ·rename_i t ht
  split at h
  ·rename_i hc;cases h;exact⟨t,hc.1,hc.2.1,hc.2.2,rfl⟩
  ·cases h
 ·cases h
def hdS (op nm:ByteArray):ByteArray:=⟨#[40]⟩++op++⟨#[32]⟩++nm++⟨#[32]⟩++⟨#[48]⟩
theorem hdS_toL (op nm:ByteArray):(hdS op nm).toList=40::(op.toList++32::(nm.toList++[32,48])):=by
 unfold hdS
 simp only[toL_append,B_lit [40],B_lit [32],B_lit [48]]
 simp
end Go.Sc
namespace Go.Sd
open Go Go.Cm Go.Proofs Go.Sc
theorem shp_start {b:Option Nat} {op nm:ByteArray} {ks:List D} (h:op.size+nm.size+4≤9223372036854775807) {γ:Type} (q:List TV→List TV→Option γ):
  evalF Tryz.prog (WShp b) Tryz.f33 [.d true 5 (.ag [.str op,.str nm,.sl 5 ks,.int .i64 0])] q=N33.G0 b op nm ks 0 q (N33.s0 op nm ks 0 (hdS op nm) 0):=by
 have z:∀c:UInt8,(⟨#[c]⟩:ByteArray).size=1:=fun c=>rfl
 rw[N33.start,if_pos (by omega),if_pos (by simp only[ByteArray.size_append,z];omega),if_pos (by simp only[ByteArray.size_append,z];omega),if_pos (by simp only[ByteArray.size_append,z];omega),if_pos rfl,if_pos (by simp only[ByteArray.size_append,z];omega)]
 rfl
theorem shp_step {b:Option Nat} {op nm acc s:ByteArray} {p:Int} {ks:List D} {x:D} {i:Nat} (hx:ks[i]? =some x) (hk:shpX b x=some s) (hi:i<ks.length) (hl:ks.length≤2) (ha:acc.size+s.size≤9223372036854775807):
  N33.L0 b (N33.s0 op nm ks p acc i)=some (.inl (N33.s0 op nm ks p (acc++s) ((i+1:Nat):Int))):=by
 have hr:=N33.round0_0 b op nm ks p acc i
 obtain⟨u,hu,_⟩:=shpX_out hk
 obtain⟨o,n,l,q,rfl⟩:=absD_K (x:=x) (t:=u) (by rw[hu];exact absD_fm u)
 rw[if_pos (by rw[decide_eq_true_eq];omega),if_pos (by omega),Int.toNat_natCast,hx]at hr
 simp only[if_true,hk,wrap_id (show -9223372036854775808≤(i:Int)+1 by omega) (by omega)]at hr
 rw[if_pos ha]at hr
 exact hr
theorem shp_end {b:Option Nat} {op nm acc:ByteArray} {p:Int} {ks:List D} {i:Nat} (hi:i=ks.length):N33.L0 b (N33.s0 op nm ks p acc i)=some (.inr (.exit 0,N33.e0x0 acc)):=by
 have hr:=N33.round0_0 b op nm ks p acc i
 rw[if_neg (by rw[decide_eq_true_eq];omega)]at hr
 exact hr
theorem ev_shp {b:Option Nat} {t:Pr} (hb:∀k,b=some k→t.sz≤k) (hz:t.shape.length≤9223372036854775807) {γ:Type} (q:List TV→List TV→Option γ):evalF Tryz.prog (WShp b) Tryz.f33 [.d true 5 t.fm.d] q=q [.d false 0 (.str (T8.b t.shape))] []:=by
 have z:∀c:UInt8,(⟨#[c]⟩:ByteArray).size=1:=fun c=>rfl
 have leaf:∀op nm:ByteArray,t.shape=40::(op.toList++32::(nm.toList++[32,48,41]))→evalF Tryz.prog (WShp b) Tryz.f33 [.d true 5 (.ag [.str op,.str nm,.sl 5 [],.int .i64 0])] q=q [.d false 0 (.str (T8.b t.shape))] []:=fun op nm e=>by
  have hl:=hz
  rw[e]at hl
  simp only[List.length_cons,List.length_append,List.length_nil, ←sz_toL]at hl
  have L:Lp (N33.L0 b) (N33.s0 op nm [] 0 (hdS op nm) 0)=_:=Lp_exit (shp_end (i:=0) rfl)
  have hs:(hdS op nm).size=op.size+nm.size+4:=by rw[sz_toL,hdS_toL];simp only[List.length_cons,List.length_append,List.length_nil, ←sz_toL];omega
  rw[shp_start (by omega),N33.behind0x0 b op nm [] 0 _ q _ L,if_pos (by omega)]
  congr 5
  refine toList_inj ?_
  rw[toL_append,hdS_toL,T8.b_toL,e,B_lit [41]]
  simp
 cases t with
 |tt=>exact leaf bTrue ⟨#[]⟩ (by rw[show bTrue.toList=oTrue from B_lit oTrue,B_lit []];rfl)
 |ff=>exact leaf bFalse ⟨#[]⟩ (by rw[show bFalse.toList=oFalse from B_lit oFalse,B_lit []];rfl)
 |lab s=>exact leaf ⟨#[108,97,98,101,108]⟩ s (by rw[show(⟨#[108,97,98,101,108]⟩:ByteArray).toList=oLabel from B_lit oLabel];rfl)
 |un o a=>
  simp only[Pr.sz]at hb
  have e:Pr.shape (.un o a)=40::(o.s++32::32::48::(a.shape++[41])):=rfl
  have hl:=hz
  rw[e]at hl
  simp only[List.length_cons,List.length_append,List.length_nil]at hl
  have k1:=shpX_of (b:=b) (t:=a) (ltB_le hb (by omega)) (by omega)
  have ho:o.b.size=o.s.length:=by rw[sz_toL,U1.b_s]
  have hn:(⟨#[]⟩:ByteArray).size=0:=rfl
  have hs:(hdS o.b ⟨#[]⟩).size=o.s.length+4:=by rw[sz_toL,hdS_toL,U1.b_s,B_lit []];simp
  show evalF Tryz.prog (WShp b) Tryz.f33 [.d true 5 (.ag [.str o.b,.str ⟨#[]⟩,.sl 5 [a.fm.d],.int .i64 0])] q=_
  have L:Lp (N33.L0 b) (N33.s0 o.b ⟨#[]⟩ [a.fm.d] 0 (hdS o.b ⟨#[]⟩) 0)=_:=Lp_step (shp_step (i:=0) rfl k1 (by simp) (by simp) (by rw[hs,T8.b_sz];omega)) (Lp_exit (shp_end rfl))
  rw[shp_start (by omega),N33.behind0x0 b _ _ _ 0 _ q _ L,if_pos (by rw[ByteArray.size_append,hs,T8.b_sz];omega)]
  congr 5
  refine toList_inj ?_
  rw[toL_append,toL_append,hdS_toL,T8.b_toL,T8.b_toL,e,B_lit [41],U1.b_s,B_lit []]
  simp
 |bi o a c=>
  simp only[Pr.sz]at hb
  have e:Pr.shape (.bi o a c)=40::(o.s++32::32::48::(a.shape++(c.shape++[41]))):=rfl
  have hl:=hz
  rw[e]at hl
  simp only[List.length_cons,List.length_append,List.length_nil]at hl
  have k1:=shpX_of (b:=b) (t:=a) (ltB_le hb (by omega)) (by omega)
  have k2:=shpX_of (b:=b) (t:=c) (ltB_le hb (by omega)) (by omega)
  have ho:o.b.size=o.s.length:=by rw[sz_toL,B2.b_s]
  have hn:(⟨#[]⟩:ByteArray).size=0:=rfl
  have hs:(hdS o.b ⟨#[]⟩).size=o.s.length+4:=by rw[sz_toL,hdS_toL,B2.b_s,B_lit []];simp
  show evalF Tryz.prog (WShp b) Tryz.f33 [.d true 5 (.ag [.str o.b,.str ⟨#[]⟩,.sl 5 [a.fm.d,c.fm.d],.int .i64 0])] q=_
  have L:Lp (N33.L0 b) (N33.s0 o.b ⟨#[]⟩ [a.fm.d,c.fm.d] 0 (hdS o.b ⟨#[]⟩) 0)=_:=Lp_step (shp_step (i:=0) rfl k1 (by simp) (by simp) (by rw[hs,T8.b_sz];omega)) (Lp_step (shp_step (i:=1) rfl k2 (by simp) (by simp) (by rw[ByteArray.size_append,hs,T8.b_sz,T8.b_sz];omega)) (Lp_exit (shp_end rfl)))
  rw[shp_start (by omega),N33.behind0x0 b _ _ _ 0 _ q _ L,if_pos (by rw[ByteArray.size_append,ByteArray.size_append,hs,T8.b_sz,T8.b_sz];omega)]
  congr 5
  refine toList_inj ?_
  rw[toL_append,toL_append,toL_append,hdS_toL,T8.b_toL,T8.b_toL,T8.b_toL,e,B_lit [41],B2.b_s,B_lit []]
  simp
theorem vcShp:∀(β:Type) (args:List TV) (k:List TV→List TV→Option β) (r:β),cShp none args k=some r→∃res outs,k res outs=some r∧Valid glS Tryz.prog 33 args res outs:=fun β args k r hr=>by
 have h:EnvOk glS Tryz.prog (WShp none):=by
  refine EnvOk.rec1 (fun b {β} args k=>cShp b args k) (EnvOk.none.add vcDig0) ?_ ?_ ?_
  ·intro β args k r hr
   unfold cShp at hr
   split at hr
   ·split at hr
    ·rename_i hx;obtain⟨t,_,h,_⟩:=shpX_out hx;exact not_ltB_zero h
    ·cases hr
   ·cases hr
  ·intro n ih β args k r hr
   unfold cShp at hr
   split at hr
   ·split at hr
    ·rename_i hx
     obtain⟨t,rfl,h2,h3,rfl⟩:=shpX_out hx
     exact⟨_,_,hr,valid_of ih mixed Tryz.func33 (by kernel_rfl) (ev_shp (fun k hk=>by cases hk;exact Nat.lt_succ_iff.1 h2) h3 _)⟩
    ·cases hr
   ·cases hr
  ·intro β args k r hr
   unfold cShp at hr
   split at hr
   ·split at hr
    ·rename_i hx
     obtain⟨t,rfl,h2,h3,rfl⟩:=shpX_out hx
     refine⟨t.sz+1,?_⟩
     simp only[cShp,shpX_of (b:=some (t.sz+1)) (Nat.lt_succ_self _) h3]
     exact hr
    ·cases hr
   ·cases hr
 exact h β 33 args k r hr
end Go.Sd
namespace Go.Sd
open Go Go.Cm Go.Proofs Go.Sc
set_option maxRecDepth 100000
namespace N56
  section
  variable (b:Option Nat)
noncomputable def X:Fx:=⟨Tryz.prog,WPrt b,4,1⟩
noncomputable def s0 (op:ByteArray) (nm:ByteArray) (ks:List D) (p:Int) (x84:List D) (x85:Int):S:=⟨Tm.mk 97 [(1,.rp 2 0),(3,.d false 0 (.int .i64 (rankN op))),(4,.own false 0 x84),(5,.d false 0 (.int .i64 x85))],[(2,true,[.d true 0 (.str op),.d true 0 (.str nm),.d true 0 (.sl 5 ks),.d true 0 (.int .i64 p)])]⟩
noncomputable def e0x0 (op:ByteArray) (nm:ByteArray) (ks:List D) (p:Int) (x178:List D):S:=⟨Tm.mk 97 [(1,.rp 2 0),(3,.d false 0 (.int .i64 (rankN op))),(4,.own false 0 x178)],[(2,true,[.d true 0 (.str op),.d true 0 (.str nm),.d true 0 (.sl 5 ks),.d true 0 (.int .i64 p)])]⟩
noncomputable def j0 (op:ByteArray) (nm:ByteArray) (ks:List D) (p:Int) (x45:Bool) (x139:List D) (x140:Int) (x141:ByteArray):S:=⟨Tm.mk 97 [(1,.rp 2 0),(3,.d false 0 (.int .i64 (rankN op))),(4,.own false 0 x139),(5,.d false 0 (.int .i64 x140)),(6,.d false 0 (.str x141)),(7,.d false 0 (.int .i64 (rankN op))),(50,.d false 0 (.bool x45))],[(2,true,[.d true 0 (.str op),.d true 0 (.str nm),.d true 0 (.sl 5 ks),.d true 0 (.int .i64 p)])]⟩
noncomputable def j1 (op:ByteArray) (nm:ByteArray) (ks:List D) (p:Int) (x95:Int) (x196:List D) (x197:Int) (x198:ByteArray):S:=⟨Tm.mk 97 [(1,.rp 2 0),(3,.d false 0 (.int .i64 (rankN op))),(4,.own false 0 x196),(5,.d false 0 (.int .i64 x197)),(6,.d false 0 (.str x198)),(7,.d false 0 (.int .i64 x95))],[(2,true,[.d true 0 (.str op),.d true 0 (.str nm),.d true 0 (.sl 5 ks),.d true 0 (.int .i64 p)])]⟩
noncomputable abbrev L0:S→Option (S ⊕ (Ex×S)):=roundK (X b) [(0,26)] (sub [1,1,1,1,1,0,1,0,0] (body Tryz.f56))
noncomputable abbrev G0 {β:Type} (op:ByteArray) (nm:ByteArray) (ks:List D) (p:Int) (k:List TV→List TV→Option β):S→Option β:=goLp (X b) [(0,26)] (sub [1,1,1,1,1,0,1,0,0] (body Tryz.f56)) [Kf.block 0 26,Kf.seq [] (sub [1,1,1,1,1,1] (body Tryz.f56)) 4] (finK Tryz.prog Tryz.f56 [.d true 5 (.ag [D.str op,D.str nm,D.sl 5 ks,D.int .i64 p])] k)
noncomputable abbrev J0:S→Option (S ⊕ (Ex×S)):=applyK (X b) (finR (X b) [(0,26)] (sub [1,1,1,1,1,0,1,0,0] (body Tryz.f56))) [Kf.seq [(1,58),(0,26)] (sub [1,1,1,1,1,0,1,0,0,1,0,0,1,1,0,1] (body Tryz.f56)) 250,Kf.seq [(1,58),(0,26)] (sub [1,1,1,1,1,0,1,0,0,1,0,0,1,1,1] (body Tryz.f56)) 58,Kf.block 1 58,Kf.seq [(0,26)] (sub [1,1,1,1,1,0,1,0,0,1,1] (body Tryz.f56)) 58] Ex.norm
noncomputable abbrev J1:S→Option (S ⊕ (Ex×S)):=applyK (X b) (finR (X b) [(0,26)] (sub [1,1,1,1,1,0,1,0,0] (body Tryz.f56))) [Kf.seq [(1,58),(0,26)] (sub [1,1,1,1,1,0,1,0,0,1,0,0,1,1,1] (body Tryz.f56)) 58,Kf.block 1 58,Kf.seq [(0,26)] (sub [1,1,1,1,1,0,1,0,0,1,1] (body Tryz.f56)) 58] Ex.norm
theorem start {β:Type} (op:ByteArray) (nm:ByteArray) (ks:List D) (p:Int) (k:List TV→List TV→Option β):evalF Tryz.prog (WPrt b) Tryz.f56 [.d true 5 (.ag [D.str op,D.str nm,D.sl 5 ks,D.int .i64 p])] k=if(op.toList==[108,97,98,101,108])=true then if 1+ByteArray.size nm≤9223372036854775807 then if ByteArray.size (ByteArray.mk #[34]++nm)+1≤9223372036854775807 then k [.d false 0 (.str (ByteArray.mk #[34]++nm++ByteArray.mk #[34]))] []else none else none else if(rankN op==5)=true then k [.d false 0 (.str op)] []else G0 b op nm ks p k (s0 op nm ks p [] (0:Int)):=by kernel_rfl
theorem round0_0 (op:ByteArray) (nm:ByteArray) (ks:List D) (p:Int) (x82:List D) (x83:Int):roundK (X b) [(0,26)] (sub [1,1,1,1,1,0,1,0,0] (body Tryz.f56)) (s0 op nm ks p x82 x83)=if decide (x83<(ks.length:Int))=true then if 0≤x83 then match ks[x83.toNat]? with
   |some x222=>match x222 with
    |D.ag xs223=>match xs223 with
     |x224::r225=>match x224 with
      |D.str s226=>match r225 with
       |x227::r228=>match x227 with
        |D.str s229=>match r228 with
         |x230::r231=>match x230 with
          |D.sl sh232 xs233=>if sh232=5 then match r231 with
           |x234::r235=>match x234 with
            |D.int j236 m237=>if j236=IntKind.i64 then match r235 with
             |[]=>match prtX b (.ag [D.str s226,D.str s229,D.sl 5 xs233,D.int .i64 m237])with
              |some s239=>if((ks.length:Int)==2)=true then if(rankN op==0)=true then J0 b (j0 op nm ks p ((x83==0)==true) x82 x83 s239)else J0 b (j0 op nm ks p ((x83==0)==(rankN op==3)) x82 x83 s239)else J0 b (j0 op nm ks p false x82 x83 s239)
              |none=>none
             |x=>none else none
            |x=>none
           |[]=>none else none
          |x=>none
         |[]=>none
        |x=>none
       |[]=>none
      |x=>none
     |[]=>none
    |x=>none
   |none=>none else none else some (Sum.inr (Ex.exit 0,e0x0 op nm ks p x82)):=by kernel_rfl
theorem behind0x0 {β:Type} (op:ByteArray) (nm:ByteArray) (ks:List D) (p:Int) (x178:List D) (k:List TV→List TV→Option β) (s__:S) (h__:Lp (L0 b) s__=some (Ex.exit 0,e0x0 op nm ks p x178)):G0 b op nm ks p k s__=if(op.toList==[33])=true then if(0:Int)≤0∧(0:Int)<(x178.length:Int)then match x178[0]? with
   |some x281=>match x281 with
    |D.str s282=>if 1+ByteArray.size s282≤9223372036854775807 then k [.d false 0 (.str (ByteArray.mk #[33]++s282))] []else none
    |x=>none
   |none=>none else none else if(rankN op==4)=true then if ByteArray.size op+1≤9223372036854775807 then if(0:Int)≤0∧(0:Int)<(x178.length:Int)then match x178[0]? with
    |some x286=>match x286 with
     |D.str s287=>if ByteArray.size (op++ByteArray.mk #[32])+ByteArray.size s287≤9223372036854775807 then k [.d false 0 (.str (op++ByteArray.mk #[32]++s287))] []else none
     |x=>none
    |none=>none else none else none else if(0:Int)≤0∧(0:Int)<(x178.length:Int)then match x178[0]? with
    |some x289=>match x289 with
     |D.str s290=>if ByteArray.size s290+1≤9223372036854775807 then if ByteArray.size (s290++ByteArray.mk #[32])+ByteArray.size op≤9223372036854775807 then if ByteArray.size (s290++ByteArray.mk #[32]++op)+1≤9223372036854775807 then if(0:Int)≤1∧(1:Int)<(x178.length:Int)then match x178[1]? with
      |some x291=>match x291 with
       |D.str s292=>if ByteArray.size (s290++ByteArray.mk #[32]++op++ByteArray.mk #[32])+ByteArray.size s292≤9223372036854775807 then k [.d false 0 (.str (s290++ByteArray.mk #[32]++op++ByteArray.mk #[32]++s292))] []else none
       |x=>none
      |none=>none else none else none else none else none
     |x=>none
    |none=>none else none:=(goLp_of h__).trans (by kernel_rfl)
theorem j0_eq (op:ByteArray) (nm:ByteArray) (ks:List D) (p:Int) (x45:Bool) (x139:List D) (x140:Int) (x141:ByteArray):J0 b (j0 op nm ks p x45 x139 x140 x141)=if x45=true then J1 b (j1 op nm ks p (IntKind.wrap .i64 (rankN op+1)) x139 x140 x141)else J1 b (j1 op nm ks p (rankN op) x139 x140 x141):=by kernel_rfl
theorem j1_eq (op:ByteArray) (nm:ByteArray) (ks:List D) (p:Int) (x95:Int) (x196:List D) (x197:Int) (x198:ByteArray):J1 b (j1 op nm ks p x95 x196 x197 x198)=if 0≤x197 then match ks[x197.toNat]? with
   |some x296=>match match x296 with
    |D.ag xs=>xs[0]?
    |x=>none with
    |some y297=>match y297 with
     |D.str s298=>if decide (rankN s298<x95)=true then if 1+ByteArray.size x198≤9223372036854775807 then if ByteArray.size (ByteArray.mk #[40]++x198)+1≤9223372036854775807 then if x196.length+1≤34359738368 then some (Sum.inl (s0 op nm ks p (x196++[D.str (ByteArray.mk #[40]++x198++ByteArray.mk #[41])]) (IntKind.wrap .i64 (x197+1))))else none else none else none else if x196.length+1≤34359738368 then some (Sum.inl (s0 op nm ks p (x196++[D.str x198]) (IntKind.wrap .i64 (x197+1))))else none
     |x=>none
    |none=>none
   |none=>none else none:=by kernel_rfl
end
end N56
namespace N36
  section
  variable (b:Option Nat)
noncomputable def X:Fx:=⟨Tryz.prog,WSim b,4,1⟩
noncomputable def s0 (op:ByteArray) (nm:ByteArray) (ks:List D) (p:Int) (x58:Int) (x59:List D) (x60:Bool):S:=⟨Tm.mk 147 [(1,.rp 2 0),(2,.rp 3 0),(3,.rp 4 0),(4,.d false 0 (.int .i64 x58))],[(2,true,[.d true 0 (.str op),.d true 0 (.str nm),.d true 0 (.sl 5 ks),.d true 0 (.int .i64 p)]),(3,true,[.d false 0 (.str (ByteArray.mk #[])),.d false 0 (.str (ByteArray.mk #[])),.own false 5 [],.d false 0 (.int .i64 0)]),(4,true,[.d true 0 (.str op),.d true 0 (.str nm),.own x60 5 x59,.d false 0 (.int .i64 0)])]⟩
noncomputable def e0x0 (op:ByteArray) (nm:ByteArray) (x121:List D) (x122:Bool):S:=⟨Tm.mk 147 [(2,.rp 3 0),(3,.rp 4 0)],[(3,true,[.d false 0 (.str (ByteArray.mk #[])),.d false 0 (.str (ByteArray.mk #[])),.own false 5 [],.d false 0 (.int .i64 0)]),(4,true,[.d true 0 (.str op),.d true 0 (.str nm),.own x122 5 x121,.d false 0 (.int .i64 0)])]⟩
noncomputable def j0 (op:ByteArray) (nm:ByteArray) (x121:List D) (x122:Bool) (x149:Bool):S:=⟨Tm.mk 147 [(2,.rp 3 0),(3,.rp 4 0),(49,.d false 0 (.bool x149))],[(3,true,[.d false 0 (.str (ByteArray.mk #[])),.d false 0 (.str (ByteArray.mk #[])),.own false 5 [],.d false 0 (.int .i64 0)]),(4,true,[.d true 0 (.str op),.d true 0 (.str nm),.own x122 5 x121,.d false 0 (.int .i64 0)])]⟩
noncomputable def j1 (op:ByteArray) (nm:ByteArray) (x121:List D) (x122:Bool) (s320338:ByteArray) (s323341:ByteArray) (xs327345:List D) (m331349:Int) (s264355:ByteArray) (s267358:ByteArray) (xs271362:List D) (m275366:Int):S:=⟨Tm.mk 147 [(2,.rp 3 0),(3,.rp 4 0),(5,.rp 6 0),(6,.rp 7 0),(59,.rp 4 2),(60,.bf 4 2),(61,.ae 4 2 0 0),(62,.d x122 5 (.ag [D.str s320338,D.str s323341,D.sl 5 xs327345,D.int .i64 m331349])),(63,.rp 4 2),(64,.bf 4 2),(65,.ae 4 2 1 0),(66,.d x122 5 (.ag [D.str s264355,D.str s267358,D.sl 5 xs271362,D.int .i64 m275366]))],[(3,true,[.d false 0 (.str (ByteArray.mk #[])),.d false 0 (.str (ByteArray.mk #[])),.own false 5 [],.d false 0 (.int .i64 0)]),(4,true,[.d true 0 (.str op),.d true 0 (.str nm),.own x122 5 x121,.d false 0 (.int .i64 0)]),(6,true,[.d x122 0 (.str s320338),.d x122 0 (.str s323341),.d x122 0 (.sl 5 xs327345),.d x122 0 (.int .i64 m331349)]),(7,true,[.d x122 0 (.str s264355),.d x122 0 (.str s267358),.d x122 0 (.sl 5 xs271362),.d x122 0 (.int .i64 m275366)])]⟩
noncomputable abbrev L0:S→Option (S ⊕ (Ex×S)):=roundK (X b) [(0,12)] (sub [1,1,0,1,0,0] (body Tryz.f36))
noncomputable abbrev G0 {β:Type} (op:ByteArray) (nm:ByteArray) (ks:List D) (p:Int) (k:List TV→List TV→Option β):S→Option β:=goLp (X b) [(0,12)] (sub [1,1,0,1,0,0] (body Tryz.f36)) [Kf.block 0 12,Kf.seq [] (sub [1,1,1] (body Tryz.f36)) 4] (finK Tryz.prog Tryz.f36 [.d true 5 (.ag [D.str op,D.str nm,D.sl 5 ks,D.int .i64 p])] k)
noncomputable abbrev J0 {β:Type} (op:ByteArray) (nm:ByteArray) (ks:List D) (p:Int) (k:List TV→List TV→Option β):S→Option β:=applyK (X b) (finK Tryz.prog Tryz.f36 [.d true 5 (.ag [D.str op,D.str nm,D.sl 5 ks,D.int .i64 p])] k) [Kf.seq [] (sub [1,1,1,0,1] (body Tryz.f36)) 12,Kf.seq [] (sub [1,1,1,1] (body Tryz.f36)) 4] Ex.norm
noncomputable abbrev J1 {β:Type} (op:ByteArray) (nm:ByteArray) (ks:List D) (p:Int) (k:List TV→List TV→Option β):S→Option β:=applyK (X b) (finK Tryz.prog Tryz.f36 [.d true 5 (.ag [D.str op,D.str nm,D.sl 5 ks,D.int .i64 p])] k) [Kf.seq [] (sub [1,1,1,1,1,1] (body Tryz.f36)) 4] Ex.norm
noncomputable def R0:Array Oper:=regOps (sub [1,1,1,1,1,0] (body Tryz.f36))
def B0:List Nat:=[0,1,3,7,0,16,48,112,0,0,783,2047]
  section
  variable {β:Type} (op:ByteArray) (nm:ByteArray) (x121:List D) (x122:Bool) (s181:ByteArray) (s184:ByteArray) (xs188:List D) (m192:Int) (s202:ByteArray) (s205:ByteArray) (xs209:List D) (m213:Int) (kont172:S→Option β)
noncomputable def z0_0:S:=⟨Tm.mk 147 [(2,.rp 3 0),(3,.rp 4 0),(5,.rp 6 0),(6,.rp 7 0),(59,.rp 4 2),(60,.bf 4 2),(61,.ae 4 2 0 0),(62,.d x122 5 (.ag [D.str s181,D.str s184,D.sl 5 xs188,D.int .i64 m192])),(63,.rp 4 2),(64,.bf 4 2),(65,.ae 4 2 1 0),(66,.d x122 5 (.ag [D.str s202,D.str s205,D.sl 5 xs209,D.int .i64 m213]))],[(3,true,[.d false 0 (.str (ByteArray.mk #[])),.d false 0 (.str (ByteArray.mk #[])),.own false 5 [],.d false 0 (.int .i64 0)]),(4,true,[.d true 0 (.str op),.d true 0 (.str nm),.own x122 5 x121,.d false 0 (.int .i64 0)]),(6,true,[.d x122 0 (.str s181),.d x122 0 (.str s184),.d x122 0 (.sl 5 xs188),.d x122 0 (.int .i64 m192)]),(7,true,[.d x122 0 (.str s202),.d x122 0 (.str s205),.d x122 0 (.sl 5 xs209),.d x122 0 (.int .i64 m213)])]⟩
noncomputable def z0_9:S:=⟨Tm.mk 147 [(2,.rp 3 0),(3,.rp 4 0)],[(3,true,[.d false 0 (.str (ByteArray.mk #[])),.d false 0 (.str (ByteArray.mk #[])),.own false 5 [],.d false 0 (.int .i64 0)]),(4,true,[.d true 0 (.str op),.d true 0 (.str nm),.own x122 5 x121,.d false 0 (.int .i64 0)])]⟩
noncomputable def u0_0:List (Nat×V):=[(2,.rp 3 0),(3,.rp 4 0),(5,.rp 6 0),(6,.rp 7 0),(59,.rp 4 2),(60,.bf 4 2),(61,.ae 4 2 0 0),(62,.d x122 5 (.ag [D.str s181,D.str s184,D.sl 5 xs188,D.int .i64 m192])),(63,.rp 4 2),(64,.bf 4 2),(65,.ae 4 2 1 0),(66,.d x122 5 (.ag [D.str s202,D.str s205,D.sl 5 xs209,D.int .i64 m213]))]
noncomputable def v0_0:List (Nat×Bool×List V):=[(3,true,[.d false 0 (.str (ByteArray.mk #[])),.d false 0 (.str (ByteArray.mk #[])),.own false 5 [],.d false 0 (.int .i64 0)]),(4,true,[.d true 0 (.str op),.d true 0 (.str nm),.own x122 5 x121,.d false 0 (.int .i64 0)]),(6,true,[.d false 0 (.str (ByteArray.mk #[])),.d false 0 (.str (ByteArray.mk #[])),.own false 5 [],.d false 0 (.int .i64 0)]),(7,true,[.d false 0 (.str (ByteArray.mk #[])),.d false 0 (.str (ByteArray.mk #[])),.own false 5 [],.d false 0 (.int .i64 0)])]
noncomputable def z0_1:S:=⟨Tm.mk 147 (selT (u0_0 x122 s181 s184 xs188 m192 s202 s205 xs209 m213) 5592405 []),selR (v0_0 op nm x121 x122) 117 [(6,true,[.d x122 0 (.str s181),.d x122 0 (.str s184),.d x122 0 (.sl 5 xs188),.d x122 0 (.int .i64 m192)])]⟩
noncomputable def z0_2:S:=⟨Tm.mk 147 (selT (u0_0 x122 s181 s184 xs188 m192 s202 s205 xs209 m213) 5592405 []),selR (v0_0 op nm x121 x122) 85 []⟩
noncomputable def z0_3:S:=⟨Tm.mk 147 (selT (u0_0 x122 s181 s184 xs188 m192 s202 s205 xs209 m213) 5592341 []),selR (v0_0 op nm x121 x122) 21 []⟩
noncomputable def z0_4:S:=⟨Tm.mk 147 (selT (u0_0 x122 s181 s184 xs188 m192 s202 s205 xs209 m213) 5592389 []),selR (v0_0 op nm x121 x122) 69 []⟩
noncomputable def z0_5:S:=⟨Tm.mk 147 [(2,.rp 3 0),(3,.rp 4 0),(59,.rp 4 2),(60,.bf 4 2),(61,.ae 4 2 0 0),(62,.d x122 5 (.ag [D.str s181,D.str s184,D.sl 5 xs188,D.int .i64 m192])),(63,.rp 4 2),(64,.bf 4 2)],[(3,true,[.d false 0 (.str (ByteArray.mk #[])),.d false 0 (.str (ByteArray.mk #[])),.own false 5 [],.d false 0 (.int .i64 0)]),(4,true,[.d true 0 (.str op),.d true 0 (.str nm),.own x122 5 x121,.d false 0 (.int .i64 0)])]⟩
noncomputable def z0_6:S:=⟨Tm.mk 147 [(2,.rp 3 0),(3,.rp 4 0),(59,.rp 4 2),(60,.bf 4 2),(61,.ae 4 2 0 0),(62,.d x122 5 (.ag [D.str s181,D.str s184,D.sl 5 xs188,D.int .i64 m192])),(63,.rp 4 2)],[(3,true,[.d false 0 (.str (ByteArray.mk #[])),.d false 0 (.str (ByteArray.mk #[])),.own false 5 [],.d false 0 (.int .i64 0)]),(4,true,[.d true 0 (.str op),.d true 0 (.str nm),.own x122 5 x121,.d false 0 (.int .i64 0)])]⟩
noncomputable def z0_7:S:=⟨Tm.mk 147 [(2,.rp 3 0),(3,.rp 4 0),(59,.rp 4 2),(60,.bf 4 2)],[(3,true,[.d false 0 (.str (ByteArray.mk #[])),.d false 0 (.str (ByteArray.mk #[])),.own false 5 [],.d false 0 (.int .i64 0)]),(4,true,[.d true 0 (.str op),.d true 0 (.str nm),.own x122 5 x121,.d false 0 (.int .i64 0)])]⟩
noncomputable def z0_8:S:=⟨Tm.mk 147 [(2,.rp 3 0),(3,.rp 4 0),(59,.rp 4 2)],[(3,true,[.d false 0 (.str (ByteArray.mk #[])),.d false 0 (.str (ByteArray.mk #[])),.own false 5 [],.d false 0 (.int .i64 0)]),(4,true,[.d true 0 (.str op),.d true 0 (.str nm),.own x122 5 x121,.d false 0 (.int .i64 0)])]⟩
def a0_0:List Nat:=[0,1,2,3,4,5,6,7,8,9,10,11]
def a0_1:List Nat:=[0,1,2,3,4,5,6,7,8,9,10]
def a0_2:List Nat:=[0,1,2,3,4,5,6,7,8,9]
def a0_3:List Nat:=[0,1,2,3,4,5,6,7,8]
def a0_4:List Nat:=[0,1,2,3,4,5,6,7,9]
def a0_5:List Nat:=[0,1,2,3,4,5]
def a0_6:List Nat:=[0,1,2,3,4]
theorem n0_0:regA Tryz.prog (WSim b) R0 B0 1 a0_0 (z0_0 op nm x121 x122 s181 s184 xs188 m192 s202 s205 xs209 m213) kont172=kont172 (z0_0 op nm x121 x122 s181 s184 xs188 m192 s202 s205 xs209 m213):=by
   kernel_rfl
theorem n0_1:regA Tryz.prog (WSim b) R0 B0 2 a0_1 (z0_1 op nm x121 x122 s181 s184 xs188 m192 s202 s205 xs209 m213) kont172=kont172 (z0_0 op nm x121 x122 s181 s184 xs188 m192 s202 s205 xs209 m213):=by
   refine(show _=regA Tryz.prog (WSim b) R0 B0 1 a0_0 (z0_0 op nm x121 x122 s181 s184 xs188 m192 s202 s205 xs209 m213) kont172 from by kernel_rfl).trans ?_
   simp only[n0_0]
theorem n0_2:regA Tryz.prog (WSim b) R0 B0 3 a0_2 (z0_2 op nm x121 x122 s181 s184 xs188 m192 s202 s205 xs209 m213) kont172=kont172 (z0_0 op nm x121 x122 s181 s184 xs188 m192 s202 s205 xs209 m213):=by
   refine(show _=regA Tryz.prog (WSim b) R0 B0 2 a0_1 (z0_1 op nm x121 x122 s181 s184 xs188 m192 s202 s205 xs209 m213) kont172 from by kernel_rfl).trans ?_
   simp only[n0_1]
theorem n0_3:regA Tryz.prog (WSim b) R0 B0 4 a0_3 (z0_3 op nm x121 x122 s181 s184 xs188 m192 s202 s205 xs209 m213) kont172=kont172 (z0_0 op nm x121 x122 s181 s184 xs188 m192 s202 s205 xs209 m213):=by
   refine(show _=regA Tryz.prog (WSim b) R0 B0 3 a0_2 (z0_2 op nm x121 x122 s181 s184 xs188 m192 s202 s205 xs209 m213) kont172 from by kernel_rfl).trans ?_
   simp only[n0_2]
theorem n0_4:regA Tryz.prog (WSim b) R0 B0 4 a0_4 (z0_4 op nm x121 x122 s181 s184 xs188 m192 s202 s205 xs209 m213) kont172=kont172 (z0_0 op nm x121 x122 s181 s184 xs188 m192 s202 s205 xs209 m213):=by
   refine(show _=regA Tryz.prog (WSim b) R0 B0 3 a0_2 (z0_2 op nm x121 x122 s181 s184 xs188 m192 s202 s205 xs209 m213) kont172 from by kernel_rfl).trans ?_
   simp only[n0_2]
noncomputable def t0_0:Option β:=if(0:Int)≤1∧(1:Int)<(x121.length:Int)then match x121[1]? with
   |some x260=>match x260 with
    |D.ag xs261=>match xs261 with
     |x262::r263=>match x262 with
      |D.str s264=>match r263 with
       |x265::r266=>match x265 with
        |D.str s267=>match r266 with
         |x268::r269=>match x268 with
          |D.sl sh270 xs271=>if sh270=5 then match r269 with
           |x272::r273=>match x272 with
            |D.int j274 m275=>if j274=IntKind.i64 then match r273 with
             |[]=>kont172 (z0_0 op nm x121 x122 s181 s184 xs188 m192 s264 s267 xs271 m275)
             |x=>none else none
            |x=>none
           |[]=>none else none
          |x=>none
         |[]=>none
        |x=>none
       |[]=>none
      |x=>none
     |[]=>none
    |x=>none
   |none=>none else none
theorem n0_5:regA Tryz.prog (WSim b) R0 B0 7 a0_5 (z0_5 op nm x121 x122 s181 s184 xs188 m192) kont172=t0_0 op nm x121 x122 s181 s184 xs188 m192 kont172:=by
   refine(show _=if(0:Int)≤1∧(1:Int)<(x121.length:Int)then
   match x121[1]? with
   |some x198=>
    match x198 with
    |D.ag xs199=>
     match xs199 with
     |x200::r201=>
      match x200 with
      |D.str s202=>
       match r201 with
       |x203::r204=>
        match x203 with
        |D.str s205=>
         match r204 with
         |x206::r207=>
          match x206 with
          |D.sl sh208 xs209=>
           if sh208=5 then
            match r207 with
            |x210::r211=>
             match x210 with
             |D.int j212 m213=>
              if j212=IntKind.i64 then
               match r211 with
               |[]=>
                meet (regA Tryz.prog (WSim b) R0 B0 4 a0_3 (z0_3 op nm x121 x122 s181 s184 xs188 m192 s202 s205 xs209 m213) kont172)
                 (regA Tryz.prog (WSim b) R0 B0 4 a0_4 (z0_4 op nm x121 x122 s181 s184 xs188 m192 s202 s205 xs209 m213) kont172)
               |x=>none
              else none
             |x=>none
            |[]=>none
           else none
          |x=>none
         |[]=>none
        |x=>none
       |[]=>none
      |x=>none
     |[]=>none
    |x=>none
   |none=>none
  else none from by kernel_rfl).trans ?_
   first|(simp only[n0_3,n0_4,Go.Sc.meet_self];rfl)|simp only[n0_3,n0_4,Go.Sc.meet_self,t0_0]
theorem n0_6:regA Tryz.prog (WSim b) R0 B0 8 a0_6 (z0_6 op nm x121 x122 s181 s184 xs188 m192) kont172=t0_0 op nm x121 x122 s181 s184 xs188 m192 kont172:=by
   refine(show _=regA Tryz.prog (WSim b) R0 B0 7 a0_5 (z0_5 op nm x121 x122 s181 s184 xs188 m192) kont172 from regA_quiet (z':=z0_5 op nm x121 x122 s181 s184 xs188 m192) (j:=5) (by kernel_rfl) (fun K=>by kernel_rfl) (by kernel_rfl) (by kernel_rfl)).trans ?_
   simp only[n0_5,t0_0]
noncomputable def t0_1:Option β:=if(0:Int)≤0∧(0:Int)<(x121.length:Int)then match x121[0]? with
   |some x316=>match x316 with
    |D.ag xs317=>match xs317 with
     |x318::r319=>match x318 with
      |D.str s320=>match r319 with
       |x321::r322=>match x321 with
        |D.str s323=>match r322 with
         |x324::r325=>match x324 with
          |D.sl sh326 xs327=>if sh326=5 then match r325 with
           |x328::r329=>match x328 with
            |D.int j330 m331=>if j330=IntKind.i64 then match r329 with
             |[]=>if(0:Int)≤1∧(1:Int)<(x121.length:Int)then match x121[1]? with
              |some x260=>match x260 with
               |D.ag xs261=>match xs261 with
                |x262::r263=>match x262 with
                 |D.str s264=>match r263 with
                  |x265::r266=>match x265 with
                   |D.str s267=>match r266 with
                    |x268::r269=>match x268 with
                     |D.sl sh270 xs271=>if sh270=5 then match r269 with
                      |x272::r273=>match x272 with
                       |D.int j274 m275=>if j274=IntKind.i64 then match r273 with
                        |[]=>kont172 (z0_0 op nm x121 x122 s320 s323 xs327 m331 s264 s267 xs271 m275)
                        |x=>none else none
                       |x=>none
                      |[]=>none else none
                     |x=>none
                    |[]=>none
                   |x=>none
                  |[]=>none
                 |x=>none
                |[]=>none
               |x=>none
              |none=>none else none
             |x=>none else none
            |x=>none
           |[]=>none else none
          |x=>none
         |[]=>none
        |x=>none
       |[]=>none
      |x=>none
     |[]=>none
    |x=>none
   |none=>none else none
theorem n0_7:regA Tryz.prog (WSim b) R0 B0 11 [0,1] (z0_7 op nm x121 x122) kont172=t0_1 op nm x121 x122 kont172:=by
   refine(show _=if(0:Int)≤0∧(0:Int)<(x121.length:Int)then
   match x121[0]? with
   |some x177=>
    match x177 with
    |D.ag xs178=>
     match xs178 with
     |x179::r180=>
      match x179 with
      |D.str s181=>
       match r180 with
       |x182::r183=>
        match x182 with
        |D.str s184=>
         match r183 with
         |x185::r186=>
          match x185 with
          |D.sl sh187 xs188=>
           if sh187=5 then
            match r186 with
            |x189::r190=>
             match x189 with
             |D.int j191 m192=>
              if j191=IntKind.i64 then
               match r190 with
               |[]=>regA Tryz.prog (WSim b) R0 B0 8 a0_6 (z0_6 op nm x121 x122 s181 s184 xs188 m192) kont172
               |x=>none
              else none
             |x=>none
            |[]=>none
           else none
          |x=>none
         |[]=>none
        |x=>none
       |[]=>none
      |x=>none
     |[]=>none
    |x=>none
   |none=>none
  else none from by kernel_rfl).trans ?_
   first|(simp only[n0_6];rfl)|simp only[n0_6,t0_0,t0_1]
theorem n0_8:regA Tryz.prog (WSim b) R0 B0 12 [0] (z0_8 op nm x121 x122) kont172=t0_1 op nm x121 x122 kont172:=by
   refine(show _=regA Tryz.prog (WSim b) R0 B0 11 [0,1] (z0_7 op nm x121 x122) kont172 from regA_quiet (z':=z0_7 op nm x121 x122) (j:=1) (by kernel_rfl) (fun K=>by kernel_rfl) (by kernel_rfl) (by kernel_rfl)).trans ?_
   simp only[n0_7,t0_0,t0_1]
theorem n0_9:regA Tryz.prog (WSim b) R0 B0 13 [] (z0_9 op nm x121 x122) kont172=t0_1 op nm x121 x122 kont172:=by
   refine(show _=regA Tryz.prog (WSim b) R0 B0 12 [0] (z0_8 op nm x121 x122) kont172 from regA_quiet (z':=z0_8 op nm x121 x122) (j:=0) (by kernel_rfl) (fun K=>by kernel_rfl) (by kernel_rfl) (by kernel_rfl)).trans ?_
   simp only[n0_8,t0_0,t0_1]
end
theorem reg0 {β:Type} (op:ByteArray) (nm:ByteArray) (x121:List D) (x122:Bool) (kont172:S→Option β):regH Tryz.prog (WSim b) R0 (z0_9 op nm x121 x122) kont172=if(0:Int)≤0∧(0:Int)<(x121.length:Int)then match x121[0]? with
   |some x316=>match x316 with
    |D.ag xs317=>match xs317 with
     |x318::r319=>match x318 with
      |D.str s320=>match r319 with
       |x321::r322=>match x321 with
        |D.str s323=>match r322 with
         |x324::r325=>match x324 with
          |D.sl sh326 xs327=>if sh326=5 then match r325 with
           |x328::r329=>match x328 with
            |D.int j330 m331=>if j330=IntKind.i64 then match r329 with
             |[]=>if(0:Int)≤1∧(1:Int)<(x121.length:Int)then match x121[1]? with
              |some x260=>match x260 with
               |D.ag xs261=>match xs261 with
                |x262::r263=>match x262 with
                 |D.str s264=>match r263 with
                  |x265::r266=>match x265 with
                   |D.str s267=>match r266 with
                    |x268::r269=>match x268 with
                     |D.sl sh270 xs271=>if sh270=5 then match r269 with
                      |x272::r273=>match x272 with
                       |D.int j274 m275=>if j274=IntKind.i64 then match r273 with
                        |[]=>kont172 (z0_0 op nm x121 x122 s320 s323 xs327 m331 s264 s267 xs271 m275)
                        |x=>none else none
                       |x=>none
                      |[]=>none else none
                     |x=>none
                    |[]=>none
                   |x=>none
                  |[]=>none
                 |x=>none
                |[]=>none
               |x=>none
              |none=>none else none
             |x=>none else none
            |x=>none
           |[]=>none else none
          |x=>none
         |[]=>none
        |x=>none
       |[]=>none
      |x=>none
     |[]=>none
    |x=>none
   |none=>none else none:=(show _=regA Tryz.prog (WSim b) R0 B0 13 [] (z0_9 op nm x121 x122) kont172 from by kernel_rfl).trans (n0_9 ..)
theorem start {β:Type} (op:ByteArray) (nm:ByteArray) (ks:List D) (p:Int) (k:List TV→List TV→Option β):evalF Tryz.prog (WSim b) Tryz.f36 [.d true 5 (.ag [D.str op,D.str nm,D.sl 5 ks,D.int .i64 p])] k=G0 b op nm ks p k (s0 op nm ks p (0:Int) [] false):=by kernel_rfl
theorem round0_0 (op:ByteArray) (nm:ByteArray) (ks:List D) (p:Int) (x55:Int) (x56:List D) (x57:Bool):roundK (X b) [(0,12)] (sub [1,1,0,1,0,0] (body Tryz.f36)) (s0 op nm ks p x55 x56 x57)=if decide (x55<(ks.length:Int))=true then if 0≤x55 then match ks[x55.toNat]? with
   |some x443=>match x443 with
    |D.ag xs444=>match xs444 with
     |x445::r446=>match x445 with
      |D.str s447=>match r446 with
       |x448::r449=>match x448 with
        |D.str s450=>match r449 with
         |x451::r452=>match x451 with
          |D.sl sh453 xs454=>if sh453=5 then match r452 with
           |x455::r456=>match x455 with
            |D.int j457 m458=>if j457=IntKind.i64 then match r456 with
             |[]=>match simX b (.ag [D.str s447,D.str s450,D.sl 5 xs454,D.int .i64 m458])with
              |some t460=>if x56.length+1≤34359738368 then some (Sum.inl (s0 op nm ks p (IntKind.wrap .i64 (x55+1)) (x56++[D.ag [D.str (Pr.opb t460),D.str (Pr.nmb t460),D.sl 5 (Pr.ksd t460),D.int .i64 0]]) (x57||true)))else none
              |none=>none
             |x=>none else none
            |x=>none
           |[]=>none else none
          |x=>none
         |[]=>none
        |x=>none
       |[]=>none
      |x=>none
     |[]=>none
    |x=>none
   |none=>none else none else some (Sum.inr (Ex.exit 0,e0x0 op nm x56 x57)):=by kernel_rfl
theorem behind0x0 {β:Type} (ks:List D) (p:Int) (op:ByteArray) (nm:ByteArray) (x121:List D) (x122:Bool) (k:List TV→List TV→Option β) (s__:S) (h__:Lp (L0 b) s__=some (Ex.exit 0,e0x0 op nm x121 x122)):G0 b op nm ks p k s__=if(op.toList==[88])=true then if(0:Int)≤0∧(0:Int)<(x121.length:Int)then match x121[0]? with
   |some x493=>match match x493 with
    |D.ag xs=>xs[0]?
    |x=>none with
    |some y494=>match y494 with
     |D.str s495=>if(s495.toList==[116,114,117,101])=true then J0 b op nm ks p k (j0 op nm x121 x122 true)else if(0:Int)≤0∧(0:Int)<(x121.length:Int)then match x121[0]? with
      |some x496=>match match x496 with
       |D.ag xs=>xs[0]?
       |x=>none with
       |some y497=>match y497 with
        |D.str s498=>J0 b op nm ks p k (j0 op nm x121 x122 (s498.toList==[102,97,108,115,101]))
        |x=>none
       |none=>none
      |none=>none else none
     |x=>none
    |none=>none
   |none=>none else none else J0 b op nm ks p k (j0 op nm x121 x122 false):=(goLp_of h__).trans (by kernel_rfl)
theorem j0_eq {β:Type} (ks:List D) (p:Int) (op:ByteArray) (nm:ByteArray) (x121:List D) (x122:Bool) (x149:Bool) (k:List TV→List TV→Option β):J0 b op nm ks p k (j0 op nm x121 x122 x149)=if x149=true then if(0:Int)≤0∧(0:Int)<(x121.length:Int)then match x121[0]? with
   |some x501=>match x501 with
    |D.ag xs502=>match xs502 with
     |x503::r504=>match x503 with
      |D.str s505=>match r504 with
       |x506::r507=>match x506 with
        |D.str s508=>match r507 with
         |x509::r510=>match x509 with
          |D.sl sh511 xs512=>if sh511=5 then match r510 with
           |x513::r514=>match x513 with
            |D.int j515 m516=>if j515=IntKind.i64 then match r514 with
             |[]=>k [.d (x122||(x122||(x122||(x122||false)))) 5 (.ag [D.str s505,D.str s508,D.sl 5 xs512,D.int .i64 m516])] []
             |x=>none else none
            |x=>none
           |[]=>none else none
          |x=>none
         |[]=>none
        |x=>none
       |[]=>none
      |x=>none
     |[]=>none
    |x=>none
   |none=>none else none else if(!(x121.length:Int)==2)=true then k [.d true 5 (.ag [D.str op,D.str nm,D.sl 5 x121,D.int .i64 0])] []else regH Tryz.prog (WSim b) R0 (z0_9 op nm x121 x122) fun s556 ↦ J1 b op nm ks p k s556:=by kernel_rfl
theorem j1_eq {β:Type} (ks:List D) (p:Int) (op:ByteArray) (nm:ByteArray) (x121:List D) (x122:Bool) (s320338:ByteArray) (s323341:ByteArray) (xs327345:List D) (m331349:Int) (s264355:ByteArray) (s267358:ByteArray) (xs271362:List D) (m275366:Int) (k:List TV→List TV→Option β):J1 b op nm ks p k (j1 op nm x121 x122 s320338 s323341 xs327345 m331349 s264355 s267358 xs271362 m275366)=match prtX none (.ag [D.str s320338,D.str s323341,D.sl 5 xs327345,D.int .i64 m331349])with
   |some s558=>match prtX none (.ag [D.str s264355,D.str s267358,D.sl 5 xs271362,D.int .i64 m275366])with
    |some s559=>if(op.toList==[38])=true then if(s320338.toList==[116,114,117,101])=true then k [.d (x122||(x122||(x122||(x122||false)))) 5 (.ag [D.str s264355,D.str s267358,D.sl 5 xs271362,D.int .i64 m275366])] []else if(s264355.toList==[116,114,117,101])=true then k [.d (x122||(x122||(x122||(x122||false)))) 5 (.ag [D.str s320338,D.str s323341,D.sl 5 xs327345,D.int .i64 m331349])] []else if(s320338.toList==[102,97,108,115,101])=true then k [.d false 5 (.ag [D.str (ByteArray.mk #[102,97,108,115,101]),D.str (ByteArray.mk #[]),D.sl 5 [],D.int .i64 0])] []else if(s264355.toList==[102,97,108,115,101])=true then k [.d false 5 (.ag [D.str (ByteArray.mk #[102,97,108,115,101]),D.str (ByteArray.mk #[]),D.sl 5 [],D.int .i64 0])] []else if(s558.toList==s559.toList)=true then k [.d (x122||(x122||(x122||(x122||false)))) 5 (.ag [D.str s264355,D.str s267358,D.sl 5 xs271362,D.int .i64 m275366])] []else k [.d true 5 (.ag [D.str op,D.str nm,D.sl 5 x121,D.int .i64 0])] []else if(op.toList==[124])=true then if(s320338.toList==[102,97,108,115,101])=true then k [.d (x122||(x122||(x122||(x122||false)))) 5 (.ag [D.str s264355,D.str s267358,D.sl 5 xs271362,D.int .i64 m275366])] []else if(s264355.toList==[102,97,108,115,101])=true then k [.d (x122||(x122||(x122||(x122||false)))) 5 (.ag [D.str s320338,D.str s323341,D.sl 5 xs327345,D.int .i64 m331349])] []else if(s320338.toList==[116,114,117,101])=true then k [.d false 5 (.ag [D.str (ByteArray.mk #[116,114,117,101]),D.str (ByteArray.mk #[]),D.sl 5 [],D.int .i64 0])] []else if(s264355.toList==[116,114,117,101])=true then k [.d false 5 (.ag [D.str (ByteArray.mk #[116,114,117,101]),D.str (ByteArray.mk #[]),D.sl 5 [],D.int .i64 0])] []else if(s558.toList==s559.toList)=true then k [.d (x122||(x122||(x122||(x122||false)))) 5 (.ag [D.str s264355,D.str s267358,D.sl 5 xs271362,D.int .i64 m275366])] []else k [.d true 5 (.ag [D.str op,D.str nm,D.sl 5 x121,D.int .i64 0])] []else if(op.toList==[85])=true then if(s264355.toList==[116,114,117,101])=true then k [.d (x122||(x122||(x122||(x122||false)))) 5 (.ag [D.str s264355,D.str s267358,D.sl 5 xs271362,D.int .i64 m275366])] []else if(s264355.toList==[102,97,108,115,101])=true then k [.d (x122||(x122||(x122||(x122||false)))) 5 (.ag [D.str s264355,D.str s267358,D.sl 5 xs271362,D.int .i64 m275366])] []else if(s320338.toList==[102,97,108,115,101])=true then k [.d (x122||(x122||(x122||(x122||false)))) 5 (.ag [D.str s264355,D.str s267358,D.sl 5 xs271362,D.int .i64 m275366])] []else if(s558.toList==s559.toList)=true then k [.d (x122||(x122||(x122||(x122||false)))) 5 (.ag [D.str s264355,D.str s267358,D.sl 5 xs271362,D.int .i64 m275366])] []else k [.d true 5 (.ag [D.str op,D.str nm,D.sl 5 x121,D.int .i64 0])] []else if(op.toList==[82])=true then if(s264355.toList==[116,114,117,101])=true then k [.d (x122||(x122||(x122||(x122||false)))) 5 (.ag [D.str s264355,D.str s267358,D.sl 5 xs271362,D.int .i64 m275366])] []else if(s264355.toList==[102,97,108,115,101])=true then k [.d (x122||(x122||(x122||(x122||false)))) 5 (.ag [D.str s264355,D.str s267358,D.sl 5 xs271362,D.int .i64 m275366])] []else if(s320338.toList==[116,114,117,101])=true then k [.d (x122||(x122||(x122||(x122||false)))) 5 (.ag [D.str s264355,D.str s267358,D.sl 5 xs271362,D.int .i64 m275366])] []else if(s558.toList==s559.toList)=true then k [.d (x122||(x122||(x122||(x122||false)))) 5 (.ag [D.str s264355,D.str s267358,D.sl 5 xs271362,D.int .i64 m275366])] []else k [.d true 5 (.ag [D.str op,D.str nm,D.sl 5 x121,D.int .i64 0])] []else if(s558.toList==s559.toList)=true then k [.d (x122||(x122||(x122||(x122||false)))) 5 (.ag [D.str s264355,D.str s267358,D.sl 5 xs271362,D.int .i64 m275366])] []else k [.d true 5 (.ag [D.str op,D.str nm,D.sl 5 x121,D.int .i64 0])] []
    |none=>none
   |none=>none:=by kernel_rfl
end
end N36
end Go.Sd
set_option maxRecDepth 100000
namespace Go.Sc
open Go Go.Cm
theorem prtX_of {b:Option Nat} {x:D} {t:Pr} (h:absD x=some t) (h1:ltB b t.sz) (h2:t.txt.length≤9223372036854775807):prtX b x=some (T8.b t.txt):=by unfold prtX;rw[h];exact if_pos ⟨h1,h2⟩
theorem prtX_out {b:Option Nat} {x:D} {s:ByteArray} (h:prtX b x=some s):∃t,absD x=some t∧ltB b t.sz∧t.txt.length≤9223372036854775807∧s=T8.b t.txt:=by
 unfold prtX at h
 split at h
 ·rename_i t ht
  split at h
  ·rename_i hc;cases h;exact⟨t,ht,hc.1,hc.2,rfl⟩
  ·cases h
 ·cases h
theorem rankN_u {op:ByteArray} {o:U1} (h:op.toList=o.s):rankN op=4:=by unfold rankN;rw[h];cases o<;>rfl
def B2.rkI:B2→Int
 |.imp=>0|.or=>1|.and=>2|_=>3
theorem rankN_b {op:ByteArray} {o:B2} (h:op.toList=o.s):rankN op=o.rkI:=by unfold rankN;rw[h];cases o<;>rfl
theorem rankN_leaf {op:ByteArray} (h:op.toList=oTrue∨op.toList=oFalse∨op.toList=oLabel):rankN op=5:=by unfold rankN;rcases h with h|h|h<;>rw[h]<;>rfl
theorem absD_rank {x:D} {t:Pr} (h:absD x=some t):∃op nm ks p,x=.ag [.str op,.str nm,.sl 5 ks,.int .i64 p]∧rankN op=(t.rank:Int):=by
 rcases absD_inv h with⟨op,nm,p,rfl,h1⟩|⟨op,nm,a,p,o,y,rfl,h1,h2,rfl⟩|⟨op,nm,a,c,p,o,y,z,rfl,h1,h2,h3,rfl⟩
 ·refine⟨_,_,_,_,rfl,?_⟩
  rcases h1 with⟨h1,rfl⟩|⟨h1,rfl⟩|⟨h1,rfl⟩
  ·exact rankN_leaf (.inl h1)
  ·exact rankN_leaf (.inr (.inl h1))
  ·exact rankN_leaf (.inr (.inr h1))
 ·exact⟨_,_,_,_,rfl,rankN_u h1⟩
 ·refine⟨_,_,_,_,rfl,?_⟩
  rw[rankN_b h1];cases o<;>rfl
theorem parX_len (r k:Nat) (l:T8):l.length≤(parX r k l).length:=by unfold parX;split<;>simp;omega
end Go.Sc
namespace Go.Sd
open Go Go.Cm Go.Proofs Go.Sc
theorem prt_j1 {b:Option Nat} {op nm:ByteArray} {p:Int} {ks acc:List D} {x:D} {u:Pr} {i r:Nat} (hx:ks[i]? =some x) (hu:absD x=some u) (hi:i≤2) (ha:acc.length≤2) (hz:(parX r u.rank u.txt).length≤9223372036854775807):
  N56.J1 b (N56.j1 op nm ks p r acc i (T8.b u.txt))=some (.inl (N56.s0 op nm ks p (acc++[.str (T8.b (parX r u.rank u.txt))]) ((i+1:Nat):Int))):=by
 obtain⟨o,n,l,q,rfl,hr⟩:=absD_rank hu
 have z:∀c:UInt8,(⟨#[c]⟩:ByteArray).size=1:=fun c=>rfl
 rw[N56.j1_eq,if_pos (by omega),Int.toNat_natCast,hx]
 simp only[List.getElem?_cons_zero,hr]
 rw[wrap_id (show -9223372036854775808≤(i:Int)+1 by omega) (by omega)]
 unfold parX at hz ⊢
 by_cases c:u.rank<r
 ·rw[if_pos c]at hz ⊢
  simp only[List.length_cons,List.length_append,List.length_nil]at hz
  rw[if_pos (by rw[decide_eq_true_eq];omega),if_pos (by rw[T8.b_sz];omega),if_pos (by rw[ByteArray.size_append,T8.b_sz,z];omega),if_pos (by omega)]
  rw[show(⟨#[40]⟩++T8.b u.txt++⟨#[41]⟩:ByteArray)=T8.b (40::(u.txt++[41]))from toList_inj (by rw[toL_append,toL_append,T8.b_toL,T8.b_toL,B_lit [40],B_lit [41]];simp),show((i+1:Nat):Int)=(i:Int)+1 from rfl]
 ·rw[if_neg c]at hz ⊢
  rw[if_neg (by rw[decide_eq_true_eq];omega),if_pos (by omega)]
  rfl
theorem prt_step {b:Option Nat} {op nm:ByteArray} {p:Int} {ks acc:List D} {x:D} {u:Pr} {i r:Nat} {k:Int} (hk:rankN op=k) (hx:ks[i]? =some x) (hu:absD x=some u) (hl:ltB b u.sz) (hn:ks.length≤2) (ha:acc.length≤2) (hz:(parX r u.rank u.txt).length≤9223372036854775807)
  (hr:(if(if((ks.length:Int)==2)=true then if(k==0)=true then(((i:Int)==0)==true)else(((i:Int)==0)==(k==3))else false)=true then IntKind.wrap .i64 (k+1)else k)=(r:Int)):
  N56.L0 b (N56.s0 op nm ks p acc i)=some (.inl (N56.s0 op nm ks p (acc++[.str (T8.b (parX r u.rank u.txt))]) ((i+1:Nat):Int))):=by
 subst hk
 have hi:i<ks.length:=(List.getElem?_eq_some_iff.1 hx).1
 have hj:=prt_j1 (b:=b) (op:=op) (nm:=nm) (p:=p) hx hu (by omega) ha hz
 have hp:=prtX_of (b:=b) hu hl (Nat.le_trans (parX_len _ _ _) hz)
 have hq:=N56.round0_0 b op nm ks p acc i
 obtain⟨o,n,l,q,rfl⟩:=absD_K hu
 rw[if_pos (by rw[decide_eq_true_eq];omega),if_pos (by omega),Int.toNat_natCast,hx]at hq
 simp only[if_true,hp]at hq
 refine hq.trans ?_
 have fin:∀c:Bool,(if c=true then IntKind.wrap .i64 (rankN op+1)else rankN op)=(r:Int)→N56.J0 b (N56.j0 op nm ks p c acc i (T8.b u.txt))=some (.inl (N56.s0 op nm ks p (acc++[.str (T8.b (parX r u.rank u.txt))]) ((i+1:Nat):Int))):=fun c hc=>by
  rw[N56.j0_eq]
  cases c with
  |true=>rw[if_pos rfl]at hc ⊢;rw[hc];exact hj
  |false=>rw[if_neg (by decide)]at hc ⊢;rw[hc];exact hj
 by_cases c1:((ks.length:Int)==2)=true
 ·rw[if_pos c1]at hr ⊢
  by_cases c2:(rankN op==0)=true
  ·rw[if_pos c2]at hr ⊢;exact fin _ hr
  ·rw[if_neg c2]at hr ⊢;exact fin _ hr
 ·rw[if_neg c1]at hr ⊢;exact fin _ hr
theorem prt_end {b:Option Nat} {op nm:ByteArray} {p:Int} {ks acc:List D} {i:Nat} (hi:i=ks.length):N56.L0 b (N56.s0 op nm ks p acc i)=some (.inr (.exit 0,N56.e0x0 op nm ks p acc)):=by
 have hr:=N56.round0_0 b op nm ks p acc i
 rw[if_neg (by rw[decide_eq_true_eq];omega)]at hr
 exact hr
theorem ev_prt {b:Option Nat} {x:D} {t:Pr} (h:absD x=some t) (hb:∀k,b=some k→t.sz≤k) (hz:t.txt.length≤9223372036854775807) {γ:Type} (q:List TV→List TV→Option γ):
  evalF Tryz.prog (WPrt b) Tryz.f56 [.d true 5 x] q=q [.d false 0 (.str (T8.b t.txt))] []:=by
 have z:∀c:UInt8,(⟨#[c]⟩:ByteArray).size=1:=fun c=>rfl
 rcases absD_inv h with⟨op,nm,p,rfl,h1⟩|⟨op,nm,a,p,o,y,rfl,h1,h2,rfl⟩|⟨op,nm,a,c,p,o,y,w,rfl,h1,h2,h3,rfl⟩
 ·rw[N56.start]
  rcases h1 with⟨h1,rfl⟩|⟨h1,rfl⟩|⟨h1,rfl⟩
  ·rw[if_neg (by rw[h1];decide),if_pos (by rw[rankN_leaf (.inl h1)];rfl),show op=T8.b oTrue from toList_inj (by rw[h1,T8.b_toL])];rfl
  ·rw[if_neg (by rw[h1];decide),if_pos (by rw[rankN_leaf (.inr (.inl h1))];rfl),show op=T8.b oFalse from toList_inj (by rw[h1,T8.b_toL])];rfl
  ·have e:(Pr.lab nm).txt=34::(nm.toList++[34]):=rfl
   rw[e]at hz
   simp only[List.length_cons,List.length_append,List.length_nil, ←sz_toL]at hz
   rw[if_pos (by rw[h1];decide),if_pos (by omega),if_pos (by rw[ByteArray.size_append,z];omega)]
   congr 5
   refine toList_inj ?_
   rw[toL_append,toL_append,T8.b_toL,e,B_lit [34]]
   simp
 ·simp only[Pr.sz]at hb
  have hk:=rankN_u h1
  have hos:op.size=o.s.length:=by rw[sz_toL,h1]
  have hx:(parX 4 y.rank y.txt).length+1≤9223372036854775807∧(o≠.no→o.s.length+1+(parX 4 y.rank y.txt).length≤9223372036854775807):=by
   cases o<;>simp only[Pr.txt,List.length_cons,List.length_append]at hz<;>refine⟨by omega,fun _=>?_⟩<;>first|contradiction|omega
  have L:Lp (N56.L0 b) (N56.s0 op nm [a] p [] 0)=_:=Lp_step (prt_step (i:=0) (r:=4) hk rfl h2 (ltB_le hb (by omega)) (by simp) (by simp) (by omega) rfl) (Lp_exit (prt_end rfl))
  rw[N56.start,if_neg (by rw[h1];cases o<;>decide),if_neg (by rw[hk];decide),N56.behind0x0 b op nm [a] p _ q _ L]
  by_cases c:o=.no
  ·subst c
   rw[if_pos (by rw[h1];rfl),if_pos (by simp)]
   simp only[List.nil_append,List.getElem?_cons_zero]
   rw[if_pos (by rw[T8.b_sz];omega)]
   rw[show(⟨#[33]⟩++T8.b (parX 4 y.rank y.txt):ByteArray)=T8.b (Pr.un .no y).txt from toList_inj (by rw[toL_append,T8.b_toL,T8.b_toL,B_lit [33]];rfl)]
  ·have e:(Pr.un o y).txt=o.s++32::parX 4 y.rank y.txt:=by cases o<;>first|contradiction|rfl
   rw[if_neg (by rw[h1];cases o<;>first|contradiction|decide),if_pos (by rw[hk];rfl),if_pos (by have:=hx.2 c;omega),if_pos (by simp)]
   simp only[List.nil_append,List.getElem?_cons_zero]
   rw[if_pos (by have:=hx.2 c;rw[ByteArray.size_append,z,T8.b_sz];omega)]
   congr 5
   refine toList_inj ?_
   rw[toL_append,toL_append,T8.b_toL,T8.b_toL,B_lit [32],h1,e]
   simp
 ·simp only[Pr.sz]at hb
  have hk:=rankN_b h1
  have hos:op.size=o.s.length:=by rw[sz_toL,h1]
  have e:(Pr.bi o y w).txt=parX o.lt y.rank y.txt++32::(o.s++32::parX o.rt w.rank w.txt):=rfl
  rw[e]at hz
  simp only[List.length_cons,List.length_append, ←hos]at hz
  have L:Lp (N56.L0 b) (N56.s0 op nm [a,c] p [] 0)=_:=Lp_step (prt_step (i:=0) (r:=o.lt) hk rfl h2 (ltB_le hb (by omega)) (by simp) (by simp) (by omega) (by cases o<;>rfl)) (Lp_step (prt_step (i:=1) (r:=o.rt) hk rfl h3 (ltB_le hb (by omega)) (by simp) (by simp) (by omega) (by cases o<;>rfl)) (Lp_exit (prt_end rfl)))
  rw[N56.start,if_neg (by rw[h1];cases o<;>decide),if_neg (by rw[hk];cases o<;>decide),N56.behind0x0 b op nm [a,c] p _ q _ L,if_neg (by rw[h1];cases o<;>decide),if_neg (by rw[hk];cases o<;>decide),if_pos (by simp)]
  simp only[List.nil_append,List.cons_append,List.getElem?_cons_zero,List.getElem?_cons_succ]
  rw[if_pos (by rw[T8.b_sz];omega),if_pos (by rw[ByteArray.size_append,z,T8.b_sz];omega),if_pos (by rw[ByteArray.size_append,ByteArray.size_append,z,T8.b_sz];omega),if_pos (by simp),if_pos (by simp only[ByteArray.size_append,z,T8.b_sz];omega)]
  congr 5
  refine toList_inj ?_
  simp only[toL_append,T8.b_toL,B_lit [32],h1,e]
  simp
theorem vcPrt:∀(β:Type) (args:List TV) (k:List TV→List TV→Option β) (r:β),cPrt none args k=some r→∃res outs,k res outs=some r∧Valid glS Tryz.prog 56 args res outs:=fun β args k r hr=>by
 have h:EnvOk glS Tryz.prog (WPrt none):=by
  refine EnvOk.rec1 (fun b {β} args k=>cPrt b args k) (EnvOk.none.add vcRank) ?_ ?_ ?_
  ·intro β args k r hr
   unfold cPrt at hr
   split at hr
   ·split at hr
    ·rename_i hx;obtain⟨t,_,h,_⟩:=prtX_out hx;exact not_ltB_zero h
    ·cases hr
   ·cases hr
  ·intro n ih β args k r hr
   unfold cPrt at hr
   split at hr
   ·split at hr
    ·rename_i hx
     obtain⟨t,h1,h2,h3,rfl⟩:=prtX_out hx
     exact⟨_,_,hr,valid_of ih mixed Tryz.func56 (by kernel_rfl) (ev_prt h1 (fun k hk=>by cases hk;exact Nat.lt_succ_iff.1 h2) h3 _)⟩
    ·cases hr
   ·cases hr
  ·intro β args k r hr
   unfold cPrt at hr
   split at hr
   ·split at hr
    ·rename_i hx
     obtain⟨t,h1,h2,h3,rfl⟩:=prtX_out hx
     refine⟨t.sz+1,?_⟩
     simp only[cPrt,prtX_of (b:=some (t.sz+1)) h1 (Nat.lt_succ_self _) h3]
     exact hr
    ·cases hr
   ·cases hr
 exact h β 56 args k r hr
end Go.Sd
set_option maxRecDepth 100000
namespace Go.Sc
open Go Go.Cm
theorem pair_lok {o:B2} {a b:Pr} (h:a.lok) (k:b.lok):(prPair o a b).lok:=by
 rcases prPair_cases o a b with e|e|e|e|e<;>rw[e]
 ·exact h
 ·exact k
 ·trivial
 ·trivial
 ·exact⟨h,k⟩
theorem simp_lok:∀t:Pr,t.lok→t.simp.lok
 |.tt,h=>h
 |.ff,h=>h
 |.lab _,h=>h
 |.un o a,h=>by
  have ih:a.simp.lok:=simp_lok a h
  simp only[Pr.simp]
  unfold prX
  split
  ·exact ih
  ·exact ih
 |.bi o a b,h=>by
  simp only[Pr.simp]
  exact pair_lok (simp_lok a h.1) (simp_lok b h.2)
theorem parX_le (r k:Nat) (l:T8):(parX r k l).length≤l.length+2:=by unfold parX;split<;>simp
theorem txt_len:∀t:Pr,t.lok→t.txt.length≤40*t.sz
 |.tt,_=>by simp[Pr.txt,Pr.sz,oTrue]
 |.ff,_=>by simp[Pr.txt,Pr.sz,oFalse]
 |.lab s,h=>by
  have:s.toList.length≤32:=h.2.1
  simp only[Pr.txt,Pr.sz,List.length_cons,List.length_append,List.length_nil];omega
 |.un o a,h=>by
  have ih:=txt_len a h
  have:=parX_le 4 a.rank a.txt
  cases o<;>simp only[Pr.txt,Pr.sz,U1.s,List.length_cons,List.length_append,List.length_nil]<;>omega
 |.bi o a b,h=>by
  have i1:=txt_len a h.1
  have i2:=txt_len b h.2
  have p1:=parX_le o.lt a.rank a.txt
  have p2:=parX_le o.rt b.rank b.txt
  have ho:o.s.length≤2:=by cases o<;>decide
  simp only[Pr.txt,Pr.sz,List.length_cons,List.length_append];omega
theorem op_Tb (a:Pr):(a.opb.toList==[116,114,117,101])=decide (a=.tt):=by
 have:=op_T a;rw[show a.fm.op=a.opb by cases a<;>rfl]at this;exact this
theorem op_Fb (a:Pr):(a.opb.toList==[102,97,108,115,101])=decide (a=.ff):=by
 have:=op_F a;rw[show a.fm.op=a.opb by cases a<;>rfl]at this;exact this
theorem txt_eq {a b:Pr} (h:a.lok) (k:b.lok):((T8.b a.txt).toList==(T8.b b.txt).toList)=decide (a=b):=by
 rw[T8.b_toL,T8.b_toL]
 by_cases c:a=b
 ·subst c;simp
 ·have:¬a.txt=b.txt:=fun e=>c (txt_inj h k e)
  simp[c,this]
open Classical in
theorem simX_of {b:Option Nat} {t:Pr} (h1:t.ok=true) (h2:t.lok) (h3:ltB b t.sz) (h4:t.sz≤4096):simX b t.fm.d=some t.simp:=by unfold simX;rw[absD_fm];exact if_pos ⟨rfl,h1,h2,h3,h4⟩
open Classical in
theorem simX_out {b:Option Nat} {x:D} {r:Pr} (h:simX b x=some r):∃t:Pr,x=t.fm.d∧t.ok=true∧t.lok∧ltB b t.sz∧t.sz≤4096∧r=t.simp:=by
 unfold simX at h
 split at h
 ·rename_i t ht
  split at h
  ·rename_i hc;cases h;exact⟨t,hc.1,hc.2.1,hc.2.2.1,hc.2.2.2.1,hc.2.2.2.2,rfl⟩
  ·cases h
 ·cases h
end Go.Sc
namespace Go.Sd
open Go Go.Cm Go.Proofs Go.Sc
theorem sim_step {b:Option Nat} {op nm:ByteArray} {p:Int} {ks acc:List D} {t:Bool} {i:Nat} {u:Pr} (hx:ks[i]? =some u.fm.d) (hk:simX b u.fm.d=some u.simp) (hl:ks.length≤2) (ha:acc.length≤2):
  N36.L0 b (N36.s0 op nm ks p i acc t)=some (.inl (N36.s0 op nm ks p ((i+1:Nat):Int) (acc++[prD u.simp]) (t||true))):=by
 have hr:=N36.round0_0 b op nm ks p i acc t
 have hi:i<ks.length:=(List.getElem?_eq_some_iff.1 hx).1
 obtain⟨o,n,l,q,e⟩:=absD_K (absD_fm u)
 rw[e]at hx hk
 rw[if_pos (by rw[decide_eq_true_eq];omega),if_pos (by omega),Int.toNat_natCast,hx]at hr
 simp only[if_true,hk,wrap_id (show -9223372036854775808≤(i:Int)+1 by omega) (by omega)]at hr
 rw[if_pos (by omega)]at hr
 exact hr
theorem sim_end {b:Option Nat} {op nm:ByteArray} {p:Int} {ks acc:List D} {t:Bool} {i:Nat} (hi:i=ks.length):N36.L0 b (N36.s0 op nm ks p i acc t)=some (.inr (.exit 0,N36.e0x0 op nm acc t)):=by
 have hr:=N36.round0_0 b op nm ks p i acc t
 rw[if_neg (by rw[decide_eq_true_eq];omega)]at hr
 exact hr
theorem ev_sim {b:Option Nat} {t:Pr} (h1:t.ok=true) (h2:t.lok) (hb:∀k,b=some k→t.sz≤k) (hz:t.sz≤4096) {γ:Type} (q:List TV→List TV→Option γ):
  ∃u,evalF Tryz.prog (WSim b) Tryz.f36 [.d true 5 t.fm.d] q=q [.d u 5 (prD t.simp)] []:=by
 have pd:∀u:Pr,prD u=u.fm.d:=pr_d
 have leaf:∀op nm:ByteArray,(op.toList==[88])=false→evalF Tryz.prog (WSim b) Tryz.f36 [.d true 5 (fmD op nm [] 0)] q=q [.d true 5 (fmD op nm [] 0)] []:=fun op nm ho=>by
  unfold fmD
  have L:Lp (N36.L0 b) (N36.s0 op nm [] 0 0 [] false)=_:=Lp_exit (sim_end (i:=0) rfl)
  rw[N36.start,N36.behind0x0 b [] 0 op nm _ _ q _ L,if_neg (by rw[ho];decide),N36.j0_eq,if_neg (by decide),if_pos (by decide)]
 cases t with
 |tt=>exact⟨true,leaf bTrue ⟨#[]⟩ (by rw[show bTrue.toList=oTrue from B_lit oTrue];rfl)⟩
 |ff=>exact⟨true,leaf bFalse ⟨#[]⟩ (by rw[show bFalse.toList=oFalse from B_lit oFalse];rfl)⟩
 |lab s=>exact⟨true,leaf ⟨#[108,97,98,101,108]⟩ s (by rw[show(⟨#[108,97,98,101,108]⟩:ByteArray).toList=oLabel from B_lit oLabel];rfl)⟩
 |un o a=>
  simp only[Pr.sz]at hb hz
  have ha:a.ok=true:=by
   cases o with
   |no=>cases a<;>first|rfl|(simp[Pr.ok]at h1)
   |X=>simpa only[Pr.ok]using h1
   |F=>simp[Pr.ok]at h1
   |G=>simp[Pr.ok]at h1
  have hX:o≠.X→(o.s==[88])=false:=fun h=>by cases o<;>first|rfl|exact(h rfl).elim
  have k1:=simX_of (b:=b) ha h2 (ltB_le hb (by omega)) (by omega)
  have L:Lp (N36.L0 b) (N36.s0 o.b ⟨#[]⟩ [a.fm.d] 0 0 [] false)=_:=Lp_step (sim_step (i:=0) rfl k1 (by simp) (by simp)) (Lp_exit (sim_end rfl))
  rw[List.nil_append]at L
  have base:evalF Tryz.prog (WSim b) Tryz.f36 [.d true 5 (Pr.un o a).fm.d] q=_:=(N36.start b o.b ⟨#[]⟩ [a.fm.d] 0 q).trans (N36.behind0x0 b _ _ _ _ _ _ q _ L)
  rw[base]
  have full:N36.J0 b o.b ⟨#[]⟩ [a.fm.d] 0 q (N36.j0 o.b ⟨#[]⟩ [prD a.simp] (false||true) false)=q [.d true 5 (prD (.un o a.simp))] []:=by
   rw[N36.j0_eq,if_neg (by decide),if_pos (by rfl),pd a.simp];rfl
  by_cases c:o=.X
  ·subst c
   have hit:N36.J0 b (U1.b .X) ⟨#[]⟩ [a.fm.d] 0 q (N36.j0 (U1.b .X) ⟨#[]⟩ [prD a.simp] (false||true) true)=q [.d true 5 (prD a.simp)] []:=by
    rw[N36.j0_eq,if_pos rfl,if_pos (by simp)]
    unfold prD
    simp only[List.getElem?_cons_zero,if_true]
    rfl
   rw[if_pos (by rw[U1.b_s];rfl),if_pos (by simp)]
   have h0:([prD a.simp]:List D)[0]? =some (prD a.simp):=rfl
   rw[h0]
   unfold prD at hit full ⊢
   simp only[List.getElem?_cons_zero,op_Tb,op_Fb]at hit full ⊢
   simp only[Pr.simp]
   unfold prX
   by_cases c1:a.simp=.tt
   ·rw[if_pos (by rw[decide_eq_true_eq];exact c1),if_pos ⟨rfl,.inl c1⟩];exact⟨_,hit⟩
   ·rw[if_neg (by rw[decide_eq_true_eq];exact c1),if_pos (by simp)]
    by_cases c2:a.simp=.ff
    ·rw[if_pos ⟨rfl,.inr c2⟩,show decide (a.simp=Pr.ff)=true from decide_eq_true c2];exact⟨_,hit⟩
    ·rw[if_neg (fun h=>by rcases h.2 with h|h;exact c1 h;exact c2 h),show decide (a.simp=Pr.ff)=false from decide_eq_false c2];exact⟨_,full⟩
  ·rw[if_neg (by rw[U1.b_s,hX c];decide)]
   simp only[Pr.simp]
   unfold prX
   rw[if_neg fun h=>c h.1]
   exact⟨_,full⟩
 |bi o a c=>
  simp only[Pr.sz]at hb hz
  have ho:o≠.imp∧o≠.W:=⟨fun e=>by subst e;simp[Pr.ok]at h1,fun e=>by subst e;simp[Pr.ok]at h1⟩
  have hac:a.ok=true∧c.ok=true:=by cases o<;>simp[Pr.ok]at h1<;>first|exact h1|contradiction
  have k1:=simX_of (b:=b) hac.1 h2.1 (ltB_le hb (by omega)) (by omega)
  have k2:=simX_of (b:=b) hac.2 h2.2 (ltB_le hb (by omega)) (by omega)
  have la:=simp_lok a h2.1
  have lc:=simp_lok c h2.2
  have p1:=prtX_of (b:=none) (absD_pr a.simp) trivial (by have:=txt_len _ la;have:=simp_sz a;omega)
  have p2:=prtX_of (b:=none) (absD_pr c.simp) trivial (by have:=txt_len _ lc;have:=simp_sz c;omega)
  have L:Lp (N36.L0 b) (N36.s0 o.b ⟨#[]⟩ [a.fm.d,c.fm.d] 0 0 [] false)=_:=Lp_step (sim_step (i:=0) rfl k1 (by simp) (by simp)) (Lp_step (sim_step (i:=1) rfl k2 (by simp) (by simp)) (Lp_exit (sim_end rfl)))
  rw[List.nil_append,List.singleton_append]at L
  have base:evalF Tryz.prog (WSim b) Tryz.f36 [.d true 5 (Pr.bi o a c).fm.d] q=_:=(N36.start b o.b ⟨#[]⟩ [a.fm.d,c.fm.d] 0 q).trans (N36.behind0x0 b _ _ _ _ _ _ q _ L)
  have full:(D.ag [.str o.b,.str ⟨#[]⟩,.sl 5 [prD a.simp,prD c.simp],.int .i64 0])=prD (.bi o a.simp c.simp):=by rw[pd a.simp,pd c.simp];rfl
  have step:evalF Tryz.prog (WSim b) Tryz.f36 [.d true 5 (Pr.bi o a c).fm.d] q=N36.J1 b o.b ⟨#[]⟩ [a.fm.d,c.fm.d] 0 q (N36.j1 o.b ⟨#[]⟩ [prD a.simp,prD c.simp] true a.simp.opb a.simp.nmb a.simp.ksd 0 c.simp.opb c.simp.nmb c.simp.ksd 0):=by
   rw[base,if_neg (by rw[B2.b_s];cases o<;>decide),N36.j0_eq,if_neg (by decide),if_neg (by simp),N36.reg0,if_pos (by simp)]
   unfold prD
   simp only[List.getElem?_cons_zero,List.getElem?_cons_succ,if_true]
   rw[if_pos (by simp)]
   rfl
  rw[step,N36.j1_eq,p1,p2]
  simp only[op_Tb,op_Fb,txt_eq la lc,full,Pr.simp]
  unfold prPair
  simp only[decide_eq_true_eq]
  have hos:∀l:T8,(o.b.toList==l)=(o.s==l):=fun l=>by rw[B2.b_s]
  simp only[hos]
  have rA:∀u:Bool,q [.d (true||u) 5 (D.ag [.str a.simp.opb,.str a.simp.nmb,.sl 5 a.simp.ksd,.int .i64 0])] []=q [.d true 5 (prD a.simp)] []:=fun u=>rfl
  have rC:∀u:Bool,q [.d (true||u) 5 (D.ag [.str c.simp.opb,.str c.simp.nmb,.sl 5 c.simp.ksd,.int .i64 0])] []=q [.d true 5 (prD c.simp)] []:=fun u=>rfl
  simp only[rA,rC]
  cases o with
  |imp=>exact(ho.1 rfl).elim
  |W=>exact(ho.2 rfl).elim
  |and=>
   dsimp only
   rw[if_pos (by rfl)]
   by_cases c1:a.simp=.tt
   ·rw[if_pos c1,if_pos c1];exact⟨_,rfl⟩
   rw[if_neg c1,if_neg c1]
   by_cases c2:c.simp=.tt
   ·rw[if_pos c2,if_pos c2];exact⟨_,rfl⟩
   rw[if_neg c2,if_neg c2]
   by_cases c3:a.simp=.ff
   ·rw[if_pos c3,if_pos c3];exact⟨false,rfl⟩
   rw[if_neg c3,if_neg c3]
   by_cases c4:c.simp=.ff
   ·rw[if_pos c4,if_pos c4];exact⟨false,rfl⟩
   rw[if_neg c4,if_neg c4]
   by_cases c5:a.simp=c.simp
   ·rw[if_pos c5,if_pos c5,c5];exact⟨_,rfl⟩
   ·rw[if_neg c5,if_neg c5];exact⟨_,rfl⟩
  |or=>
   dsimp only
   rw[if_neg (by decide),if_pos (by rfl)]
   by_cases c1:a.simp=.ff
   ·rw[if_pos c1,if_pos c1];exact⟨_,rfl⟩
   rw[if_neg c1,if_neg c1]
   by_cases c2:c.simp=.ff
   ·rw[if_pos c2,if_pos c2];exact⟨_,rfl⟩
   rw[if_neg c2,if_neg c2]
   by_cases c3:a.simp=.tt
   ·rw[if_pos c3,if_pos c3];exact⟨false,rfl⟩
   rw[if_neg c3,if_neg c3]
   by_cases c4:c.simp=.tt
   ·rw[if_pos c4,if_pos c4];exact⟨false,rfl⟩
   rw[if_neg c4,if_neg c4]
   by_cases c5:a.simp=c.simp
   ·rw[if_pos c5,if_pos c5,c5];exact⟨_,rfl⟩
   ·rw[if_neg c5,if_neg c5];exact⟨_,rfl⟩
  |U=>
   dsimp only
   rw[if_neg (by decide),if_neg (by decide),if_pos (by rfl)]
   by_cases c1:c.simp=.tt
   ·rw[if_pos c1,if_pos (.inl c1)];exact⟨_,rfl⟩
   rw[if_neg c1]
   by_cases c2:c.simp=.ff
   ·rw[if_pos c2,if_pos (.inr c2)];exact⟨_,rfl⟩
   rw[if_neg c2,if_neg (show ¬(c.simp=.tt∨c.simp=.ff)from fun h=>h.elim c1 c2)]
   by_cases c3:a.simp=.ff
   ·rw[if_pos c3,if_pos c3];exact⟨_,rfl⟩
   rw[if_neg c3,if_neg c3]
   by_cases c5:a.simp=c.simp
   ·rw[if_pos c5,if_pos c5,c5];exact⟨_,rfl⟩
   ·rw[if_neg c5,if_neg c5];exact⟨_,rfl⟩
  |R=>
   dsimp only
   rw[if_neg (by decide),if_neg (by decide),if_neg (by decide),if_pos (by rfl)]
   by_cases c1:c.simp=.tt
   ·rw[if_pos c1,if_pos (.inl c1)];exact⟨_,rfl⟩
   rw[if_neg c1]
   by_cases c2:c.simp=.ff
   ·rw[if_pos c2,if_pos (.inr c2)];exact⟨_,rfl⟩
   rw[if_neg c2,if_neg (show ¬(c.simp=.tt∨c.simp=.ff)from fun h=>h.elim c1 c2)]
   by_cases c3:a.simp=.tt
   ·rw[if_pos c3,if_pos c3];exact⟨_,rfl⟩
   rw[if_neg c3,if_neg c3]
   by_cases c5:a.simp=c.simp
   ·rw[if_pos c5,if_pos c5,c5];exact⟨_,rfl⟩
   ·rw[if_neg c5,if_neg c5];exact⟨_,rfl⟩
theorem vcSim:∀(β:Type) (args:List TV) (k:List TV→List TV→Option β) (r:β),cSim none args k=some r→∃res outs,k res outs=some r∧Valid glS Tryz.prog 36 args res outs:=fun β args k r hr=>by
 have h:EnvOk glS Tryz.prog (WSim none):=by
  refine EnvOk.rec1 (fun b {β} args k=>cSim b args k) ((EnvOk.none.add vcLeaf).add vcPrt) ?_ ?_ ?_
  ·intro β args k r hr
   unfold cSim at hr
   split at hr
   ·split at hr
    ·rename_i hx;obtain⟨t,_,_,_,h,_⟩:=simX_out hx;exact not_ltB_zero h
    ·cases hr
   ·cases hr
  ·intro n ih β args k r hr
   unfold cSim at hr
   split at hr
   ·split at hr
    ·rename_i hx
     obtain⟨t,rfl,h1,h2,h3,h4,rfl⟩:=simX_out hx
     obtain⟨u,hu⟩:=ev_sim (b:=some n) h1 h2 (fun k hk=>by cases hk;exact Nat.lt_succ_iff.1 h3) h4 (fun a b=>some (a,b))
     exact⟨_,_,hr,valid_bit (valid_of ih mixed Tryz.func36 (by kernel_rfl) hu)⟩
    ·cases hr
   ·cases hr
  ·intro β args k r hr
   unfold cSim at hr
   split at hr
   ·split at hr
    ·rename_i hx
     obtain⟨t,rfl,h1,h2,h3,h4,rfl⟩:=simX_out hx
     refine⟨t.sz+1,?_⟩
     simp only[cSim,simX_of (b:=some (t.sz+1)) h1 h2 (Nat.lt_succ_self _) h4]
     exact hr
    ·cases hr
   ·cases hr
 exact h β 36 args k r hr
end Go.Sd
namespace Go.Sd
open Go Go.Cm Go.Proofs Go.Sc
set_option maxRecDepth 100000
namespace N32
  section
  variable (b:Option Nat)
noncomputable def X:Fx:=⟨Tryz.prog,WNrm b,16,2⟩
noncomputable def s0 (n:Bool) (x18:Bool) (x19:ByteArray) (x20:Int) (x55:ByteArray) (x56:ByteArray) (x57:List D):S:=⟨Tm.mk 83 [(1,.d true 0 (.bool n)),(2,.rp 3 0),(4,.rp 5 0),(5,.own false 0 [D.str (ByteArray.mk #[116,114,117,101]),D.str (ByteArray.mk #[102,97,108,115,101]),D.str (ByteArray.mk #[38]),D.str (ByteArray.mk #[124]),D.str (ByteArray.mk #[85]),D.str (ByteArray.mk #[82])]),(6,.d x18 0 (.str x19)),(7,.d false 0 (.int .i64 x20))],[(3,true,[.d true 0 (.str x55),.d true 0 (.str x56),.d true 0 (.sl 5 x57),.d true 0 (.int .i64 0)]),(5,true,[.d false 0 (.str (ByteArray.mk #[])),.d false 0 (.str (ByteArray.mk #[])),.own false 5 [],.d false 0 (.int .i64 0)])]⟩
noncomputable def s1 (n:Bool) (x137:Int) (x138:List D) (x139:Bool) (x169:ByteArray) (x170:ByteArray) (x171:List D) (x172:Bool) (x173:ByteArray) (x174:ByteArray):S:=⟨Tm.mk 83 [(1,.d true 0 (.bool n)),(2,.rp 3 0),(4,.rp 5 0),(8,.rp 9 0),(9,.d false 0 (.int .i64 x137))],[(3,true,[.d true 0 (.str x169),.d true 0 (.str x170),.d true 0 (.sl 5 x171),.d true 0 (.int .i64 0)]),(5,true,[.d false 0 (.str (ByteArray.mk #[])),.d false 0 (.str (ByteArray.mk #[])),.own false 5 [],.d false 0 (.int .i64 0)]),(9,true,[.d x172 0 (.str x173),.d true 0 (.str x174),.own x139 5 x138,.d false 0 (.int .i64 0)])]⟩
noncomputable def e0x0 (n:Bool) (x77:Bool) (x78:ByteArray) (x79:ByteArray) (x80:ByteArray) (x81:List D):S:=⟨Tm.mk 83 [(1,.d true 0 (.bool n)),(2,.rp 3 0),(4,.rp 5 0),(6,.d x77 0 (.str x78))],[(3,true,[.d true 0 (.str x79),.d true 0 (.str x80),.d true 0 (.sl 5 x81),.d true 0 (.int .i64 0)]),(5,true,[.d false 0 (.str (ByteArray.mk #[])),.d false 0 (.str (ByteArray.mk #[])),.own false 5 [],.d false 0 (.int .i64 0)])]⟩
noncomputable def e1x2 (n:Bool) (x245:ByteArray) (x246:ByteArray) (x247:List D) (x248:Bool) (x249:ByteArray) (x250:ByteArray) (x251:List D) (x252:Bool):S:=⟨Tm.mk 83 [(1,.d true 0 (.bool n)),(2,.rp 3 0),(4,.rp 5 0),(8,.rp 9 0)],[(3,true,[.d true 0 (.str x245),.d true 0 (.str x246),.d true 0 (.sl 5 x247),.d true 0 (.int .i64 0)]),(5,true,[.d false 0 (.str (ByteArray.mk #[])),.d false 0 (.str (ByteArray.mk #[])),.own false 5 [],.d false 0 (.int .i64 0)]),(9,true,[.d x248 0 (.str x249),.d true 0 (.str x250),.own x252 5 x251,.d false 0 (.int .i64 0)])]⟩
noncomputable def j0 (n:Bool) (x15:Bool) (x16:ByteArray) (x17:Int) (x52:ByteArray) (x53:ByteArray) (x54:List D) (x191:Bool) (x192:Bool):S:=⟨Tm.mk 83 [(1,.d true 0 (.bool n)),(2,.rp 3 0),(4,.rp 5 0),(5,.own false 0 [D.str (ByteArray.mk #[116,114,117,101]),D.str (ByteArray.mk #[102,97,108,115,101]),D.str (ByteArray.mk #[38]),D.str (ByteArray.mk #[124]),D.str (ByteArray.mk #[85]),D.str (ByteArray.mk #[82])]),(6,.d x15 0 (.str x16)),(7,.d false 0 (.int .i64 x17)),(21,.d x191 0 (.bool x192))],[(3,true,[.d true 0 (.str x52),.d true 0 (.str x53),.d true 0 (.sl 5 x54),.d true 0 (.int .i64 0)]),(5,true,[.d false 0 (.str (ByteArray.mk #[])),.d false 0 (.str (ByteArray.mk #[])),.own false 5 [],.d false 0 (.int .i64 0)])]⟩
noncomputable abbrev L0:S→Option (S ⊕ (Ex×S)):=roundK (X b) [(0,86)] (sub [1,1,1,1,0,1,0,0] (body Tryz.f32))
noncomputable abbrev L1:S→Option (S ⊕ (Ex×S)):=roundK (X b) [(2,278)] (sub [1,1,1,1,1,1,1,0,1,0,0] (body Tryz.f32))
noncomputable abbrev G0 {β:Type} (op:ByteArray) (nm:ByteArray) (ks:List D) (p:Int) (n:Bool) (k:List TV→List TV→Option β):S→Option β:=goLp (X b) [(0,86)] (sub [1,1,1,1,0,1,0,0] (body Tryz.f32)) [Kf.block 0 86,Kf.seq [] (sub [1,1,1,1,1] (body Tryz.f32)) 16] (finK Tryz.prog Tryz.f32 [.d true 5 (.ag [D.str op,D.str nm,D.sl 5 ks,D.int .i64 p]),.d true 0 (.bool n)] k)
noncomputable abbrev G1 {β:Type} (op:ByteArray) (nm:ByteArray) (ks:List D) (p:Int) (n:Bool) (k:List TV→List TV→Option β):S→Option β:=goLp (X b) [(2,278)] (sub [1,1,1,1,1,1,1,0,1,0,0] (body Tryz.f32)) [Kf.block 2 278,Kf.seq [] (sub [1,1,1,1,1,1,1,1] (body Tryz.f32)) 16] (finK Tryz.prog Tryz.f32 [.d true 5 (.ag [D.str op,D.str nm,D.sl 5 ks,D.int .i64 p]),.d true 0 (.bool n)] k)
noncomputable abbrev J0:S→Option (S ⊕ (Ex×S)):=applyK (X b) (finR (X b) [(0,86)] (sub [1,1,1,1,0,1,0,0] (body Tryz.f32))) [Kf.seq [(0,86)] (sub [1,1,1,1,0,1,0,0,0,1] (body Tryz.f32)) 246,Kf.seq [(0,86)] (sub [1,1,1,1,0,1,0,0,1] (body Tryz.f32)) 246] Ex.norm
theorem start {β:Type} (op:ByteArray) (nm:ByteArray) (ks:List D) (p:Int) (n:Bool) (k:List TV→List TV→Option β):evalF Tryz.prog (WNrm b) Tryz.f32 [.d true 5 (.ag [D.str op,D.str nm,D.sl 5 ks,D.int .i64 p]),.d true 0 (.bool n)] k=match basF op nm ks with
   |some (o294,n295,l296)=>if ks.length≤4096∧List.all ks isKB=true then G0 b op nm ks p n k (s0 n true o294 (0:Int) o294 n295 l296)else none
   |none=>none:=by kernel_rfl
theorem round0_0 (n:Bool) (x15:Bool) (x16:ByteArray) (x17:Int) (x52:ByteArray) (x53:ByteArray) (x54:List D):roundK (X b) [(0,86)] (sub [1,1,1,1,0,1,0,0] (body Tryz.f32)) (s0 n x15 x16 x17 x52 x53 x54)=if decide (x17<6)=true then J0 b (j0 n x15 x16 x17 x52 x53 x54 true n)else J0 b (j0 n x15 x16 x17 x52 x53 x54 false false):=by kernel_rfl
theorem round1_0 (n:Bool) (x134:Int) (x135:List D) (x136:Bool) (x163:ByteArray) (x164:ByteArray) (x165:List D) (x166:Bool) (x167:ByteArray) (x168:ByteArray):roundK (X b) [(2,278)] (sub [1,1,1,1,1,1,1,0,1,0,0] (body Tryz.f32)) (s1 n x134 x135 x136 x163 x164 x165 x166 x167 x168)=if decide (x134<(x165.length:Int))=true then if 0≤x134 then match x165[x134.toNat]? with
   |some x312=>match x312 with
    |D.ag xs313=>match xs313 with
     |x314::r315=>match x314 with
      |D.str s316=>match r315 with
       |x317::r318=>match x317 with
        |D.str s319=>match r318 with
         |x320::r321=>match x320 with
          |D.sl sh322 xs323=>if sh322=5 then match r321 with
           |x324::r325=>match x324 with
            |D.int j326 m327=>if j326=IntKind.i64 then match r325 with
             |[]=>match nrmX b (.ag [D.str s316,D.str s319,D.sl 5 xs323,D.int .i64 m327]) n with
              |some t329=>if x135.length+1≤34359738368 then some (Sum.inl (s1 n (IntKind.wrap .i64 (x134+1)) (x135++[D.ag [D.str (Pr.opb t329),D.str (Pr.nmb t329),D.sl 5 (Pr.ksd t329),D.int .i64 0]]) (x136||true) x163 x164 x165 x166 x167 x168))else none
              |none=>none
             |x=>none else none
            |x=>none
           |[]=>none else none
          |x=>none
         |[]=>none
        |x=>none
       |[]=>none
      |x=>none
     |[]=>none
    |x=>none
   |none=>none else none else some (Sum.inr (Ex.exit 2,e1x2 n x163 x164 x165 x166 x167 x168 x135 x136)):=by kernel_rfl
theorem behind0x0 {β:Type} (op:ByteArray) (nm:ByteArray) (ks:List D) (p:Int) (n:Bool) (x77:Bool) (x78:ByteArray) (x79:ByteArray) (x80:ByteArray) (x81:List D) (k:List TV→List TV→Option β) (s__:S) (h__:Lp (L0 b) s__=some (Ex.exit 0,e0x0 n x77 x78 x79 x80 x81)):G0 b op nm ks p n k s__=if(x79.toList==[33])=true then match x81[0]? with
   |some x364=>match x364 with
    |D.ag xs365=>match xs365 with
     |x366::r367=>match x366 with
      |D.str s368=>match r367 with
       |x369::r370=>match x369 with
        |D.str s371=>match r370 with
         |x372::r373=>match x372 with
          |D.sl sh374 xs375=>if sh374=5 then match r373 with
           |x376::r377=>match x376 with
            |D.int j378 m379=>if j378=IntKind.i64 then match r377 with
             |[]=>match nrmX b (.ag [D.str s368,D.str s371,D.sl 5 xs375,D.int .i64 m379]) !n with
              |some t381=>k [.d true 5 (.ag [D.str (Pr.opb t381),D.str (Pr.nmb t381),D.sl 5 (Pr.ksd t381),D.int .i64 0])] []
              |none=>none
             |x=>none else none
            |x=>none
           |[]=>none else none
          |x=>none
         |[]=>none
        |x=>none
       |[]=>none
      |x=>none
     |[]=>none
    |x=>none
   |none=>none else G1 b op nm ks p n k (s1 n (0:Int) [] false x79 x80 x81 x77 x78 x80):=(goLp_of h__).trans (by kernel_rfl)
theorem behind1x2 {β:Type} (op:ByteArray) (nm:ByteArray) (ks:List D) (p:Int) (n:Bool) (x245:ByteArray) (x246:ByteArray) (x247:List D) (x248:Bool) (x249:ByteArray) (x250:ByteArray) (x251:List D) (x252:Bool) (k:List TV→List TV→Option β) (s__:S) (h__:Lp (L1 b) s__=some (Ex.exit 2,e1x2 n x245 x246 x247 x248 x249 x250 x251 x252)):G1 b op nm ks p n k s__=if(x245.toList==[108,97,98,101,108])=true then if n=true then k [.d (x248||true||false||false) 5 (.ag [D.str (ByteArray.mk #[33]),D.str (ByteArray.mk #[]),D.sl 5 [D.ag [D.str x249,D.str x250,D.sl 5 x251,D.int .i64 0]],D.int .i64 0])] []else k [.d (x248||true) 5 (.ag [D.str x249,D.str x250,D.sl 5 x251,D.int .i64 0])] []else k [.d (x248||true) 5 (.ag [D.str x249,D.str x250,D.sl 5 x251,D.int .i64 0])] []:=(goLp_of h__).trans (by kernel_rfl)
theorem j0_eq (n:Bool) (x15:Bool) (x16:ByteArray) (x17:Int) (x52:ByteArray) (x53:ByteArray) (x54:List D) (x191:Bool) (x192:Bool):J0 b (j0 n x15 x16 x17 x52 x53 x54 x191 x192)=if x192=true then if 0≤x17∧x17<6 then match[D.str (ByteArray.mk #[116,114,117,101]),D.str (ByteArray.mk #[102,97,108,115,101]),D.str (ByteArray.mk #[38]),D.str (ByteArray.mk #[124]),D.str (ByteArray.mk #[85]),D.str (ByteArray.mk #[82])][x17.toNat]? with
   |some x392=>match x392 with
    |D.str s393=>if(s393.toList==x52.toList)=true then if 0≤IntKind.wrap .i64 (IntKind.wrap .i64 (x17+1) - IntKind.wrap .i64 ((2:Int)*Int.tmod x17 (2:Int)))∧IntKind.wrap .i64 (IntKind.wrap .i64 (x17+1) - IntKind.wrap .i64 ((2:Int)*Int.tmod x17 (2:Int)))<6 then match[D.str (ByteArray.mk #[116,114,117,101]),D.str (ByteArray.mk #[102,97,108,115,101]),D.str (ByteArray.mk #[38]),D.str (ByteArray.mk #[124]),D.str (ByteArray.mk #[85]),D.str (ByteArray.mk #[82])][Int.toNat (IntKind.wrap .i64 (IntKind.wrap .i64 (x17+1) - IntKind.wrap .i64 ((2:Int)*Int.tmod x17 (2:Int))))]? with
     |some x396=>match x396 with
      |D.str s397=>some (Sum.inl (s0 n false s397 (IntKind.wrap .i64 (x17+1)) x52 x53 x54))
      |x=>none
     |none=>none else none else some (Sum.inl (s0 n x15 x16 (IntKind.wrap .i64 (x17+1)) x52 x53 x54))
    |x=>none
   |none=>none else none else some (Sum.inr (Ex.exit 0,e0x0 n x15 x16 x52 x53 x54)):=by kernel_rfl
end
end N32
end Go.Sd
set_option maxRecDepth 100000
namespace Go.Sc
open Go Go.Cm
def NM (x:D) (t:Pr):Prop:=∃f,ofD x=some f∧f.abs=some t∧sameF f t.fm=true
def bLab:ByteArray:=⟨#[108,97,98,101,108]⟩
theorem same_mk {op nm:ByteArray} {ks:List Fm} {p:Int} {o n:ByteArray} {l:List Fm} {q:Int} (h:sameF (.mk op nm ks p) (.mk o n l q)=true):op=o∧nm=n∧sameL ks l=true:=by
 simp only[sameF,Bool.and_eq_true,beq_iff_eq]at h
 exact⟨toList_inj h.1.1,toList_inj h.1.2,h.2⟩
theorem ms_pos (t:Pr):1≤t.ms:=by
 cases t with
 |un o a=>cases o<;>simp only[Pr.ms]<;>omega
 |bi o a c=>cases o<;>simp only[Pr.ms]<;>omega
 |tt=>exact Nat.le_refl _
 |ff=>exact Nat.le_refl _
 |lab s=>exact Nat.le_refl _
theorem NM_inv {x:D} {t:Pr} (h:NM x t):
  (∃p,x=fmD bTrue ⟨#[]⟩ [] p∧t=.tt)∨(∃p,x=fmD bFalse ⟨#[]⟩ [] p∧t=.ff)∨(∃s p,x=fmD bLab s [] p∧t=.lab s)∨
  (∃o a y p,x=fmD (U1.b o) ⟨#[]⟩ [a] p∧NM a y∧t=.un o y)∨
  (∃o a c y z p,x=fmD (B2.b o) ⟨#[]⟩ [a,c] p∧NM a y∧NM c z∧t=.bi o y z):=by
 obtain⟨f,hf,ha,hs⟩:=h
 have hx:=d_ofD _ _ hf
 rcases abs_inv ha with⟨op,nm,p,rfl,h1⟩|⟨op,nm,a,p,o,y,rfl,h1,h2,rfl⟩|⟨op,nm,a,c,p,o,y,z,rfl,h1,h2,h3,rfl⟩
 ·rcases h1 with⟨_,rfl⟩|⟨_,rfl⟩|⟨_,rfl⟩
  ·obtain⟨rfl,rfl,_⟩:=same_mk hs;exact .inl ⟨p,hx,rfl⟩
  ·obtain⟨rfl,rfl,_⟩:=same_mk hs;exact .inr (.inl ⟨p,hx,rfl⟩)
  ·obtain⟨rfl,_,_⟩:=same_mk hs;exact .inr (.inr (.inl ⟨_,p,hx,rfl⟩))
 ·obtain⟨rfl,rfl,h⟩:=same_mk hs
  simp only[sameL,Bool.and_true]at h
  exact .inr (.inr (.inr (.inl ⟨o,a.d,y,p,hx,⟨a,ofD_d _,h2,h⟩,rfl⟩)))
 ·obtain⟨rfl,rfl,h⟩:=same_mk hs
  simp only[sameL,Bool.and_true,Bool.and_eq_true]at h
  exact .inr (.inr (.inr (.inr ⟨o,a.d,c.d,y,z,p,hx,⟨a,ofD_d _,h2,h.1⟩,⟨c,ofD_d _,h3,h.2⟩,rfl⟩)))
theorem NM_d {f:Fm} {t:Pr} (h:f.abs=some t) (k:sameF f t.fm=true):NM f.d t:=⟨f,ofD_d f,h,k⟩
theorem NM_tt (p:Int):NM (fmD ⟨#[116,114,117,101]⟩ ⟨#[]⟩ [] p) .tt:=NM_d (f:=.mk bTrue ⟨#[]⟩ [] p) (by unfold Fm.abs;rw[show bTrue.toList=oTrue from B_lit oTrue];rfl) (by simp[sameF,Pr.fm,nd,sameL])
theorem NM_ff (p:Int):NM (fmD ⟨#[102,97,108,115,101]⟩ ⟨#[]⟩ [] p) .ff:=NM_d (f:=.mk bFalse ⟨#[]⟩ [] p) (by unfold Fm.abs;rw[show bFalse.toList=oFalse from B_lit oFalse];rfl) (by simp[sameF,Pr.fm,nd,sameL])
theorem NM_un {a:D} {y:Pr} (o:U1) (h:NM a y) (p:Int):NM (fmD o.b ⟨#[]⟩ [a] p) (.un o y):=by
 obtain⟨f,hf,ha,hs⟩:=h
 rw[d_ofD _ _ hf]
 refine NM_d (f:=.mk o.b ⟨#[]⟩ [f] p) ?_ ?_
 ·unfold Fm.abs;simp only[];rw[ha,U1.b_s];unfold u1A;rw[u1_of]
 ·simp[sameF,Pr.fm,nd,sameL,hs]
theorem NM_bi {a c:D} {y z:Pr} (o:B2) (h:NM a y) (k:NM c z) (p:Int):NM (fmD o.b ⟨#[]⟩ [a,c] p) (.bi o y z):=by
 obtain⟨f,hf,ha,hs⟩:=h
 obtain⟨g,hg,hb,ht⟩:=k
 rw[d_ofD _ _ hf,d_ofD _ _ hg]
 refine NM_d (f:=.mk o.b ⟨#[]⟩ [f,g] p) ?_ ?_
 ·unfold Fm.abs;simp only[];rw[ha,hb,B2.b_s];unfold b2A;rw[b2_of]
 ·simp[sameF,Pr.fm,nd,sameL,hs,ht]
theorem NM_K {x:D} {t:Pr} (h:NM x t):isKB x=true:=by
 rcases NM_inv h with⟨p,rfl,_⟩|⟨p,rfl,_⟩|⟨s,p,rfl,_⟩|⟨o,a,y,p,rfl,_⟩|⟨o,a,c,y,z,p,rfl,_⟩<;>rfl
theorem NM_abs {x:D} {t:Pr} (h:NM x t):absD x=some t:=by obtain⟨f,hf,ha,_⟩:=h;unfold absD;rw[hf];exact ha
theorem nrmX_of {b:Option Nat} {x:D} {t:Pr} {n:Bool} (h:NM x t) (h1:ltB b t.ms) (h2:t.ms≤1000000000):nrmX b x n=some (t.nf n):=by
 obtain⟨f,hf,ha,hs⟩:=h
 unfold nrmX;rw[hf];simp only[];rw[ha];exact if_pos ⟨hs,h1,h2⟩
theorem nrmX_out {b:Option Nat} {x:D} {n:Bool} {r:Pr} (h:nrmX b x n=some r):∃t,NM x t∧ltB b t.ms∧t.ms≤1000000000∧r=t.nf n:=by
 unfold nrmX at h
 split at h
 ·rename_i f hf
  split at h
  ·rename_i t ht
   split at h
   ·rename_i hc;cases h;exact⟨t,⟨f,hf,ht,hc.1⟩,hc.2.1,hc.2.2,rfl⟩
   ·cases h
  ·cases h
 ·cases h
def tabA:Nat→ByteArray
 |0=>bTrue|1=>bFalse|2=>⟨#[38]⟩|3=>⟨#[124]⟩|4=>⟨#[85]⟩|_=>⟨#[82]⟩
def tabB:Nat→ByteArray
 |0=>bFalse|1=>bTrue|2=>⟨#[124]⟩|3=>⟨#[38]⟩|4=>⟨#[82]⟩|_=>⟨#[85]⟩
def tabF (op:ByteArray):Nat→Bool×ByteArray
 |0=>(true,op)
 |i+1=>if((tabA i).toList==op.toList)=true then(false,tabB i)else tabF op i
def swB (n:Bool) (op:ByteArray):Bool×ByteArray:=match n with|true=>tabF op 6|false=>(true,op)
theorem swB_l (n:Bool) {op:ByteArray} {l:T8} (h:op.toList=l):swB n op=match n with
  |true=>if(([82]:T8)==l)=true then(false,⟨#[85]⟩)else if(([85]:T8)==l)=true then(false,⟨#[82]⟩)else if(([124]:T8)==l)=true then(false,⟨#[38]⟩)else if(([38]:T8)==l)=true then(false,⟨#[124]⟩)else if(oFalse==l)=true then(false,bTrue)else if(oTrue==l)=true then(false,bFalse)else(true,op)
  |false=>(true,op):=by
 cases n with
 |false=>rfl
 |true=>unfold swB;simp only[tabF,tabA,tabB,h,B_lit [82],B_lit [85],B_lit [124],B_lit [38],show bFalse.toList=oFalse from B_lit oFalse,show bTrue.toList=oTrue from B_lit oTrue]
end Go.Sc
namespace Go.Sd
open Go Go.Cm Go.Proofs Go.Sc
theorem tab_k {op nm:ByteArray} {ks:List D} (i:Nat):(if((tabA i).toList==op.toList)=true then some (Sum.inl (N32.s0 true false (tabB i) ((i+1:Nat):Int) op nm ks))else some (Sum.inl (N32.s0 true (tabF op i).1 (tabF op i).2 ((i+1:Nat):Int) op nm ks)):Option (S ⊕ (Ex×S)))=
  some (.inl (N32.s0 true (tabF op (i+1)).1 (tabF op (i+1)).2 ((i+1:Nat):Int) op nm ks)):=by
 rw[show tabF op (i+1)=if((tabA i).toList==op.toList)=true then(false,tabB i)else tabF op i from rfl];split<;>rfl
theorem tab_step {b:Option Nat} {op nm:ByteArray} {ks:List D} (i:Nat) (hi:i<6):
  N32.L0 b (N32.s0 true (tabF op i).1 (tabF op i).2 i op nm ks)=some (.inl (N32.s0 true (tabF op (i+1)).1 (tabF op (i+1)).2 ((i+1:Nat):Int) op nm ks)):=by
 have hr:=N32.round0_0 b true (tabF op i).1 (tabF op i).2 i op nm ks
 refine hr.trans ?_
 rw[if_pos (by rw[decide_eq_true_eq];omega),N32.j0_eq,if_pos rfl,if_pos (by omega),Int.toNat_natCast]
 clear hr
 rcases(by omega:i=0∨i=1∨i=2∨i=3∨i=4∨i=5)with rfl|rfl|rfl|rfl|rfl|rfl
 ·exact Eq.trans (by kernel_rfl) (tab_k 0)
 ·exact Eq.trans (by kernel_rfl) (tab_k 1)
 ·exact Eq.trans (by kernel_rfl) (tab_k 2)
 ·exact Eq.trans (by kernel_rfl) (tab_k 3)
 ·exact Eq.trans (by kernel_rfl) (tab_k 4)
 ·exact Eq.trans (by kernel_rfl) (tab_k 5)
theorem tab_lp {b:Option Nat} {op nm:ByteArray} {ks:List D} (n:Bool):Lp (N32.L0 b) (N32.s0 n true op 0 op nm ks)=some (.exit 0,N32.e0x0 n (swB n op).1 (swB n op).2 op nm ks):=by
 cases n with
 |false=>
  have hr:=N32.round0_0 b false true op 0 op nm ks
  rw[if_pos (by decide),N32.j0_eq,if_neg (by decide)]at hr
  exact Lp_exit hr
 |true=>
  have hx:=N32.round0_0 b true (tabF op 6).1 (tabF op 6).2 (6:Nat) op nm ks
  rw[if_neg (by decide),N32.j0_eq,if_neg (by decide)]at hx
  exact Lp_step (tab_step 0 (by omega)) (Lp_step (tab_step 1 (by omega)) (Lp_step (tab_step 2 (by omega)) (Lp_step (tab_step 3 (by omega)) (Lp_step (tab_step 4 (by omega)) (Lp_step (tab_step 5 (by omega)) (Lp_exit hx))))))
theorem nrm_step {b:Option Nat} {n:Bool} {o nm:ByteArray} {l acc:List D} {t u:Bool} {w m:ByteArray} {i:Nat} {x:D} {y:Pr} (hx:l[i]? =some x) (hk:nrmX b x n=some y) (hl:l.length≤2) (ha:acc.length≤2):
  N32.L1 b (N32.s1 n i acc t o nm l u w m)=some (.inl (N32.s1 n ((i+1:Nat):Int) (acc++[prD y]) (t||true) o nm l u w m)):=by
 have hr:=N32.round1_0 b n i acc t o nm l u w m
 have hi:i<l.length:=(List.getElem?_eq_some_iff.1 hx).1
 obtain⟨v,hv,_⟩:=nrmX_out hk
 obtain⟨o',n',l',q',rfl⟩:=absD_K (NM_abs hv)
 rw[if_pos (by rw[decide_eq_true_eq];omega),if_pos (by omega),Int.toNat_natCast,hx]at hr
 simp only[if_true,hk,wrap_id (show -9223372036854775808≤(i:Int)+1 by omega) (by omega)]at hr
 rw[if_pos (by omega)]at hr
 exact hr
theorem nrm_loop {b:Option Nat} {n:Bool} {o nm:ByteArray} {l:List D} {u:Bool} {w m:ByteArray} (hl:l.length≤2):∀(gs:List D) (ys:List Pr) (i:Nat) (acc:List D) (t:Bool),l.drop i=gs→acc.length=i→gs.map (fun x=>nrmX b x n)=ys.map some→
  ∃t',Lp (N32.L1 b) (N32.s1 n i acc t o nm l u w m)=some (.exit 2,N32.e1x2 n o nm l u w m (acc++ys.map prD) t')
 |[],ys,i,acc,t,hi,ha,hm=>by
  have hr:=N32.round1_0 b n i acc t o nm l u w m
  have hle:l.length≤i:=by have:=congrArg List.length hi;simp at this;omega
  rw[if_neg (by rw[decide_eq_true_eq];omega)]at hr
  cases ys with
  |nil=>exact⟨t,by rw[List.map_nil,List.append_nil];exact Lp_exit hr⟩
  |cons y ys=>simp at hm
 |x::gs,ys,i,acc,t,hi,ha,hm=>by
  have hlt:i<l.length:=by
   rcases Nat.lt_or_ge i l.length with h'|h'
   ·exact h'
   ·rw[List.drop_eq_nil_of_le h']at hi;cases hi
  have hc:=List.drop_eq_getElem_cons hlt
  rw[hi]at hc
  have hx:l[i]? =some x:=by rw[List.getElem?_eq_getElem hlt, ←(List.cons.inj hc).1]
  cases ys with
  |nil=>simp at hm
  |cons y ys=>
   simp only[List.map_cons,List.cons.injEq]at hm
   obtain⟨t',ih⟩:=nrm_loop hl gs ys (i+1) (acc++[prD y]) (t||true) (List.cons.inj hc).2.symm (by simp[ha]) hm.2
   refine⟨t',?_⟩
   rw[List.append_assoc]at ih
   exact Lp_step (nrm_step hx hm.1 hl (by omega)) ih
theorem nrm_go {b:Option Nat} {op nm:ByteArray} {ks:List D} {p:Int} {n:Bool} {o m:ByteArray} {l:List D} {ys:List Pr} (hb:basF op nm ks=some (o,m,l)) (hk:ks.length≤2∧ks.all isKB=true) (hl:l.length≤2)
  (h33:(o.toList==[33])=false) (hlab:(o.toList==[108,97,98,101,108])=false) (hm:l.map (fun x=>nrmX b x n)=ys.map some) {γ:Type} (q:List TV→List TV→Option γ):
  evalF Tryz.prog (WNrm b) Tryz.f32 [.d true 5 (fmD op nm ks p),.d true 0 (.bool n)] q=q [.d true 5 (fmD (swB n o).2 m (ys.map prD) 0)] []:=by
 obtain⟨t',L⟩:=nrm_loop (b:=b) (n:=n) (o:=o) (nm:=m) (u:=(swB n o).1) (w:=(swB n o).2) (m:=m) hl l ys 0 [] false rfl rfl hm
 have L':Lp (N32.L1 b) (N32.s1 n 0 [] false o m l (swB n o).1 (swB n o).2 m)=_:=L
 unfold fmD
 rw[N32.start,hb]
 simp only[]
 rw[if_pos ⟨by omega,hk.2⟩,N32.behind0x0 b op nm ks p n _ _ o m l q _ (tab_lp n),if_neg (by rw[h33];decide),N32.behind1x2 b op nm ks p n o m l _ _ _ _ _ q _ L',if_neg (by rw[hlab];decide),Bool.or_true]
 rfl
theorem nrm_lab {b:Option Nat} {s:ByteArray} {p:Int} {n:Bool} {γ:Type} (q:List TV→List TV→Option γ):
  evalF Tryz.prog (WNrm b) Tryz.f32 [.d true 5 (fmD bLab s [] p),.d true 0 (.bool n)] q=q [.d true 5 (prD ((Pr.lab s).nf n))] []:=by
 have e:bLab.toList=oLabel:=B_lit oLabel
 obtain⟨t',L⟩:=nrm_loop (b:=b) (n:=n) (o:=bLab) (nm:=s) (l:=[]) (u:=(swB n bLab).1) (w:=(swB n bLab).2) (m:=s) (by simp) [] [] 0 [] false rfl rfl rfl
 have L':Lp (N32.L1 b) (N32.s1 n 0 [] false bLab s [] (swB n bLab).1 (swB n bLab).2 s)=_:=L
 have hb:basF bLab s []=some (bLab,s,[]):=by unfold basF;rw[e];rfl
 unfold fmD
 rw[N32.start,hb]
 simp only[]
 rw[if_pos ⟨by simp,rfl⟩,N32.behind0x0 b bLab s [] p n _ _ bLab s [] q _ (tab_lp n),if_neg (by rw[e];decide),N32.behind1x2 b bLab s [] p n bLab s [] _ _ _ _ _ q _ L',if_pos (by rw[e];rfl),swB_l n e]
 cases n with
 |true=>rw[if_pos rfl];rfl
 |false=>rw[if_neg (by decide)];rfl
theorem nrm_no {b:Option Nat} {a:D} {p:Int} {n:Bool} {y:Pr} (hk:isKB a=true) (hm:nrmX b a (!n)=some y) {γ:Type} (q:List TV→List TV→Option γ):
  evalF Tryz.prog (WNrm b) Tryz.f32 [.d true 5 (fmD (U1.b .no) ⟨#[]⟩ [a] p),.d true 0 (.bool n)] q=q [.d true 5 (prD y)] []:=by
 have e:(U1.b .no).toList=[33]:=U1.b_s .no
 have hb:basF (U1.b .no) ⟨#[]⟩ [a]=some (U1.b .no,⟨#[]⟩,[a]):=by unfold basF;rw[e];rfl
 obtain⟨v,hv,_⟩:=nrmX_out hm
 obtain⟨o',n',l',q',rfl⟩:=absD_K (NM_abs hv)
 unfold fmD
 rw[N32.start,hb]
 simp only[]
 rw[if_pos ⟨by simp,by rw[List.all_cons,hk];rfl⟩,N32.behind0x0 b _ _ _ p n _ _ (U1.b .no) _ _ q _ (tab_lp n),if_pos (by rw[e];rfl)]
 simp only[List.getElem?_cons_zero,if_true,hm]
 rfl
theorem ev_nrm {b:Option Nat} {x:D} {t:Pr} {n:Bool} (h:NM x t) (hb:∀k,b=some k→t.ms≤k) (hz:t.ms≤1000000000) {γ:Type} (q:List TV→List TV→Option γ):
  evalF Tryz.prog (WNrm b) Tryz.f32 [.d true 5 x,.d true 0 (.bool n)] q=q [.d true 5 (prD (t.nf n))] []:=by
 have key:∀{y:Pr} {a:D} {m:Bool},NM a y→y.ms<t.ms→nrmX b a m=some (y.nf m):=fun{y a m} h1 h2=>nrmX_of h1 (ltB_le hb h2) (by omega)
 have pd:∀u:Pr,prD u=u.fm.d:=pr_d
 have eT:bTrue.toList=oTrue:=B_lit oTrue
 have eF:bFalse.toList=oFalse:=B_lit oFalse
 rcases NM_inv h with⟨p,rfl,rfl⟩|⟨p,rfl,rfl⟩|⟨s,p,rfl,rfl⟩|⟨o,a,y,p,rfl,h1,rfl⟩|⟨o,a,c,y,z,p,rfl,h1,h2,rfl⟩
 ·rw[nrm_go (ys:=[]) (o:=bTrue) (m:=⟨#[]⟩) (l:=[]) (by unfold basF;rw[eT];rfl) ⟨by simp,rfl⟩ (by simp) (by rw[eT];rfl) (by rw[eT];rfl) rfl,swB_l n eT]
  cases n<;>rfl
 ·rw[nrm_go (ys:=[]) (o:=bFalse) (m:=⟨#[]⟩) (l:=[]) (by unfold basF;rw[eF];rfl) ⟨by simp,rfl⟩ (by simp) (by rw[eF];rfl) (by rw[eF];rfl) rfl,swB_l n eF]
  cases n<;>rfl
 ·exact nrm_lab q
 ·have hk:([a]:List D).length≤2∧([a]:List D).all isKB=true:=⟨by simp,by rw[List.all_cons,NM_K h1];rfl⟩
  cases o with
  |no=>exact nrm_no (NM_K h1) (key (m:= !n) h1 (by simp only[Pr.ms];omega)) q
  |X=>
   have e:(U1.b .X).toList=[88]:=U1.b_s .X
   rw[nrm_go (ys:=[y.nf n]) (o:=U1.b .X) (m:=⟨#[]⟩) (l:=[a]) (by unfold basF;rw[e];rfl) hk (by simp) (by rw[e];rfl) (by rw[e];rfl) (by rw[List.map_cons,key h1 (by simp only[Pr.ms];omega)];rfl),swB_l n e]
   cases n<;>(simp only[List.map_cons,List.map_nil,pd];rfl)
  |F=>
   have e:(U1.b .F).toList=[70]:=U1.b_s .F
   have e':(B2.b .U).toList=[85]:=B2.b_s .U
   rw[nrm_go (ys:=[Pr.tt.nf n,y.nf n]) (o:=B2.b .U) (m:=⟨#[]⟩) (l:=[fmD ⟨#[116,114,117,101]⟩ ⟨#[]⟩ [] 0,a]) (by unfold basF;rw[e];rfl) hk (by simp) (by rw[e'];rfl) (by rw[e'];rfl) (by rw[List.map_cons,List.map_cons,key h1 (by simp only[Pr.ms];omega),key (NM_tt 0) (by simp only[Pr.ms];omega)];rfl),swB_l n e']
   cases n<;>(simp only[List.map_cons,List.map_nil,pd];rfl)
  |G=>
   have e:(U1.b .G).toList=[71]:=U1.b_s .G
   have e':(B2.b .R).toList=[82]:=B2.b_s .R
   rw[nrm_go (ys:=[Pr.ff.nf n,y.nf n]) (o:=B2.b .R) (m:=⟨#[]⟩) (l:=[fmD ⟨#[102,97,108,115,101]⟩ ⟨#[]⟩ [] 0,a]) (by unfold basF;rw[e];rfl) hk (by simp) (by rw[e'];rfl) (by rw[e'];rfl) (by rw[List.map_cons,List.map_cons,key h1 (by simp only[Pr.ms];omega),key (NM_ff 0) (by simp only[Pr.ms];omega)];rfl),swB_l n e']
   cases n<;>(simp only[List.map_cons,List.map_nil,pd];rfl)
 ·have hk:([a,c]:List D).length≤2∧([a,c]:List D).all isKB=true:=⟨by simp,by rw[List.all_cons,List.all_cons,NM_K h1,NM_K h2];rfl⟩
  have hy:y.ms<(Pr.bi o y z).ms∧z.ms<(Pr.bi o y z).ms:=by cases o<;>simp only[Pr.ms]<;>omega
  have plain:basF (B2.b o) ⟨#[]⟩ [a,c]=some (B2.b o,⟨#[]⟩,[a,c])→evalF Tryz.prog (WNrm b) Tryz.f32 [.d true 5 (fmD (B2.b o) ⟨#[]⟩ [a,c] p),.d true 0 (.bool n)] q=q [.d true 5 (fmD (swB n (B2.b o)).2 ⟨#[]⟩ [prD (y.nf n),prD (z.nf n)] 0)] []:=fun hbas=>by
   rw[nrm_go (ys:=[y.nf n,z.nf n]) hbas hk (by simp) (by rw[B2.b_s];cases o<;>rfl) (by rw[B2.b_s];cases o<;>rfl) (by rw[List.map_cons,List.map_cons,key h1 hy.1,key h2 hy.2];rfl)]
   rfl
  cases o with
  |imp=>
   have e:(B2.b .imp).toList=[61,62]:=B2.b_s .imp
   have e':(B2.b .or).toList=[124]:=B2.b_s .or
   rw[nrm_go (ys:=[(Pr.un .no y).nf n,z.nf n]) (o:=B2.b .or) (m:=⟨#[]⟩) (l:=[fmD (U1.b .no) ⟨#[]⟩ [a] 0,c]) (by unfold basF;rw[e];rfl) hk (by simp) (by rw[e'];rfl) (by rw[e'];rfl) (by rw[List.map_cons,List.map_cons,key h2 hy.2,key (NM_un .no h1 0) (by simp only[Pr.ms];omega)];rfl),swB_l n e']
   cases n<;>(simp only[List.map_cons,List.map_nil,pd];rfl)
  |W=>
   have e:(B2.b .W).toList=[87]:=B2.b_s .W
   have e':(B2.b .R).toList=[82]:=B2.b_s .R
   rw[nrm_go (ys:=[z.nf n,(Pr.bi .or y z).nf n]) (o:=B2.b .R) (m:=⟨#[]⟩) (l:=[c,fmD (B2.b .or) ⟨#[]⟩ [a,c] 0]) (by unfold basF;rw[e];rfl) hk (by simp) (by rw[e'];rfl) (by rw[e'];rfl) (by rw[List.map_cons,List.map_cons,key h2 hy.2,key (NM_bi .or h1 h2 0) (by have hp:=ms_pos z;simp only[Pr.ms];omega)];rfl),swB_l n e']
   cases n<;>(simp only[List.map_cons,List.map_nil,pd];rfl)
  |and=>rw[plain (by unfold basF;rw[B2.b_s];rfl),swB_l n (B2.b_s .and)];cases n<;>(simp only[List.map_cons,List.map_nil,pd];rfl)
  |or=>rw[plain (by unfold basF;rw[B2.b_s];rfl),swB_l n (B2.b_s .or)];cases n<;>(simp only[List.map_cons,List.map_nil,pd];rfl)
  |U=>rw[plain (by unfold basF;rw[B2.b_s];rfl),swB_l n (B2.b_s .U)];cases n<;>(simp only[List.map_cons,List.map_nil,pd];rfl)
  |R=>rw[plain (by unfold basF;rw[B2.b_s];rfl),swB_l n (B2.b_s .R)];cases n<;>(simp only[List.map_cons,List.map_nil,pd];rfl)
theorem vcNrm:∀(β:Type) (args:List TV) (k:List TV→List TV→Option β) (r:β),cNrm none args k=some r→∃res outs,k res outs=some r∧Valid glS Tryz.prog 32 args res outs:=fun β args k r hr=>by
 have h:EnvOk glS Tryz.prog (WNrm none):=by
  refine EnvOk.rec1 (fun b {β} args k=>cNrm b args k) (EnvOk.none.add vcBas) ?_ ?_ ?_
  ·intro β args k r hr
   unfold cNrm at hr
   split at hr
   ·split at hr
    ·rename_i hx;obtain⟨t,_,h,_⟩:=nrmX_out hx;exact not_ltB_zero h
    ·cases hr
   ·cases hr
  ·intro n ih β args k r hr
   unfold cNrm at hr
   split at hr
   ·split at hr
    ·rename_i hx
     obtain⟨t,h1,h2,h3,rfl⟩:=nrmX_out hx
     exact⟨_,_,hr,valid_of ih mixed Tryz.func32 (by kernel_rfl) (ev_nrm h1 (fun k hk=>by cases hk;exact Nat.lt_succ_iff.1 h2) h3 _)⟩
    ·cases hr
   ·cases hr
  ·intro β args k r hr
   unfold cNrm at hr
   split at hr
   ·split at hr
    ·rename_i hx
     obtain⟨t,h1,h2,h3,rfl⟩:=nrmX_out hx
     refine⟨t.ms+1,?_⟩
     simp only[cNrm,nrmX_of (b:=some (t.ms+1)) h1 (Nat.lt_succ_self _) h3]
     exact hr
    ·cases hr
   ·cases hr
 exact h β 32 args k r hr
end Go.Sd
set_option maxRecDepth 100000
namespace Go.Sc
open Go Go.Cm
theorem cntX_of {b:Option Nat} {x:D} {t:Pr} {n:Bool} (h:absD x=some t) (h1:ltB b t.sz):cntX b x n=some (min ((t.nf n).sz:Int) 5000):=by unfold cntX;rw[h];exact if_pos h1
theorem cntX_out {b:Option Nat} {x:D} {n:Bool} {v:Int} (h:cntX b x n=some v):∃t,absD x=some t∧ltB b t.sz∧v=min ((t.nf n).sz:Int) 5000:=by
 unfold cntX at h
 split at h
 ·rename_i t ht
  split at h
  ·rename_i hc;cases h;exact⟨t,ht,hc,rfl⟩
  ·cases h
 ·cases h
end Go.Sc
namespace Go.Sd
open Go Go.Cm Go.Proofs Go.Sc
theorem cap_eq {γ:Type} (q:List TV→List TV→Option γ) (v:Int) (m:Nat) (h:v=m∨(5000≤v∧5000≤m)):(if decide (v>5000)=true then q [.d false 0 (.int .i64 5000)] []else q [.d false 0 (.int .i64 v)] [])=q [.d false 0 (.int .i64 (min (m:Int) 5000))] []:=by
 by_cases c:v>5000
 ·rw[if_pos (by rw[decide_eq_true_eq];exact c),show min (m:Int) 5000=5000 by omega]
 ·rw[if_neg (by rw[decide_eq_true_eq];exact c),show min (m:Int) 5000=v by omega]
theorem ev_cnt {b:Option Nat} {x:D} {t:Pr} {n:Bool} (h:absD x=some t) (hb:∀k,b=some k→t.sz≤k) {γ:Type} (q:List TV→List TV→Option γ):
  evalF Tryz.prog (WCnt b) Tryz.f31 [.d true 5 x,.d true 0 (.bool n)] q=q [.d false 0 (.int .i64 (min ((t.nf n).sz:Int) 5000))] []:=by
 have key:∀{y:Pr} {a:D} {m:Bool},absD a=some y→y.sz<t.sz→cntX b a m=some (min ((y.nf m).sz:Int) 5000)∧∃o n l q,a=.ag [.str o,.str n,.sl 5 l,.int .i64 q]:=fun{y a m} h1 h2=>
  ⟨cntX_of h1 (ltB_le hb h2),absD_K h1⟩
 rcases absD_inv h with⟨op,nm,p,rfl,h1⟩|⟨op,nm,a,p,o,y,rfl,h1,h2,rfl⟩|⟨op,nm,a,c,p,o,y,z,rfl,h1,h2,h3,rfl⟩
 ·rw[N31.start]
  rcases h1 with⟨h1,rfl⟩|⟨h1,rfl⟩|⟨h1,rfl⟩
  ·have u:∀l:T8,(op.toList==l)=(oTrue==l):=fun l=>by rw[h1]
   simp only[u]
   rw[if_neg (by decide),if_neg (by decide),if_neg (by decide),N31.j1_eq,if_neg (by decide)]
   simp only[u]
   rw[if_neg (by decide),if_neg (by decide),if_neg (by decide),if_neg (by decide),if_neg (by decide),if_neg (by decide),N31.j0_eq,if_neg (by decide)]
   cases n<;>rfl
  ·have u:∀l:T8,(op.toList==l)=(oFalse==l):=fun l=>by rw[h1]
   simp only[u]
   rw[if_neg (by decide),if_neg (by decide),if_neg (by decide),N31.j1_eq,if_neg (by decide)]
   simp only[u]
   rw[if_neg (by decide),if_neg (by decide),if_neg (by decide),if_neg (by decide),if_neg (by decide),if_neg (by decide),N31.j0_eq,if_neg (by decide)]
   cases n<;>rfl
  ·rw[if_pos (by rw[h1];decide)]
   cases n<;>rfl
 ·have u:∀l:T8,(op.toList==l)=(U1.s o==l):=fun l=>by rw[h1]
  rw[N31.start]
  simp only[u]
  cases o with
  |no=>
   obtain⟨e,o1,n1,l1,q1,rfl⟩:=key (m:= !n) h2 (by simp only[Pr.sz];omega)
   rw[if_neg (by decide),if_pos (by decide)]
   simp only[List.getElem?_cons_zero,if_true,e]
   exact cap_eq q _ _ (by simp only[Pr.nf];omega)
  |X=>
   obtain⟨e,o1,n1,l1,q1,rfl⟩:=key (m:=n) h2 (by simp only[Pr.sz];omega)
   rw[if_neg (by decide),if_neg (by decide),if_neg (by decide),N31.j1_eq,if_neg (by decide)]
   simp only[u]
   rw[if_pos (by decide)]
   simp only[List.getElem?_cons_zero,if_true,e]
   rw[wrap_id (by omega) (by omega)]
   exact cap_eq q _ _ (by simp only[Pr.nf,Pr.sz];omega)
  |F=>
   have hs:((Pr.un .F y).nf n).sz=(y.nf n).sz+2:=by cases n<;>simp only[Pr.nf,Pr.sz]<;>omega
   obtain⟨e,o1,n1,l1,q1,rfl⟩:=key (m:=n) h2 (by simp only[Pr.sz];omega)
   rw[if_neg (by decide),if_neg (by decide),if_pos (by decide),N31.j1_eq,if_pos (by decide)]
   simp only[List.getElem?_cons_zero,if_true,e]
   rw[wrap_id (by omega) (by omega)]
   exact cap_eq q _ _ (by omega)
  |G=>
   have hs:((Pr.un .G y).nf n).sz=(y.nf n).sz+2:=by cases n<;>simp only[Pr.nf,Pr.sz]<;>omega
   obtain⟨e,o1,n1,l1,q1,rfl⟩:=key (m:=n) h2 (by simp only[Pr.sz];omega)
   rw[if_neg (by decide),if_neg (by decide),if_neg (by decide),N31.j1_eq,if_pos (by decide)]
   simp only[List.getElem?_cons_zero,if_true,e]
   rw[wrap_id (by omega) (by omega)]
   exact cap_eq q _ _ (by omega)
 ·have u:∀l:T8,(op.toList==l)=(B2.s o==l):=fun l=>by rw[h1]
  rw[N31.start]
  simp only[u]
  rw[if_neg (by cases o<;>decide),if_neg (by cases o<;>decide),if_neg (by cases o<;>decide),N31.j1_eq,if_neg (by cases o<;>decide)]
  simp only[u]
  have hs4:∀o:B2,(o=.and∨o=.or∨o=.U∨o=.R)→((Pr.bi o y z).nf n).sz=(y.nf n).sz+(z.nf n).sz+1:=fun o ho=>by
   rcases ho with rfl|rfl|rfl|rfl<;>simp only[Pr.nf,Pr.sz]
  have fin:(o=.and∨o=.or∨o=.U∨o=.R)→N31.J0 b op nm [a,c] p n q (N31.j0 op nm [a,c] p n true)=q [.d false 0 (.int .i64 (min (((Pr.bi o y z).nf n).sz:Int) 5000))] []:=fun ho=>by
   have hs:=hs4 o ho
   obtain⟨e,o1,n1,l1,q1,rfl⟩:=key (m:=n) h2 (by simp only[Pr.sz];omega)
   obtain⟨e',o2,n2,l2,q2,rfl⟩:=key (m:=n) h3 (by simp only[Pr.sz];omega)
   rw[N31.j0_eq,if_pos rfl]
   simp only[List.getElem?_cons_zero,List.getElem?_cons_succ,if_true,e,e']
   rw[wrap_id (show -9223372036854775808≤1+min ((y.nf n).sz:Int) 5000 by omega) (by omega),wrap_id (by omega) (by omega)]
   exact cap_eq q _ _ (by omega)
  cases o with
  |imp=>
   have hs:((Pr.bi .imp y z).nf n).sz=(y.nf (!n)).sz+(z.nf n).sz+1:=by cases n<;>simp only[Pr.nf,Pr.sz,Bool.not_true,Bool.not_false]
   obtain⟨e,o1,n1,l1,q1,rfl⟩:=key (m:= !n) h2 (by simp only[Pr.sz];omega)
   obtain⟨e',o2,n2,l2,q2,rfl⟩:=key (m:=n) h3 (by simp only[Pr.sz];omega)
   rw[if_neg (by decide),if_pos (by decide)]
   simp only[List.getElem?_cons_zero,List.getElem?_cons_succ,if_true,e,e']
   rw[wrap_id (show -9223372036854775808≤1+min ((y.nf !n).sz:Int) 5000 by omega) (by omega),wrap_id (by omega) (by omega)]
   exact cap_eq q _ _ (by omega)
  |W=>
   have hs:((Pr.bi .W y z).nf n).sz=(y.nf n).sz+2*(z.nf n).sz+2:=by cases n<;>simp only[Pr.nf,Pr.sz]<;>omega
   obtain⟨e,o1,n1,l1,q1,rfl⟩:=key (m:=n) h2 (by simp only[Pr.sz];omega)
   obtain⟨e',o2,n2,l2,q2,rfl⟩:=key (m:=n) h3 (by simp only[Pr.sz];omega)
   rw[if_neg (by decide),if_neg (by decide),if_pos (by decide)]
   simp only[List.getElem?_cons_zero,List.getElem?_cons_succ,if_true,e,e']
   rw[wrap_id (show -9223372036854775808≤2+min ((y.nf n).sz:Int) 5000 by omega) (by omega),wrap_id (show -9223372036854775808≤2*min ((z.nf n).sz:Int) 5000 by omega) (by omega),wrap_id (by omega) (by omega)]
   exact cap_eq q _ _ (by omega)
  |and=>rw[if_neg (by decide),if_neg (by decide),if_neg (by decide),if_pos (by decide)];exact fin (.inl rfl)
  |or=>rw[if_neg (by decide),if_neg (by decide),if_neg (by decide),if_neg (by decide),if_pos (by decide)];exact fin (.inr (.inl rfl))
  |U=>rw[if_neg (by decide),if_neg (by decide),if_neg (by decide),if_neg (by decide),if_neg (by decide),if_pos (by decide)];exact fin (.inr (.inr (.inl rfl)))
  |R=>rw[if_neg (by decide),if_neg (by decide),if_neg (by decide),if_neg (by decide),if_neg (by decide),if_neg (by decide)];exact fin (.inr (.inr (.inr rfl)))
theorem vcCnt:∀(β:Type) (args:List TV) (k:List TV→List TV→Option β) (r:β),cCnt none args k=some r→∃res outs,k res outs=some r∧Valid glS Tryz.prog 31 args res outs:=fun β args k r hr=>by
 have h:EnvOk glS Tryz.prog (WCnt none):=by
  refine EnvOk.rec1 (fun b {β} args k=>cCnt b args k) EnvOk.none ?_ ?_ ?_
  ·intro β args k r hr
   unfold cCnt at hr
   split at hr
   ·split at hr
    ·rename_i hx;obtain⟨t,_,h,_⟩:=cntX_out hx;exact not_ltB_zero h
    ·cases hr
   ·cases hr
  ·intro n ih β args k r hr
   unfold cCnt at hr
   split at hr
   ·split at hr
    ·rename_i hx
     obtain⟨t,h1,h2,rfl⟩:=cntX_out hx
     exact⟨_,_,hr,valid_of ih mixed Tryz.func31 (by kernel_rfl) (ev_cnt h1 (fun k hk=>by cases hk;exact Nat.lt_succ_iff.1 h2) _)⟩
    ·cases hr
   ·cases hr
  ·intro β args k r hr
   unfold cCnt at hr
   split at hr
   ·split at hr
    ·rename_i hx
     obtain⟨t,h1,h2,rfl⟩:=cntX_out hx
     refine⟨t.sz+1,?_⟩
     simp only[cCnt,cntX_of (b:=some (t.sz+1)) h1 (Nat.lt_succ_self _)]
     exact hr
    ·cases hr
   ·cases hr
 exact h β 31 args k r hr
end Go.Sd
set_option maxRecDepth 100000
namespace Go.Sd
open Go Go.Cm Go.Proofs Go.Sc
noncomputable def RN:Env:=(((((RT'.add 11 io0 (cToN none)).add 31 io0 (cCnt none)).add 32 io0 (cNrm none)).add 33 io0 (cShp none)).add 34 io0 (cBar none)).add 36 io0 (cSim none)
theorem env_rn:EnvOk glS Tryz.prog RN:=(((((env_rt.add vcToN).add vcCnt).add vcNrm).add vcShp).add vcBar).add vcSim
end Go.Sd
namespace Go.Sd
open Go Go.Cm Go.Proofs Go.Sc
set_option maxRecDepth 100000
namespace N8
noncomputable def X:Fx:=⟨Tryz.prog,RN,16,2⟩
theorem start {β:Type} (s:ByteArray) (n:Bool) (k:List TV→List TV→Option β):evalF Tryz.prog RN Tryz.f8 [.d true 0 (.str s),.d true 0 (.bool n)] k=if decide ((↑(ByteArray.size s):Int)>300)=true then k [.d false 0 (.bool true)] []else match parseP s (64:Int)with
   |PA.ok op7 nm8 ks9 p10=>match absD (.ag [D.str op7,D.str nm8,D.sl 5 ks9,D.int .i64 p10])with
    |some t14=>if Pr.sz t14≤5000 then if Pr.sz t14≤4096∧Pr.sz (Pr.nf t14 n)≤4096 then if toN none (.ag [D.str op7,D.str nm8,D.sl 5 ks9,D.int .i64 p10])=true then match cntX none (.ag [D.str op7,D.str nm8,D.sl 5 ks9,D.int .i64 p10]) n with
     |some v16=>if decide (v16>4096)=true then k [.d false 0 (.bool false)] []else if toN none (.ag [D.str op7,D.str nm8,D.sl 5 ks9,D.int .i64 p10])=true then match nrmX none (.ag [D.str op7,D.str nm8,D.sl 5 ks9,D.int .i64 p10]) n with
      |some t20=>if toN none (.ag [D.str (Pr.opb (Pr.nf t14 n)),D.str (Pr.nmb (Pr.nf t14 n)),D.sl 5 (Pr.ksd (Pr.nf t14 n)),D.int .i64 0])=true then match shpX none (.ag [D.str (Pr.opb (Pr.nf t14 n)),D.str (Pr.nmb (Pr.nf t14 n)),D.sl 5 (Pr.ksd (Pr.nf t14 n)),D.int .i64 0])with
       |some s22=>if barX none (.ag [D.str (Pr.opb t20),D.str (Pr.nmb t20),D.sl 5 (Pr.ksd t20),D.int .i64 0])=true then match shpX none (.ag [D.str (Pr.opb t20),D.str (Pr.nmb t20),D.sl 5 (Pr.ksd t20),D.int .i64 0])with
        |some s23=>if(!s22.toList==s23.toList)=true then k [.d false 0 (.bool false)] []else match ofD (.ag [D.str (Pr.opb (Pr.nf t14 n)),D.str (Pr.nmb (Pr.nf t14 n)),D.sl 5 (Pr.ksd (Pr.nf t14 n)),D.int .i64 0])with
         |some f27=>match absD (.ag [D.str (Pr.opb (Pr.nf t14 n)),D.str (Pr.nmb (Pr.nf t14 n)),D.sl 5 (Pr.ksd (Pr.nf t14 n)),D.int .i64 0])with
          |some t28=>if(Pr.ok t28=true∧Pr.sz t28≤4096)∧sameF f27 (Pr.fm t28)=true then if toN none (.ag [D.str (Pr.opb (Pr.simp t28)),D.str (Pr.nmb (Pr.simp t28)),D.sl 5 (Pr.ksd (Pr.simp t28)),D.int .i64 0])=true then match shpX none (.ag [D.str (Pr.opb (Pr.simp t28)),D.str (Pr.nmb (Pr.simp t28)),D.sl 5 (Pr.ksd (Pr.simp t28)),D.int .i64 0])with
           |some s30=>if barX none (.ag [D.str (Pr.opb t20),D.str (Pr.nmb t20),D.sl 5 (Pr.ksd t20),D.int .i64 0])=true then match simX none (.ag [D.str (Pr.opb t20),D.str (Pr.nmb t20),D.sl 5 (Pr.ksd t20),D.int .i64 0])with
            |some t31=>match shpX none (.ag [D.str (Pr.opb t31),D.str (Pr.nmb t31),D.sl 5 (Pr.ksd t31),D.int .i64 0])with
             |some s32=>if(s30.toList==s32.toList)=true then match ofD (.ag [D.str (Pr.opb (Pr.nf t14 n)),D.str (Pr.nmb (Pr.nf t14 n)),D.sl 5 (Pr.ksd (Pr.nf t14 n)),D.int .i64 0])with
              |some f33=>if bd none f33 then if isF f33=true then match ofD (.ag [D.str (Pr.opb (Pr.simp t28)),D.str (Pr.nmb (Pr.simp t28)),D.sl 5 (Pr.ksd (Pr.simp t28)),D.int .i64 0])with
               |some f34=>if bd none f34 then k [.d false 0 (.bool (isF f34))] []else none
               |none=>none else k [.d false 0 (.bool false)] []else none
              |none=>none else k [.d false 0 (.bool false)] []
             |none=>none
            |none=>none else none
           |none=>none else none else none
          |none=>none
         |none=>none
        |none=>none else none
       |none=>none else none
      |none=>none else none
     |none=>none else none else if toN none (.ag [D.str op7,D.str nm8,D.sl 5 ks9,D.int .i64 p10])=true then match cntX none (.ag [D.str op7,D.str nm8,D.sl 5 ks9,D.int .i64 p10]) n with
     |some v36=>if decide (v36>4096)=true then k [.d false 0 (.bool true)] []else if toN none (.ag [D.str op7,D.str nm8,D.sl 5 ks9,D.int .i64 p10])=true then match nrmX none (.ag [D.str op7,D.str nm8,D.sl 5 ks9,D.int .i64 p10]) n with
      |some t40=>k [.d false 0 (.bool false)] []
      |none=>none else none
     |none=>none else none else none
    |none=>none
   |PA.no n44=>k [.d false 0 (.bool true)] []
   |PA.er p48 n49=>k [.d false 0 (.bool true)] []
   |PA.bad=>none:=by kernel_rfl
end N8
end Go.Sd
set_option maxRecDepth 100000
namespace Go.Sc
open Go Go.Cm
theorem nf_lok:∀(t:Pr) (n:Bool),t.lok→(t.nf n).lok
 |.tt,n,_=>by cases n<;>trivial
 |.ff,n,_=>by cases n<;>trivial
 |.lab s,n,h=>by cases n<;>exact h
 |.un .no a,n,h=>by simp only[Pr.nf];exact nf_lok a _ h
 |.un .X a,n,h=>by simp only[Pr.nf];exact nf_lok a n h
 |.un .F a,n,h=>by cases n<;>exact⟨trivial,nf_lok a _ h⟩
 |.un .G a,n,h=>by cases n<;>exact⟨trivial,nf_lok a _ h⟩
 |.bi .imp a b,n,h=>by cases n<;>exact⟨nf_lok a _ h.1,nf_lok b _ h.2⟩
 |.bi .W a b,n,h=>by cases n<;>exact⟨nf_lok b _ h.2,nf_lok a _ h.1,nf_lok b _ h.2⟩
 |.bi .and a b,n,h=>by simp only[Pr.nf];exact⟨nf_lok a n h.1,nf_lok b n h.2⟩
 |.bi .or a b,n,h=>by simp only[Pr.nf];exact⟨nf_lok a n h.1,nf_lok b n h.2⟩
 |.bi .U a b,n,h=>by simp only[Pr.nf];exact⟨nf_lok a n h.1,nf_lok b n h.2⟩
 |.bi .R a b,n,h=>by simp only[Pr.nf];exact⟨nf_lok a n h.1,nf_lok b n h.2⟩
theorem shape_len:∀t:Pr,t.lok→t.shape.length≤50*t.sz
 |.tt,_=>by simp[Pr.shape,Pr.sz,oTrue]
 |.ff,_=>by simp[Pr.shape,Pr.sz,oFalse]
 |.lab s,h=>by
  have:s.toList.length≤32:=h.2.1
  simp only[Pr.shape,Pr.sz,oLabel,List.length_cons,List.length_append,List.length_nil];omega
 |.un o a,h=>by
  have ih:=shape_len a h
  have ho:o.s.length≤2:=by cases o<;>decide
  simp only[Pr.shape,Pr.sz,List.length_cons,List.length_append,List.length_nil];omega
 |.bi o a b,h=>by
  have i1:=shape_len a h.1
  have i2:=shape_len b h.2
  have ho:o.s.length≤2:=by cases o<;>decide
  simp only[Pr.shape,Pr.sz,List.length_cons,List.length_append,List.length_nil];omega
theorem ms_mul {a b c d m x y:Nat} (hx:x≤4*(a*b)) (hm:m≤4):x+m≤4*((a+1)*(b+1)):=by
 have:(a+1)*(b+1)=a*b+a+b+1:=by rw[Nat.add_mul,Nat.mul_add];omega
 omega
theorem ms_two {a b c d k x y:Nat} (hx:x≤4*(a*b)) (hy:y≤4*(c*d)) (hk:k≤2):x+k*y+4≤4*((a+c+1)*(b+k*d+1)):=by
 have e:(a+c+1)*(b+k*d+1)=a*b+c*(k*d)+(a*(k*d)+a+c*b+c+b+k*d+1):=by
  simp only[Nat.add_mul,Nat.mul_add,Nat.mul_one,Nat.one_mul];omega
 have f:c*(k*d)=k*(c*d):=by rw[←Nat.mul_assoc,Nat.mul_comm c k,Nat.mul_assoc]
 have g:k*y≤k*(4*(c*d)):=Nat.mul_le_mul_left k hy
 have g2:k*(4*(c*d))=4*(k*(c*d)):=by rw[←Nat.mul_assoc,Nat.mul_comm k 4,Nat.mul_assoc]
 omega
theorem ms_le:∀(t:Pr) (n:Bool),t.ms≤4*(t.sz*(t.nf n).sz)
 |.tt,n=>by cases n<;>simp[Pr.ms,Pr.sz,Pr.nf]
 |.ff,n=>by cases n<;>simp[Pr.ms,Pr.sz,Pr.nf]
 |.lab s,n=>by cases n<;>simp[Pr.ms,Pr.sz,Pr.nf]
 |.un .no a,n=>by
  have ih:=ms_le a (!n)
  have:=(a.nf (!n)).sz_pos
  simp only[Pr.ms,Pr.sz,Pr.nf,Nat.add_mul,Nat.one_mul];omega
 |.un .X a,n=>ms_mul (c:=0) (d:=0) (y:=0) (ms_le a n) (Nat.le_refl 4)
 |.un .F a,n=>by
  have h:=ms_mul (c:=0) (d:=0) (y:=0) (ms_le a n) (Nat.le_refl 4)
  have hs:((Pr.un .F a).nf n).sz=(a.nf n).sz+2:=by cases n<;>simp only[Pr.nf,Pr.sz]<;>omega
  refine Nat.le_trans h (Nat.mul_le_mul_left 4 (Nat.mul_le_mul (Nat.le_refl _) (by rw[hs];omega)))
 |.un .G a,n=>by
  have h:=ms_mul (c:=0) (d:=0) (y:=0) (ms_le a n) (Nat.le_refl 4)
  have hs:((Pr.un .G a).nf n).sz=(a.nf n).sz+2:=by cases n<;>simp only[Pr.nf,Pr.sz]<;>omega
  refine Nat.le_trans h (Nat.mul_le_mul_left 4 (Nat.mul_le_mul (Nat.le_refl _) (by rw[hs];omega)))
 |.bi .imp a b,n=>by
  have h:=ms_two (k:=1) (ms_le a (!n)) (ms_le b n) (by omega)
  have hs:((Pr.bi .imp a b).nf n).sz=(a.nf (!n)).sz+1*(b.nf n).sz+1:=by cases n<;>simp only[Pr.nf,Pr.sz,Bool.not_true,Bool.not_false]<;>omega
  rw[hs]
  simp only[Pr.ms,Pr.sz]
  omega
 |.bi .W a b,n=>by
  have h:=ms_two (k:=2) (ms_le a n) (ms_le b n) (by omega)
  have hs:((Pr.bi .W a b).nf n).sz=(a.nf n).sz+2*(b.nf n).sz+1+1:=by cases n<;>simp only[Pr.nf,Pr.sz]<;>omega
  refine Nat.le_trans (by simp only[Pr.ms];omega) (Nat.le_trans h (Nat.mul_le_mul_left 4 (Nat.mul_le_mul (Nat.le_refl _) (by rw[hs];omega))))
 |.bi .and a b,n=>by have h:=ms_two (k:=1) (ms_le a n) (ms_le b n) (by omega);simp only[Pr.ms,Pr.sz,Pr.nf];rw[Nat.one_mul]at h;rw[Nat.one_mul]at h;omega
 |.bi .or a b,n=>by have h:=ms_two (k:=1) (ms_le a n) (ms_le b n) (by omega);simp only[Pr.ms,Pr.sz,Pr.nf];rw[Nat.one_mul]at h;rw[Nat.one_mul]at h;omega
 |.bi .U a b,n=>by have h:=ms_two (k:=1) (ms_le a n) (ms_le b n) (by omega);simp only[Pr.ms,Pr.sz,Pr.nf];rw[Nat.one_mul]at h;rw[Nat.one_mul]at h;omega
 |.bi .R a b,n=>by have h:=ms_two (k:=1) (ms_le a n) (ms_le b n) (by omega);simp only[Pr.ms,Pr.sz,Pr.nf];rw[Nat.one_mul]at h;rw[Nat.one_mul]at h;omega
end Go.Sc
namespace Go.Sd
open Go Go.Cm Go.Proofs Go.Sc
theorem ev_tells (s:ByteArray) (n:Bool) {γ:Type} (q:List TV→List TV→Option γ):evalF Tryz.prog RN Tryz.f8 [.d true 0 (.str s),.d true 0 (.bool n)] q=q [.d false 0 (.bool true)] []:=by
 rw[N8.start]
 by_cases hs:(s.size:Int)>300
 ·rw[if_pos (by simpa using hs)]
 ·rw[if_neg (by simpa using hs)]
  cases hp:parseP s 64 with
  |no n=>rfl
  |er p n=>rfl
  |bad=>exact(parse_bad _ _ hp).elim
  |ok op nm ks p=>
   obtain⟨f,t,h1,h2,h3,h4⟩:=parse_ok hp
   obtain⟨f',t',g1,g2,g3,_⟩:=parse_lok hp
   have hx:absD (D.ag [D.str op,D.str nm,D.sl 5 ks,D.int .i64 p])=some t:=absD_of h1 h2
   have e:=absD_of g1 g2
   unfold fmD at e h1
   rw[hx]at e
   cases e
   have hz:t.sz≤301:=by omega
   have hN:NM (D.ag [D.str op,D.str nm,D.sl 5 ks,D.int .i64 p]) t:=⟨f,h1,h2,h3⟩
   have k1:=toN_of (b:=none) hx trivial (by omega)
   have k2:=cntX_of (b:=none) (n:=n) hx trivial
   dsimp only
   generalize hX:D.ag [D.str op,D.str nm,D.sl 5 ks,D.int .i64 p]=x at*
   by_cases hn:t.sz≤4096∧(t.nf n).sz≤4096
   ·have hl:=nf_lok t n g3
    have hm:t.ms≤1000000000:=by
     have:=ms_le t n
     have h':t.sz*(t.nf n).sz≤301*4096:=Nat.mul_le_mul hz hn.2
     omega
    have k3:=nrmX_of (b:=none) (n:=n) hN trivial hm
    have hsl:=simp_lok _ hl
    have hsz:=simp_sz (t.nf n)
    have k4:=toN_of (b:=none) (absD_fm (t.nf n)) trivial (by omega)
    have k5:=shpX_of (b:=none) (t:=t.nf n) trivial (by have:=shape_len _ hl;omega)
    have k6:=barX_of (b:=none) (t:=t.nf n) trivial (by omega)
    have k7:=toN_of (b:=none) (absD_fm (t.nf n).simp) trivial (by omega)
    have k8:=shpX_of (b:=none) (t:=(t.nf n).simp) trivial (by have:=shape_len _ hsl;omega)
    have k9:=simX_of (b:=none) (Pr.nf_ok t n) hl trivial hn.2
    have b1:bd none (t.nf n).fm:=⟨fm_sm _,trivial⟩
    have b2:bd none (t.nf n).simp.fm:=⟨fm_sm _,trivial⟩
    have i1:isF (t.nf n).fm=true:=(isF_abs _ _ (abs_fm _)).trans (Pr.nf_ok t n)
    have i2:isF (t.nf n).simp.fm=true:=(isF_abs _ _ (abs_fm _)).trans (simp_ok _ (Pr.nf_ok t n))
    have c5:t.sz≤5000:=by omega
    have c6:¬(decide (min ((t.nf n).sz:Int) 5000>4096)=true):=by rw[decide_eq_true_eq];have:=hn.2;omega
    have c7:((t.nf n).ok=true∧(t.nf n).sz≤4096)∧sameF (t.nf n).fm (t.nf n).fm=true:=⟨⟨Pr.nf_ok t n,hn.2⟩,same_refl _⟩
    simp only[hx,k1,k2,k3,pr_d,k4,k5,k6,ofD_d,absD_fm,k7,k8,k9,if_pos c5,if_pos hn,if_neg c6,if_pos c7,if_pos b1,i1,if_pos b2,i2,beq_self_eq_true,Bool.not_true,if_true]
    rfl
   ·have c5:t.sz≤5000:=by omega
    have c6:decide (min ((t.nf n).sz:Int) 5000>4096)=true:=by
     have:¬(t.nf n).sz≤4096:=fun h=>hn ⟨by omega,h⟩
     rw[decide_eq_true_eq];omega
    simp only[hx,k1,k2,if_pos c5,if_neg hn,if_pos c6,if_true]
theorem nnfTells_valid (s:ByteArray) (n:Bool):Valid glS Tryz.prog 8 [.d true 0 (.str s),.d true 0 (.bool n)] [.d false 0 (.bool true)] []:=
 valid_of env_rn mixed Tryz.func8 (by kernel_rfl) (ev_tells s n _)
end Go.Sd
namespace Go.Cm
inductive Sc where
 |int (k:IntKind)
 |bool
 |str
 |sl (e:Sc)
 |st (fs:List Sc)
mutual
def Sc.n:Sc→Nat
 |.st fs=>Sc.nL fs
 |.int _=>1
 |.bool=>1
 |.str=>1
 |.sl _=>1
def Sc.nL:List Sc→Nat
 |[]=>0
 |f::fs=>f.n+Sc.nL fs
end
def Sc.sh:Sc→Nat
 |.st fs=>Sc.nL fs+1
 |_=>0
mutual
def Fits:Sc→List D→Prop
 |.int k,ys=>∃n,ys=[.int k n]∧(Lit.int k n).wf=true
 |.bool,ys=>∃b,ys=[.bool b]
 |.str,ys=>∃s:ByteArray,ys=[.str s]∧s.size≤maxLen
 |.sl e,ys=>∃xs,ys=[.sl e.sh xs]∧xs.length≤maxLen∧∀x∈xs,x.shape=e.sh∧Fits e x.cells
 |.st fs,ys=>FitsL fs ys
def FitsL:List Sc→List D→Prop
 |[],ys=>ys=[]
 |f::fs,ys=>∃a b,ys=a++b∧Fits f a∧FitsL fs b
end
mutual
def Sc.okB (P:Program):Sc→TypeId→Bool
 |.int k,t=>match P.underlying t with|some (.int j)=>decide (j=k)|_=>false
 |.bool,t=>match P.underlying t with|some .bool=>true|_=>false
 |.str,t=>match P.underlying t with|some .string=>true|_=>false
 |.sl e,t=>match P.underlying t with|some (.slice u)=>e.okB P u&&Nat.beq (P.cellsOf u) e.n&&Nat.blt 0 e.n|_=>false
 |.st fs,t=>match P.underlying t with|some (.struct gs)=>Nat.beq (P.cellsOf t) (Sc.nL fs)&&Sc.okL P fs gs.toList 0|_=>false
def Sc.okL (P:Program):List Sc→List Field→Nat→Bool
 |[],gs,_=>match gs with|[]=>true|_=>false
 |f::fs,gs,o=>match gs with
  |g::gs=>Nat.beq g.offset o&&Nat.beq (P.cellsOf g.type) f.n&&f.okB P g.type&&Sc.okL P fs gs (o+f.n)
  |[]=>false
end
def mkEl (e:Sc) (ys:List D):D:=match e with|.st _=>.ag ys|_=>ys.headD .nilp
theorem cells_one {y z:D} (hs:y.shape=0) (h:y.cells=[z]):y=z:=by
 cases y<;>simp only[D.cells,List.cons.injEq,and_true]at h<;>first|exact h|(simp[D.shape]at hs)
theorem Fits.of_bool {y:D} (hs:y.shape=Sc.bool.sh) (h:Fits .bool y.cells):∃b,y=.bool b:=by
 obtain⟨n,e1⟩:=h
 exact⟨n,cells_one hs e1⟩
section
variable {H:Type} {enc:TypeId×Value→H} {P:Program} {w:World} {base:Nat} {sp:Nat→Bool}
abbrev Fw (w:World):Nat→Prop:=fun b=>b<w.heap.size
theorem ra_one {H:Hp} {F:Nat→Prop} {x:D} {u:Value} (h:RA H F x u) (hs:x.shape=0):u.cells= #[u]:=by
 cases x<;>simp only[RA]at h<;>try (first|(subst h;rfl)|(obtain⟨_,rfl,_⟩:=h;rfl)|(obtain⟨_,_,rfl,_⟩:=h;rfl)|(obtain⟨_,_,_,_,_,rfl,_⟩:=h;rfl))
 simp[D.shape]at hs
theorem Fits.len' (τ:Sc):∀ys:List D,Fits τ ys→ys.length=τ.n:=by
 refine Sc.rec (motive_1:=fun τ=>∀ys,Fits τ ys→ys.length=τ.n) (motive_2:=fun fs=>∀ys,FitsL fs ys→ys.length=Sc.nL fs) ?_ ?_ ?_ ?_ ?_ ?_ ?_ τ
 ·rintro k ys ⟨n,rfl,_⟩;rfl
 ·rintro ys ⟨b,rfl⟩;rfl
 ·rintro ys ⟨s,rfl,_⟩;rfl
 ·rintro e _ ys ⟨xs,rfl,_⟩;rfl
 ·intro fs ih ys h;exact ih ys h
 ·intro ys h;simp only[FitsL]at h;subst h;rfl
 ·rintro f fs ih1 ih2 ys ⟨a,b,rfl,h1,h2⟩
  simp only[List.length_append,Sc.nL,ih1 a h1,ih2 b h2]
theorem Fits.len {τ:Sc} {ys:List D} (h:Fits τ ys):ys.length=τ.n:=Fits.len' τ ys h
theorem mkEl_shape {e:Sc} {ys:List D} (h:Fits e ys) (hs:∀y∈ys,y.shape=0):(mkEl e ys).shape=e.sh∧(mkEl e ys).cells=ys:=by
 have hl:=Fits.len h
 cases e with
 |st fs=>simp only[mkEl,D.shape,Sc.sh,D.cells];exact⟨by rw[hl];rfl,trivial⟩
 |int k=>
  obtain⟨n,rfl,_⟩:=h;exact⟨rfl,rfl⟩
 |bool=>obtain⟨b,rfl⟩:=h;exact⟨rfl,rfl⟩
 |str=>obtain⟨s,rfl,_⟩:=h;exact⟨rfl,rfl⟩
 |sl e=>obtain⟨xs,rfl,_⟩:=h;exact⟨rfl,rfl⟩
theorem mkEl_ra {e:Sc} {ys:List D} (h:Fits e ys) (hs:∀y∈ys,y.shape=0) {Hh:Hp} {F:Nat→Prop} {cs:List Value} (hr:RL Hh F ys cs):∃u,RA Hh F (mkEl e ys) u∧u.cells.toList=cs:=by
 have one:∀y,ys=[y]→mkEl e ys=y→∃u,RA Hh F (mkEl e ys) u∧u.cells.toList=cs:=by
  rintro y rfl he
  simp only[RL]at hr
  obtain⟨u,r,rfl,hu,rfl⟩:=hr
  exact⟨u,by rw[he];exact hu,by rw[ra_one hu (hs y (.head _))]⟩
 cases e with
 |st fs=>exact⟨.agg cs.toArray,by simp only[mkEl,RA];exact⟨cs,rfl,hr,hs⟩,by simp[Value.cells]⟩
 |int k=>obtain⟨n,rfl,_⟩:=h;exact one _ rfl rfl
 |bool=>obtain⟨b,rfl⟩:=h;exact one _ rfl rfl
 |str=>obtain⟨s,rfl,_⟩:=h;exact one _ rfl rfl
 |sl e=>obtain⟨xs,rfl,_⟩:=h;exact one _ rfl rfl
theorem open_elems {e:Sc} {a:Addr} {z:Nat} (hz:0<z) (he:e.n=z) {b:Nat} (hb:a.block=b) {off0:Nat} (hoff:a.off=off0) {cs:Array Value} {ety:TypeId} {fr:Nat×Nat} (hcs:w.heap[b]? =some (.cells cs ety fr)):
  ∀(len i0:Nat),(∀i,i0≤i→i<i0+len→∃ci ys,(∀r,r<z→cs[off0+i*z+r]? =ci[r]?)∧ci.length=z∧Fits e ys∧RL (hp w) (Fw w) ys ci∧∀y∈ys,y.shape=0)→
   ∃xs us,xs.length=len∧RF (hp w) (Fw w) xs us∧(∀x∈xs,x.shape=e.sh∧Fits e x.cells)∧us.length=len*z∧∀(j:Nat) u,us[j]? =some u→cs[off0+i0*z+j]? =some u
 |0,i0,_=>⟨[],[],rfl,by simp[RF],by simp,by simp,by simp⟩
 |len+1,i0,h=>by
  obtain⟨ci,ys,h1,h2,h3,h4,h5⟩:=h i0 (Nat.le_refl _) (by omega)
  obtain⟨xs,us,g1,g2,g3,g4,g5⟩:=open_elems hz he hb hoff hcs len (i0+1) fun i hi hlt=>h i (by omega) (by omega)
  obtain⟨u,k1,k2⟩:=mkEl_ra h3 h5 h4
  obtain⟨q1,q2⟩:=mkEl_shape h3 h5
  refine⟨mkEl e ys::xs,ci++us,by simp[g1],?_,?_,?_,?_⟩
  ·simp only[RF];exact⟨u,us,by rw[k2],k1,g2⟩
  ·intro x hx
   rcases List.mem_cons.1 hx with rfl|hx
   ·exact⟨q1,by rw[q2];exact h3⟩
   ·exact g3 x hx
  ·rw[List.length_append,h2,g4,Nat.add_mul,Nat.one_mul];omega
  ·intro j v hj
   by_cases hjz:j<z
   ·rw[List.getElem?_append_left (by omega)]at hj
    rw[h1 j hjz];exact hj
   ·rw[List.getElem?_append_right (by omega)]at hj
    have:=g5 _ v hj
    rw[Nat.add_mul,Nat.one_mul]at this
    rw[←this]
    congr 1;omega
theorem cell_cells {a:Addr} {v:Value} (h:w.cell? a=some v):a.spot=none∧∃cs e fr,w.heap[a.block]? =some (.cells cs e fr)∧cs[a.off]? =some v:=by
 unfold World.cell? at h
 split at h
 ·rename_i cs e fr hc
  split at h
  ·cases h
  ·rename_i hs
   exact⟨by simpa using hs,cs,e,fr,hc,h⟩
 ·cases h
theorem add_at {a:Addr} (h:a.spot=none) (n:Nat):a.add n=⟨a.block,a.off+n,none⟩:=by
 obtain⟨b,o,s⟩:=a
 simp only at h
 subst h
 unfold Addr.add
 by_cases hn:n=0<;>simp[hn]
theorem open_sc:∀(τ:Sc) (t:TypeId) (cs:List Value) (fuel:Nat) (x:DataW H×List MemPlace),τ.okB P t=true→DataW.trod enc P w base sp true fuel t cs=some x→
  cs.length=τ.n∧∃ys,Fits τ ys∧RL (hp w) (Fw w) ys cs∧∀y∈ys,y.shape=0:=by
 refine Sc.rec (motive_1:=fun τ=>∀(t:TypeId) (cs:List Value) (fuel:Nat) (x:DataW H×List MemPlace),τ.okB P t=true→DataW.trod enc P w base sp true fuel t cs=some x→cs.length=τ.n∧∃ys,Fits τ ys∧RL (hp w) (Fw w) ys cs∧∀y∈ys,y.shape=0)
  (motive_2:=fun fs=>∀(gs:List Field) (o:Nat) (cs:List Value) (n:Nat),Sc.okL P fs gs o=true→(∀(i:Nat) g,gs[i]? =some g→∃x:DataW H×List MemPlace,DataW.trod enc P w base sp true n g.type ((cs.drop g.offset).take (P.cellsOf g.type))=some x)→
   ∃ys,FitsL fs ys∧RL (hp w) (Fw w) ys ((cs.drop o).take (Sc.nL fs))∧∀y∈ys,y.shape=0) ?_ ?_ ?_ ?_ ?_ ?_ ?_
 ·intro k t cs fuel x hok h
  simp only[Sc.okB]at hok
  split at hok
  ·rename_i j hu
   have:j=k:=by simpa using hok
   subst this
   obtain⟨n,rfl,_,hw⟩:=DataW.trod_int hu h
   exact⟨rfl,[.int j n],⟨n,rfl,hw⟩,by simp[RL,RA],by simp[D.shape]⟩
  ·cases hok
 ·intro t cs fuel x hok h
  simp only[Sc.okB]at hok
  split at hok
  ·rename_i hu
   obtain⟨b,rfl,_⟩:=DataW.trod_bool hu h
   exact⟨rfl,[.bool b],⟨b,rfl⟩,by simp[RL,RA],by simp[D.shape]⟩
  ·cases hok
 ·intro t cs fuel x hok h
  simp only[Sc.okB]at hok
  split at hok
  ·rename_i hu
   obtain⟨s,rfl,_,hs⟩:=DataW.trod_string hu h
   exact⟨rfl,[.str s],⟨s,rfl,hs⟩,by simp[RL,RA],by simp[D.shape]⟩
  ·cases hok
 ·intro e ih t cs fuel x hok h
  simp only[Sc.okB]at hok
  split at hok
  ·rename_i u hu
   simp only[Bool.and_eq_true,Nat.beq_eq,Nat.blt_eq]at hok
   obtain⟨⟨hok,hcu⟩,hpos⟩:=hok
   rcases DataW.trod_slice hu h with⟨rfl,_⟩|⟨a,len,cap,elems,rest,n,_,rfl,_,_,hlc,hcap,hel,hat,_,_⟩
   ·exact⟨rfl,[.sl e.sh []],⟨[],rfl,by simp,by simp⟩,by simp only[RL,RA];exact⟨_,[],rfl,⟨none,0,rfl,by simp,by simp,by simp,[],by simp[RF],by simp⟩,rfl⟩,by simp[D.shape]⟩
   ·have each:∀i,i<len→∃ci ys,(∀r,r<e.n→w.cell? ((a.add (i*e.n)).add r)=ci[r]?)∧ci.length=e.n∧Fits e ys∧RL (hp w) (Fw w) ys ci∧∀y∈ys,y.shape=0:=by
     intro i hi
     have h1:=hat i hi
     rw[List.getElem?_eq_getElem (by omega),Option.bind_eq_some_iff]at h1
     obtain⟨ci,hc,ht⟩:=h1
     obtain⟨_,h2,h3⟩:=World.cells?_some hc
     obtain⟨h4,ys,h5,h6,h7⟩:=ih u ci n _ hok ht
     rw[hcu]at h2 h3
     exact⟨ci,ys,h3,h2,h5,h6,h7⟩
    by_cases hl0:len=0
    ·subst hl0
     refine⟨rfl,[.sl e.sh []],⟨[],rfl,by simp,by simp⟩,?_,by simp[D.shape]⟩
     simp only[RL,RA]
     exact⟨_,[],rfl,⟨some a,cap,rfl,by simp,by simp,by simp,[],by simp[RF],by simp⟩,rfl⟩
    ·obtain⟨c0,_,q1,q2,_⟩:=each 0 (by omega)
     have q3:=q1 0 hpos
     rw[List.getElem?_eq_getElem (by omega)]at q3
     rw[Nat.zero_mul]at q3
     have e0:(a.add 0).add 0=a:=by simp[Addr.add]
     rw[e0]at q3
     obtain⟨hs,cells,ety,fr,hb,_⟩:=cell_cells q3
     have key:∀i r,i<len→r<e.n→w.cell? ((a.add (i*e.n)).add r)=cells[a.off+i*e.n+r]? :=by
      intro i r hi hr
      rw[add_at hs,add_at (by rfl)]
      simp only[World.cell?,hb,Option.isSome_none,Bool.false_eq_true,if_false]
     obtain⟨xs,us,g1,g2,g3,g4,g5⟩:=open_elems (w:=w) (e:=e) hpos rfl rfl rfl hb len 0 fun i _ hi=>by
      obtain⟨ci,ys,p1,p2,p3,p4,p5⟩:=each i (by omega)
      exact⟨ci,ys,fun r hr=>by rw[←key i r (by omega) hr];exact p1 r hr,p2,p3,p4,p5⟩
     refine⟨rfl,[.sl e.sh xs],⟨xs,rfl,by omega,g3⟩,?_,by simp[D.shape]⟩
     simp only[RL,RA]
     refine⟨_,[],rfl,⟨some a,cap,by rw[g1],by omega,by simp,fun x hx=>(g3 x hx).1,us,g2,fun _=>⟨a,rfl,(Array.getElem?_eq_some_iff.1 hb).1,hs,cells,ety,fr,hb,fun j u hj=>?_⟩⟩,rfl⟩
     have:=g5 j u hj
     rwa [Nat.zero_mul,Nat.add_zero]at this
  ·cases hok
 ·intro fs ih t cs fuel x hok h
  simp only[Sc.okB]at hok
  split at hok
  ·rename_i gs hu
   simp only[Bool.and_eq_true,Nat.beq_eq]at hok
   obtain⟨xs,n,_,_,hl,hxl,hat⟩:=DataW.trod_struct hu h
   obtain⟨ys,h1,h2,h3⟩:=ih gs.toList 0 cs n hok.2 fun i g hg=>by
    have hi:=hat i g (by simpa using hg)
    have hlt:i<gs.size:=by simpa using(List.getElem?_eq_some_iff.1 hg).1
    rw[List.getElem?_eq_getElem (by omega)]at hi
    exact⟨_,hi⟩
   rw[List.drop_zero,List.take_of_length_le (by rw[hl,hok.1];exact Nat.le_refl _)]at h2
   exact⟨hl.trans hok.1,ys,h1,h2,h3⟩
  ·cases hok
 ·intro gs o cs n hok _
  exact⟨[],rfl,by simp[RL,Sc.nL],by simp⟩
 ·intro f fs ih1 ih2 gs o cs n hok hat
  cases gs with
  |nil=>simp[Sc.okL]at hok
  |cons g gs=>
   simp only[Sc.okL,Bool.and_eq_true,Nat.beq_eq]at hok
   obtain⟨⟨⟨h1,h2⟩,h3⟩,h4⟩:=hok
   obtain⟨x,hx⟩:=hat 0 g rfl
   obtain⟨k1,ys,k2,k3,k4⟩:=ih1 g.type _ n x h3 hx
   obtain⟨zs,l1,l2,l3⟩:=ih2 gs (o+f.n) cs n h4 fun i g' hg=>hat (i+1) g' (by simpa using hg)
   rw[h1,h2]at k3
   refine⟨ys++zs,⟨ys,zs,rfl,k2,l1⟩,?_,fun y hy=>(List.mem_append.1 hy).elim (k4 y) (l3 y)⟩
   have e:(cs.drop o).take (Sc.nL (f::fs))=(cs.drop o).take f.n++(cs.drop (o+f.n)).take (Sc.nL fs):=by
    simp only[Sc.nL]
    rw[List.take_add,List.drop_drop]
   rw[e]
   exact RL.append k3 l2
theorem open_in {τ:Sc} {t:TypeId} {v:Value} {d:DataW H} {ps:List MemPlace} {w':World} {r:Reach} {b0:Nat} (hok:τ.okB P t=true) (hw:Value.okWide P w' r b0 t v) (h:DataW.Trod enc P w base sp true t v d ps):
  ∃y,RA (hp w) (Fw w) y v∧y.shape=τ.sh∧Fits τ y.cells:=by
 obtain⟨fuel,h⟩:=h
 obtain⟨h1,ys,h2,h3,h4⟩:=open_sc τ t _ fuel _ hok h
 have one:τ.sh=0→v.cells= #[v]→∃y,RA (hp w) (Fw w) y v∧y.shape=τ.sh∧Fits τ y.cells:=by
  intro h0 hv
  rw[hv]at h3
  have hl:=RL.length h3
  match ys,hl with
  |[y],_=>
   simp only[RL]at h3
   obtain⟨u,rr,e,hu,_⟩:=h3
   cases e
   have hs:=h4 y (.head _)
   have hc:y.cells=[y]:=by cases y<;>first|rfl|(simp[D.shape]at hs)
   exact⟨y,hu,by rw[hs,h0],by rw[hc];exact h2⟩
 cases τ with
 |int k=>
  simp only[Sc.okB]at hok
  split at hok
  ·rename_i hu;obtain⟨n,rfl⟩:=WideShapes.okWide_int hu hw;exact one rfl rfl
  ·cases hok
 |bool=>
  simp only[Sc.okB]at hok
  split at hok
  ·rename_i hu;obtain⟨n,rfl⟩:=WideShapes.okWide_bool hu hw;exact one rfl rfl
  ·cases hok
 |str=>
  simp only[Sc.okB]at hok
  split at hok
  ·rename_i hu;obtain⟨n,rfl⟩:=WideShapes.okWide_string hu hw;exact one rfl rfl
  ·cases hok
 |sl e=>
  simp only[Sc.okB]at hok
  split at hok
  ·rename_i hu;obtain⟨a,len,cap,rfl⟩:=WideShapes.okWide_slice hu hw;exact one rfl rfl
  ·cases hok
 |st fs=>
  simp only[Sc.okB]at hok
  split at hok
  ·rename_i gs hu
   simp only[Value.okWide,hu]at hw
   obtain⟨cs,rfl,_⟩:=hw
   refine⟨.ag ys,?_,?_,h2⟩
   ·simp only[RA];exact⟨cs.toList,by simp,h3,h4⟩
   ·simp only[D.shape,Sc.sh];rw[Fits.len h2];rfl
  ·cases hok
end
end Go.Cm
namespace Go.Cm
open Go.RowKit
section
variable {P:Program} {gl:Gl}
inductive ArgsD (W:World):List TV→List Value→Prop where
 |nil:ArgsD W [] []
 |cons {x:D} {u:Value} {sh:Nat} {xs:List TV} {us:List Value}:RA (hp W) (Fw W) x u→x.shape=sh→ArgsD W xs us→ArgsD W (.d true sh x::xs) (u::us)
theorem ArgsD.rt {W:World} {xs:List TV} {us:List Value} (h:ArgsD W xs us):RTs (hp W) (Fin W [] (fun _=>True)) xs us []:=by
 induction h with
 |nil=>simp[RTs]
 |cons h hs _ ih=>
  simp only[RTs]
  refine⟨_,_,[],[],rfl,rfl,?_,ih⟩
  simp only[RT]
  exact⟨trivial,hs,RA.mono (fun b hb=>⟨⟨hb,by simp,rfl,trivial⟩,rfl⟩) _ _ h⟩
theorem ArgsD.als {W:World} {xs:List TV} {us:List Value} (h:ArgsD W xs us) {H:Hp} {F:Fr}:Als H F xs us:=by
 have no:∀(j:Nat) t b f avs,xs[j]? ≠some (.fc t b f avs):=by
  induction h with
  |nil=>intro j t b f avs e;simp at e
  |cons h hs _ ih=>
   intro j t b f avs e
   cases j with
   |zero=>simp at e
   |succ j=>exact ih j t b f avs (by simpa using e)
 exact fun j t b f avs e=>(no j t b f avs e).elim
theorem calls_of_runs' {f:FuncId} {fn:Func} {args:Array Value} {w:World} {R:Ending→World→Prop} (hf:P.funcs[f]? =some fn) (hn:(fn.name== "runtime.NumGoroutine")=false) (hb:fn.body.isSome=true)
  (h:Runs P f args w R):Calls P f args w R:=by
 have hb':fn.body.isNone=false:=by cases hx:fn.body<;>simp[hx]at hb ⊢
 have e:(callFunc f args).run P w=.ok (.enter f args) w:=by
  simp only[callFunc,Sem.run_bind,run_program,Result.andThen,hf,hn,hb',Bool.false_eq_true,if_false,Sem.run_pure]
 unfold Runs at h
 rw[e]at h
 exact h
theorem calls_true' {f:FuncId} {fn:Func} {args:List TV} {us:List Value} (hf:P.funcs[f]? =some fn) (hn:(fn.name== "runtime.NumGoroutine")=false) (hb:fn.body.isSome=true)
  (hv:Valid gl P f args [.d false 0 (.bool true)] []) {W:World} (hG:gl.G W) (hr:ArgsD W args us):
  Calls P f us.toArray W fun e W'=>e=.returned (.bool true)∧Below W.heap.size W W':=by
 have h:=hv W us [] (fun _=>True) ⟨hG,fun _ _=>by simp⟩ hr.rt hr.als List.nodup_nil
 refine(calls_of_runs' hf hn hb h).mono fun e W'=>?_
 rintro⟨rs,M',rfl,B⟩
 have hl:=B.len
 have hrt:=B.rt
 match rs,hl with
 |[r],_=>
  rw[List.append_nil,List.cons_append,RTs]at hrt
  obtain⟨u,rest,M1,M2,e1,_,h1,_⟩:=hrt
  simp only[RT,RA]at h1
  cases e1
  rw[h1.2.2]
  exact⟨rfl,B.os,B.tape,B.output,B.size,fun b hb=>B.old b hb (by simp)⟩
theorem shut_arg {H:Type} {enc:TypeId×Value→H} {t:TypeId} {W W':World} {v:Value} {d:DataW H} {ps:List MemPlace} (hl:laidOutB P=true) (hr:P.readableRec t=true) (hrow:t<P.types.size)
  (h:DataW.Trod enc P W 0 (fun _=>true) true t v d ps) (hb:Below W.heap.size W W'):DataW.Trod enc P W' 0 (fun b=>decide (b<W.heap.size)) true t v d ps:=by
 refine Below.trod hl hr hrow h hb fun x hx=>?_
 obtain⟨fuel,hf⟩:=h
 exact DataW.trod_lt fuel t _ _ hf x hx
end
end Go.Cm

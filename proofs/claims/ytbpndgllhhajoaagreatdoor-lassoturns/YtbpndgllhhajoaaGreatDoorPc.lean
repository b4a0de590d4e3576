/- The parser of formulas: contracts of its small functions, and of those that call the rest. -/
import Derived.Test.YtbpndgllhhajoaaGreatDoorPb
import Derived.Test.YtbpndgllhhajoaaGreatDoorPa
set_option linter.unusedVariables false
set_option linter.unusedSimpArgs false
namespace Go.Sd
open Go Go.Cm Go.Proofs Go.Sc
set_option maxRecDepth 100000
theorem envq0:EnvOk glS Tryz.prog Q0:=env_num env24
theorem envq1:EnvOk glS Tryz.prog Q1:=envq0.fn mixed Tryz.func42 (by kernel_rfl) fun β args k r hr=>by
 unfold cAt at hr
 split at hr
 ·rename_i xs a d n
  unfold chkK at hr
  split at hr
  ·rename_i h0
   split at hr
   ·rename_i c t p hx
    refine⟨_,_,hr,fun q=>?_⟩
    rw[A57.start,if_pos h0,hx];rfl
   ·cases hr
  ·cases hr
 ·cases hr
theorem envq2:EnvOk glS Tryz.prog Q2:=envq1.fn mixed Tryz.func94 (by kernel_rfl) fun β args k r hr=>by
 unfold cTwo at hr
 split at hr
 ·rename_i op o1 n1 k1 p1 o2 n2 k2 p2
  refine⟨_,_,hr,fun q=>?_⟩
  rw[A107.start];rfl
 ·cases hr
theorem ansP_out {β:Type} {o:Int→TV} {k:List TV→List TV→Option β} {x:PR} {r:β} (h:ansP o k x=some r):
  ∃res outs,k res outs=some r∧∀{γ:Type} (q:List TV→List TV→Option γ),ansP o q x=q res outs:=by
 cases x with
 |ok op nm ks p a=>exact⟨_,_,h,fun q=>rfl⟩
 |syn p a=>exact⟨_,_,h,fun q=>rfl⟩
 |deep p a=>exact⟨_,_,h,fun q=>rfl⟩
 |no=>cases h
theorem ansP_no {β:Type} {o:Int→TV} {k:List TV→List TV→Option β}:ansP o k .no=none:=rfl
def Ev (B:Bd) (fn:Func) (c:{β:Type}→List TV→(List TV→List TV→Option β)→Option β):Prop:=
 ∀(β:Type) (args:List TV) (k:List TV→List TV→Option β) (r:β),c args k=some r→∃res outs,k res outs=some r∧∀{γ:Type} (q:List TV→List TV→Option γ),evalF Tryz.prog (QP B) fn args q=q res outs
theorem EnvOk.upd {B:Bd} {E':Env} {f:FuncId} {fn:Func} {c:{β:Type}→List TV→(List TV→List TV→Option β)→Option β} (h:EnvOk glS Tryz.prog (QP B)) (hf:Tryz.prog.funcs[f]? =some fn) (hn:(fn.name== "runtime.NumGoroutine")=false) (hc:Ev B fn c)
  (hE:∀(β:Type) (g:FuncId) (args:List TV) (k:List TV→List TV→Option β) (r:β),E'.c g args k=some r→(QP B).c g args k=some r∨(g=f∧c args k=some r)):EnvOk glS Tryz.prog E':=by
 intro β g args k r hr
 rcases hE β g args k r hr with h1|⟨rfl,h1⟩
 ·exact h β g args k r h1
 ·obtain⟨res,outs,h2,h3⟩:=hc β args k r h1
  exact⟨res,outs,h2,valid_of h mixed hf hn (h3 _)⟩
theorem okP_mono {xs:List D} {a d lv:Int} {m n:Nat} (h:okP xs a d lv m) (hn:m≤n):okP xs a d lv n:=⟨h.1,h.2.1,h.2.2.1,h.2.2.2.1,h.2.2.2.2.1,Nat.lt_of_lt_of_le h.2.2.2.2.2 hn⟩
theorem okP_at {xs:List D} {a d lv b:Int} {n:Nat} (h:okP xs a d lv n) (hb:a≤b):okP xs b d lv n:=⟨h.1,Int.le_trans h.2.1 hb,h.2.2⟩
theorem wlv {lv:Int} (h1: -1≤lv) (h2:lv≤1001):IntKind.wrap .i64 (lv+1)=lv+1:=wrap_id (by omega) (by omega)
theorem Lp_unfold {σ α:Type} {f:σ→Option (σ ⊕ α)} {s s':σ} (h:f s=some (.inl s')):Lp f s=Lp f s':=by
 cases h2:Lp f s' with
 |some r=>exact Lp_step h h2
 |none=>
  cases h3:Lp f s with
  |none=>rfl
  |some r=>
   obtain⟨n,hn⟩:=Lp.of_some h3
   cases n with
   |zero=>simp[Lp.iter]at hn
   |succ n=>
    simp only[Lp.iter,h]at hn
    rw[Lp.eq_of hn]at h2;cases h2
theorem right_round {B:Bd} {xs:List D} {a d lv:Int} (h:okP xs a d (lv+1) B.nu) (o nm:ByteArray) (ks:List D) (p:Int) (s1 s2 s3:ByteArray) {β:Type} (q:List TV→List TV→Option β):
  ∀(ops:List ByteArray) (i:Nat),[s1,s2,s3].drop i=ops→i≤3→rightP xs (pUntl xs (d - lv).toNat) o nm ks p ops a≠.no→
   goLp (D81u.X B) [((0:Nat),(1152:Nat))] (sub [(1:Nat),(0:Nat),(1:Nat),(0:Nat),(0:Nat)] (body Tryz.f65)) [Kf.block (0:Nat) (1152:Nat),Kf.seq [] (sub [(1:Nat),(1:Nat)] (body Tryz.f65)) (3072:Nat)]
    (finK Tryz.prog Tryz.f65 [pars xs a d,TV.d true 0 (D.int .i64 lv),TV.d true 5 (fmD o nm ks p),TV.fc true true 64 [(0,false)],TV.d true 0 (.sl 0 [.str s1,.str s2,.str s3])] q)
    (D81u.s0 xs a d lv o nm ks p s1 s2 s3 i)=ansP (fun a=>pars xs a d) q (rightP xs (pUntl xs (d - lv).toNat) o nm ks p ops a)
 |[],i,hi,hi3,hno=>by
  have hr:=D81u.round0_0 B xs a d lv o nm ks p s1 s2 s3 i
  have:i=3:=by
   rcases Nat.lt_or_ge i 3 with h|h
   ·have:=congrArg List.length hi;simp at this;omega
   ·omega
  subst this
  rw[if_neg (by simp)]at hr
  rw[goLp_of (Lp_exit hr)]
  exact D81u.behind0x0 B lv s1 s2 s3 xs a d o nm ks p q
 |op::ops,i,hi,hi3,hno=>by
  have hr:=D81u.round0_0 B xs a d lv o nm ks p s1 s2 s3 i
  have hlt:i<3:=by
   rcases Nat.lt_or_ge i 3 with h|h
   ·exact h
   ·have:=congrArg List.length hi;simp at this;omega
  have hget:[D.str s1,D.str s2,D.str s3][i]? =some (.str op):=by
   have:[s1,s2,s3][i]? =some op:=by
    have:=congrArg (·[0]?) hi
    simpa using this
   have e:[D.str s1,D.str s2,D.str s3]=[s1,s2,s3].map D.str:=rfl
   rw[e,List.getElem?_map,this];rfl
  rw[if_pos (by simp;omega),if_pos (by omega),Int.toNat_natCast,hget]at hr
  have w:IntKind.wrap .i64 ((i:Int)+1)=((i+1:Nat):Int):=by rw[wlv (by omega) (by omega)];simp
  rw[wlv (by have:=h.2.2.1;omega) (by have:=h.2.2.2.1;omega),w]at hr
  unfold rightP at hno ⊢
  cases ht:tk xs a with
  |none=>rw[ht]at hno;exact(hno rfl).elim
  |some v=>
   obtain⟨c,t,p0⟩:=v
   rw[ht]at hno
   simp only at hno ⊢
   have h3:=h.2.1;have h4:=h.1
   have h5:=tk_lt ht h.2.1
   have hx:=tk_some ht
   simp only[hx,if_pos (show(0:Int)≤a∧a<34359738368 by omega)]at hr
   by_cases hb:isT c t op=true
   ·rw[if_pos hb]at hno ⊢
    have hb':=hb
    simp only[isT]at hb'
    rw[if_pos hb',if_pos (okP_at h (by omega)),show(d+1 - (lv+1)).toNat=(d - lv).toNat by omega]at hr
    cases hp:pUntl xs (d - lv).toNat (a+1)with
    |ok o2 nm2 ks2 p2 a2=>
     rw[hp]at hr
     rw[goLp_of (Lp_exit hr)]
     exact D81u.behind0r B a lv o nm ks s1 s2 s3 xs d p op _ a2 q
    |syn p2 a2=>
     rw[hp]at hr
     rw[goLp_of (Lp_exit hr)]
     exact D81u.behind0r_1 B a lv o nm ks p s1 s2 s3 xs d false p2 20 a2 q
    |deep p2 a2=>
     rw[hp]at hr
     rw[goLp_of (Lp_exit hr)]
     exact D81u.behind0r_1 B a lv o nm ks p s1 s2 s3 xs d true p2 21 a2 q
    |no=>rw[hp]at hno;exact(hno rfl).elim
   ·rw[if_neg hb]at hno ⊢
    have hb':=hb
    simp only[isT]at hb'
    rw[if_neg hb']at hr
    have ih:=right_round h o nm ks p s1 s2 s3 q ops (i+1) (by rw[←List.drop_drop,hi];rfl) (by omega) hno
    rw[←ih]
    simp only[goLp]
    rw[Lp_unfold hr]
theorem right_roundi {B:Bd} {xs:List D} {a d lv:Int} (h:okP xs a d (lv+1) B.ni) (o nm:ByteArray) (ks:List D) (p:Int) (s1:ByteArray) {β:Type} (q:List TV→List TV→Option β):
  ∀(ops:List ByteArray) (i:Nat),[s1].drop i=ops→i≤1→rightP xs (pImply xs (d - lv).toNat) o nm ks p ops a≠.no→
   goLp (D81i.X B) [((0:Nat),(1152:Nat))] (sub [(1:Nat),(0:Nat),(1:Nat),(0:Nat),(0:Nat)] (body Tryz.f65)) [Kf.block (0:Nat) (1152:Nat),Kf.seq [] (sub [(1:Nat),(1:Nat)] (body Tryz.f65)) (3072:Nat)]
    (finK Tryz.prog Tryz.f65 [pars xs a d,TV.d true 0 (D.int .i64 lv),TV.d true 5 (fmD o nm ks p),TV.fc true true 40 [(0,false)],TV.d true 0 (.sl 0 [.str s1])] q)
    (D81i.s0 xs a d lv o nm ks p s1 i)=ansP (fun a=>pars xs a d) q (rightP xs (pImply xs (d - lv).toNat) o nm ks p ops a)
 |[],i,hi,hi3,hno=>by
  have hr:=D81i.round0_0 B xs a d lv o nm ks p s1 i
  have:i=1:=by
   rcases Nat.lt_or_ge i 1 with h|h
   ·have:=congrArg List.length hi;simp at this;omega
   ·omega
  subst this
  rw[if_neg (by simp)]at hr
  rw[goLp_of (Lp_exit hr)]
  exact D81i.behind0x0 B lv s1 xs a d o nm ks p q
 |op::ops,i,hi,hi3,hno=>by
  have hr:=D81i.round0_0 B xs a d lv o nm ks p s1 i
  have hlt:i<1:=by
   rcases Nat.lt_or_ge i 1 with h|h
   ·exact h
   ·have:=congrArg List.length hi;simp at this;omega
  have hget:[D.str s1][i]? =some (.str op):=by
   have:[s1][i]? =some op:=by
    have:=congrArg (·[0]?) hi
    simpa using this
   have e:[D.str s1]=[s1].map D.str:=rfl
   rw[e,List.getElem?_map,this];rfl
  rw[if_pos (by simp;omega),if_pos (by omega),Int.toNat_natCast,hget]at hr
  have w:IntKind.wrap .i64 ((i:Int)+1)=((i+1:Nat):Int):=by rw[wlv (by omega) (by omega)];simp
  rw[wlv (by have:=h.2.2.1;omega) (by have:=h.2.2.2.1;omega),w]at hr
  unfold rightP at hno ⊢
  cases ht:tk xs a with
  |none=>rw[ht]at hno;exact(hno rfl).elim
  |some v=>
   obtain⟨c,t,p0⟩:=v
   rw[ht]at hno
   simp only at hno ⊢
   have h3:=h.2.1;have h4:=h.1
   have h5:=tk_lt ht h.2.1
   have hx:=tk_some ht
   simp only[hx,if_pos (show(0:Int)≤a∧a<34359738368 by omega)]at hr
   by_cases hb:isT c t op=true
   ·rw[if_pos hb]at hno ⊢
    have hb':=hb
    simp only[isT]at hb'
    rw[if_pos hb',if_pos (okP_at h (by omega)),show(d+1 - (lv+1)).toNat=(d - lv).toNat by omega]at hr
    cases hp:pImply xs (d - lv).toNat (a+1)with
    |ok o2 nm2 ks2 p2 a2=>
     rw[hp]at hr
     rw[goLp_of (Lp_exit hr)]
     exact D81i.behind0r B a lv o nm ks s1 xs d p op _ a2 q
    |syn p2 a2=>
     rw[hp]at hr
     rw[goLp_of (Lp_exit hr)]
     exact D81i.behind0r_1 B a lv o nm ks p s1 xs d false p2 20 a2 q
    |deep p2 a2=>
     rw[hp]at hr
     rw[goLp_of (Lp_exit hr)]
     exact D81i.behind0r_1 B a lv o nm ks p s1 xs d true p2 21 a2 q
    |no=>rw[hp]at hno;exact(hno rfl).elim
   ·rw[if_neg hb]at hno ⊢
    have hb':=hb
    simp only[isT]at hb'
    rw[if_neg hb']at hr
    have ih:=right_roundi h o nm ks p s1 q ops (i+1) (by rw[←List.drop_drop,hi];rfl) (by omega) hno
    rw[←ih]
    simp only[goLp]
    rw[Lp_unfold hr]
theorem ev_right {B:Bd} {ni nu:Nat} (hi:ni≤B.ni) (hu:nu≤B.nu):Ev B Tryz.f65 (cRight ni nu):=fun β args k r hr=>by
 replace hr:cRight ni nu args k=some r:=hr
 unfold cRight at hr
 split at hr
 ·rename_i xs a d lv o nm ks p s1 s2 s3
  unfold chkK at hr
  split at hr
  ·rename_i h0
   have hno:pRight xs (d - lv).toNat true o nm ks p [s1,s2,s3] a≠.no:=fun e=>by rw[e,ansP_no]at hr;cases hr
   obtain⟨res,outs,h1,h2⟩:=ansP_out hr
   refine⟨res,outs,h1,fun q=>?_⟩
   rw[←h2 q,D81u.start]
   exact right_round (okP_mono h0 hu) o nm ks p s1 s2 s3 q [s1,s2,s3] 0 rfl (by omega) hno
  ·cases hr
 ·rename_i xs a d lv o nm ks p s1
  unfold chkK at hr
  split at hr
  ·rename_i h0
   have hno:pRight xs (d - lv).toNat false o nm ks p [s1] a≠.no:=fun e=>by rw[e,ansP_no]at hr;cases hr
   obtain⟨res,outs,h1,h2⟩:=ansP_out hr
   refine⟨res,outs,h1,fun q=>?_⟩
   rw[←h2 q,D81i.start]
   exact right_roundi (okP_mono h0 hi) o nm ks p s1 q [s1] 0 rfl (by omega) hno
  ·cases hr
 ·cases hr
end Go.Sd
namespace Go.Sd
open Go Go.Cm Go.Proofs Go.Sc
set_option maxRecDepth 100000
theorem chain_loopU {B:Bd} {xs:List D} {d lv:Int} (s:ByteArray) (a0:Int) {β:Type} (q:List TV→List TV→Option β):
  ∀(n:Nat) (o nm:ByteArray) (ks:List D) (p a:Int),okP xs a d lv B.nu→chainL xs s (pUntl xs (d+1 - lv).toNat) n o nm ks p a≠.no→
   goLp (C78u.X B) [((0:Nat),(3328:Nat))] (sub [(1:Nat),(1:Nat),(0:Nat),(0:Nat),(0:Nat)] (body Tryz.f62)) [Kf.block (0:Nat) (3328:Nat),Kf.seq [] (sub [(1:Nat),(1:Nat),(1:Nat)] (body Tryz.f62)) (768:Nat)]
    (finK Tryz.prog Tryz.f62 [pars xs a0 d,TV.d true 0 (D.str s),TV.d true 0 (D.int .i64 lv),TV.fc true true 64 [(0,false)]] q)
    (C78u.s0 xs d lv s .nili true o true nm true ks true p a false)=ansP (fun a=>pars xs a d) q (chainL xs s (pUntl xs (d+1 - lv).toNat) n o nm ks p a)
 |0,o,nm,ks,p,a,h,hno=>(hno rfl).elim
 |n+1,o,nm,ks,p,a,h,hno=>by
  have hr:=C78u.round0_0 B xs d lv s o nm ks a p
  unfold chainL at hno ⊢
  cases ht:tk xs a with
  |none=>rw[ht]at hno;exact(hno rfl).elim
  |some v=>
   obtain⟨c,t,p0⟩:=v
   rw[ht]at hno
   simp only at hno ⊢
   have h3:=h.2.1;have h4:=h.1
   have h5:=tk_lt ht h.2.1
   have hx:=tk_some ht
   simp only[hx,if_pos (show(0:Int)≤a∧a<34359738368 by omega)]at hr
   by_cases hb:isT c t s=true
   ·rw[if_pos hb]at hno ⊢
    have hb':=hb
    simp only[isT]at hb'
    rw[if_pos hb',if_pos (okP_at h (by omega))]at hr
    have hadv:=adv_untl xs (d+1 - lv).toNat (a+1)
    cases hp:pUntl xs (d+1 - lv).toNat (a+1)with
    |ok o2 nm2 ks2 p2 a2=>
     rw[hp]at hr hno hadv
     simp only at hno ⊢
     simp only[Adv]at hadv
     rw[←chain_loopU s a0 q n s ⟨#[]⟩ [fmD o nm ks p,fmD o2 nm2 ks2 p2] p a2 (okP_at h (by omega)) hno]
     simp only[goLp]
     rw[Lp_unfold hr]
    |syn p2 a2=>
     rw[hp]at hr
     rw[goLp_of (Lp_step hr (Lp_exit (C78u.round0_1 B xs d lv s false p2 20 a2 true o true nm true ks true p)))]
     exact C78u.behind0x0_1 B a0 lv s xs d false p2 20 a2 true o true nm true ks true p q
    |deep p2 a2=>
     rw[hp]at hr
     rw[goLp_of (Lp_step hr (Lp_exit (C78u.round0_1 B xs d lv s true p2 21 a2 true o true nm true ks true p)))]
     exact C78u.behind0x0_1 B a0 lv s xs d true p2 21 a2 true o true nm true ks true p q
    |no=>rw[hp]at hno;exact(hno rfl).elim
   ·rw[if_neg hb]at hno ⊢
    have hb':=hb
    simp only[isT]at hb'
    rw[if_neg hb']at hr
    rw[goLp_of (Lp_exit hr)]
    exact C78u.behind0x0 B a0 lv s xs d o nm ks p a q
theorem chain_allU {B:Bd} {xs:List D} {d lv:Int} (s:ByteArray) (a:Int) {β:Type} (q:List TV→List TV→Option β) (h:okP xs a d lv B.nu) (hno:pChain xs s (d+1 - lv).toNat true a≠.no):
  evalF Tryz.prog (QP B) Tryz.f62 [pars xs a d,TV.d true 0 (D.str s),TV.d true 0 (D.int .i64 lv),TV.fc true true 64 [(0,false)]] q=ansP (fun a=>pars xs a d) q (pChain xs s (d+1 - lv).toNat true a):=by
 have st:=C78u.start B xs a d lv s q
 rw[if_pos h]at st
 refine Eq.trans st ?_
 have hadv:=adv_untl xs (d+1 - lv).toNat a
 simp only[pChain,chainP]at hno ⊢
 cases hp:pUntl xs (d+1 - lv).toNat a with
 |ok o nm ks p a2=>
  rw[hp]at hno hadv
  simp only at hno ⊢
  simp only[Adv]at hadv
  exact chain_loopU s a q (xs.length+1) o nm ks p a2 (okP_at h (by omega)) hno
 |syn p2 a2=>
  simp only
  rw[goLp_of (Lp_exit (C78u.round0_1 B xs d lv s false p2 20 a2 false ⟨#[]⟩ false ⟨#[]⟩ false [] false 0))]
  exact C78u.behind0x0_1 B a lv s xs d false p2 20 a2 false ⟨#[]⟩ false ⟨#[]⟩ false [] false 0 q
 |deep p2 a2=>
  simp only
  rw[goLp_of (Lp_exit (C78u.round0_1 B xs d lv s true p2 21 a2 false ⟨#[]⟩ false ⟨#[]⟩ false [] false 0))]
  exact C78u.behind0x0_1 B a lv s xs d true p2 21 a2 false ⟨#[]⟩ false ⟨#[]⟩ false [] false 0 q
 |no=>rw[hp]at hno;exact(hno rfl).elim
theorem chain_loopK {B:Bd} {xs:List D} {d lv:Int} (s:ByteArray) (a0:Int) {β:Type} (q:List TV→List TV→Option β):
  ∀(n:Nat) (o nm:ByteArray) (ks:List D) (p a:Int),okP xs a d lv B.nk→chainL xs s (pK xs (d+1 - lv).toNat) n o nm ks p a≠.no→
   goLp (C78k.X B) [((0:Nat),(3328:Nat))] (sub [(1:Nat),(1:Nat),(0:Nat),(0:Nat),(0:Nat)] (body Tryz.f62)) [Kf.block (0:Nat) (3328:Nat),Kf.seq [] (sub [(1:Nat),(1:Nat),(1:Nat)] (body Tryz.f62)) (768:Nat)]
    (finK Tryz.prog Tryz.f62 [pars xs a0 d,TV.d true 0 (D.str s),TV.d true 0 (D.int .i64 lv),TV.fc true false 63 [(0,true)]] q)
    (C78k.s0 xs d lv s .nili true o true nm true ks true p a false)=ansP (fun a=>pars xs a d) q (chainL xs s (pK xs (d+1 - lv).toNat) n o nm ks p a)
 |0,o,nm,ks,p,a,h,hno=>(hno rfl).elim
 |n+1,o,nm,ks,p,a,h,hno=>by
  have hr:=C78k.round0_0 B xs d lv s o nm ks a p
  unfold chainL at hno ⊢
  cases ht:tk xs a with
  |none=>rw[ht]at hno;exact(hno rfl).elim
  |some v=>
   obtain⟨c,t,p0⟩:=v
   rw[ht]at hno
   simp only at hno ⊢
   have h3:=h.2.1;have h4:=h.1
   have h5:=tk_lt ht h.2.1
   have hx:=tk_some ht
   simp only[hx,if_pos (show(0:Int)≤a∧a<34359738368 by omega)]at hr
   by_cases hb:isT c t s=true
   ·rw[if_pos hb]at hno ⊢
    have hb':=hb
    simp only[isT]at hb'
    rw[if_pos hb',if_pos (okP_at h (by omega))]at hr
    have hadv:=adv_k xs (d+1 - lv).toNat (a+1)
    cases hp:pK xs (d+1 - lv).toNat (a+1)with
    |ok o2 nm2 ks2 p2 a2=>
     rw[hp]at hr hno hadv
     simp only at hno ⊢
     simp only[Adv]at hadv
     rw[←chain_loopK s a0 q n s ⟨#[]⟩ [fmD o nm ks p,fmD o2 nm2 ks2 p2] p a2 (okP_at h (by omega)) hno]
     simp only[goLp]
     rw[Lp_unfold hr]
    |syn p2 a2=>
     rw[hp]at hr
     rw[goLp_of (Lp_step hr (Lp_exit (C78k.round0_1 B xs d lv s false p2 20 a2 true o true nm true ks true p)))]
     exact C78k.behind0x0_1 B a0 lv s xs d false p2 20 a2 true o true nm true ks true p q
    |deep p2 a2=>
     rw[hp]at hr
     rw[goLp_of (Lp_step hr (Lp_exit (C78k.round0_1 B xs d lv s true p2 21 a2 true o true nm true ks true p)))]
     exact C78k.behind0x0_1 B a0 lv s xs d true p2 21 a2 true o true nm true ks true p q
    |no=>rw[hp]at hno;exact(hno rfl).elim
   ·rw[if_neg hb]at hno ⊢
    have hb':=hb
    simp only[isT]at hb'
    rw[if_neg hb']at hr
    rw[goLp_of (Lp_exit hr)]
    exact C78k.behind0x0 B a0 lv s xs d o nm ks p a q
theorem chain_allK {B:Bd} {xs:List D} {d lv:Int} (s:ByteArray) (a:Int) {β:Type} (q:List TV→List TV→Option β) (h:okP xs a d lv B.nk) (hno:pChain xs s (d+1 - lv).toNat false a≠.no):
  evalF Tryz.prog (QP B) Tryz.f62 [pars xs a d,TV.d true 0 (D.str s),TV.d true 0 (D.int .i64 lv),TV.fc true false 63 [(0,true)]] q=ansP (fun a=>pars xs a d) q (pChain xs s (d+1 - lv).toNat false a):=by
 have st:=C78k.start B xs a d lv s q
 rw[if_pos h]at st
 refine Eq.trans st ?_
 have hadv:=adv_k xs (d+1 - lv).toNat a
 simp only[pChain,chainP]at hno ⊢
 cases hp:pK xs (d+1 - lv).toNat a with
 |ok o nm ks p a2=>
  rw[hp]at hno hadv
  simp only at hno ⊢
  simp only[Adv]at hadv
  exact chain_loopK s a q (xs.length+1) o nm ks p a2 (okP_at h (by omega)) hno
 |syn p2 a2=>
  simp only
  rw[goLp_of (Lp_exit (C78k.round0_1 B xs d lv s false p2 20 a2 false ⟨#[]⟩ false ⟨#[]⟩ false [] false 0))]
  exact C78k.behind0x0_1 B a lv s xs d false p2 20 a2 false ⟨#[]⟩ false ⟨#[]⟩ false [] false 0 q
 |deep p2 a2=>
  simp only
  rw[goLp_of (Lp_exit (C78k.round0_1 B xs d lv s true p2 21 a2 false ⟨#[]⟩ false ⟨#[]⟩ false [] false 0))]
  exact C78k.behind0x0_1 B a lv s xs d true p2 21 a2 false ⟨#[]⟩ false ⟨#[]⟩ false [] false 0 q
 |no=>rw[hp]at hno;exact(hno rfl).elim
theorem ev_chain {B:Bd} {nk nu:Nat} (hk:nk≤B.nk) (hu:nu≤B.nu):Ev B Tryz.f62 (cChain nk nu):=fun β args k r hr=>by
 replace hr:cChain nk nu args k=some r:=hr
 unfold cChain at hr
 split at hr
 ·rename_i xs a d op lv
  unfold chkK at hr
  split at hr
  ·rename_i h0
   have hno:pChain xs op (d+1 - lv).toNat true a≠.no:=fun e=>by rw[e,ansP_no]at hr;cases hr
   obtain⟨res,outs,h1,h2⟩:=ansP_out hr
   refine⟨res,outs,h1,fun q=>?_⟩
   rw[←h2 q]
   exact chain_allU op a q (okP_mono h0 hu) hno
  ·cases hr
 ·rename_i xs a d op lv
  unfold chkK at hr
  split at hr
  ·rename_i h0
   have hno:pChain xs op (d+1 - lv).toNat false a≠.no:=fun e=>by rw[e,ansP_no]at hr;cases hr
   obtain⟨res,outs,h1,h2⟩:=ansP_out hr
   refine⟨res,outs,h1,fun q=>?_⟩
   rw[←h2 q]
   exact chain_allK op a q (okP_mono h0 hk) hno
  ·cases hr
 ·cases hr
theorem ev_k {B:Bd} {n:Nat} (hu:n≤B.ncu):Ev B Tryz.f63 (cK n):=fun β args k r hr=>by
 replace hr:cK n args k=some r:=hr
 unfold cK at hr
 split at hr
 ·rename_i lv xs a d
  unfold chkK at hr
  split at hr
  ·rename_i h0
   obtain⟨res,outs,h1,h2⟩:=ansP_out hr
   refine⟨res,outs,h1,fun q=>?_⟩
   rw[←h2 q,B79.start,if_pos (okP_mono h0 hu)]
   have e:pK xs (d+1 - lv).toNat a=pChain xs ⟨#[38]⟩ (d+1 - lv).toNat true a:=rfl
   rw[e]
   cases pChain xs ⟨#[38]⟩ (d+1 - lv).toNat true a<;>rfl
  ·cases hr
 ·cases hr
theorem deepP_eq {xs:List D} {a d:Int} (ha:0≤a) {β:Type} (q:List TV→List TV→Option β) (hno:deepP xs a≠.no):
  (if(0:Int)≤a then
   match xs[Int.toNat a]? with
   |some (D.ag [D.int IntKind.i64 n4,D.str s5,D.int IntKind.i64 p6])=>q [TV.d false 5 zF,TV.d true 0 (atD p6 (noD 21))] [pars xs a d]
   |x=>none
  else none)=ansP (fun a=>pars xs a d) q (deepP xs a):=by
 unfold deepP at hno ⊢
 cases ht:tk xs a with
 |none=>rw[ht]at hno;exact(hno rfl).elim
 |some v=>
  obtain⟨c,t,p⟩:=v
  rw[if_pos ha,tk_some ht];rfl
theorem ev_untl {B:Bd} {n:Nat} (hs:n+1≤B.ns) (hr0:n≤B.nru):Ev B Tryz.f64 (cUntl (n+1)):=fun β args k r hr=>by
 replace hr:cUntl (n+1) args k=some r:=hr
 unfold cUntl at hr
 split at hr
 ·rename_i xs a d lv
  unfold chkK at hr
  split at hr
  ·rename_i h0
   have hno:pUntl xs (d+1 - lv).toNat a≠.no:=fun e=>by rw[e,ansP_no]at hr;cases hr
   obtain⟨res,outs,h1,h2⟩:=ansP_out hr
   refine⟨res,outs,h1,fun q=>?_⟩
   rw[←h2 q,B80.start]
   by_cases hd:lv>d
   ·rw[if_pos (by simpa using hd)]
    have e:(d+1 - lv).toNat=0:=by omega
    rw[e,pUntl_0]at hno ⊢
    exact deepP_eq h0.2.1 q hno
   ·rw[if_neg (by simpa using hd),if_pos (okP_mono h0 hs)]
    obtain⟨m,hm⟩:∃m,(d+1 - lv).toNat=m+1:=⟨(d - lv).toNat,by omega⟩
    have hm2:(d - lv).toNat=m:=by omega
    have hlt:=h0.2.2.2.2.2
    have h6:=h0.2.2.1
    have h7:=h0.2.2.2.2.1
    rw[hm]at hno ⊢
    have e:pUntl xs (m+1) a=untlP xs (pSingle xs (m+1)) (pUntl xs m) a:=rfl
    rw[e]at hno ⊢
    unfold untlP at hno ⊢
    have hadv:=adv_single xs (m+1) a
    cases hp:pSingle xs (m+1) a with
    |ok o nm ks p a2=>
     rw[hp]at hno hadv
     simp only[Adv]at hadv
     simp only at hno ⊢
     rw[if_pos (show okP xs a2 d (lv+1) B.nru from⟨h0.1,by have:=h0.2.1;omega,by omega,by omega,h7,by omega⟩),hm2]
     have e2:pRight xs m true o nm ks p [⟨#[85]⟩,⟨#[87]⟩,⟨#[82]⟩] a2=rightP xs (pUntl xs m) o nm ks p [⟨#[85]⟩,⟨#[87]⟩,⟨#[82]⟩] a2:=rfl
     rw[←e2]
     cases pRight xs m true o nm ks p [⟨#[85]⟩,⟨#[87]⟩,⟨#[82]⟩] a2<;>rfl
    |syn p2 a2=>rfl
    |deep p2 a2=>rfl
    |no=>rw[hp]at hno;exact(hno rfl).elim
  ·cases hr
 ·cases hr
theorem ev_imply {B:Bd} {n:Nat} (hs:n+1≤B.nck) (hr0:n≤B.nri):Ev B Tryz.f40 (cImply (n+1)):=fun β args k r hr=>by
 replace hr:cImply (n+1) args k=some r:=hr
 unfold cImply at hr
 split at hr
 ·rename_i xs a d lv
  unfold chkK at hr
  split at hr
  ·rename_i h0
   have hno:pImply xs (d+1 - lv).toNat a≠.no:=fun e=>by rw[e,ansP_no]at hr;cases hr
   obtain⟨res,outs,h1,h2⟩:=ansP_out hr
   refine⟨res,outs,h1,fun q=>?_⟩
   rw[←h2 q,B55.start]
   by_cases hd:lv>d
   ·rw[if_pos (by simpa using hd)]
    have e:(d+1 - lv).toNat=0:=by omega
    rw[e,pImply_0]at hno ⊢
    exact deepP_eq h0.2.1 q hno
   ·rw[if_neg (by simpa using hd),if_pos (okP_mono h0 hs)]
    obtain⟨m,hm⟩:∃m,(d+1 - lv).toNat=m+1:=⟨(d - lv).toNat,by omega⟩
    have hm2:(d - lv).toNat=m:=by omega
    have hlt:=h0.2.2.2.2.2
    have h6:=h0.2.2.1
    have h7:=h0.2.2.2.2.1
    rw[hm]at hno ⊢
    have e:pImply xs (m+1) a=implyP xs (pUntl xs (m+1)) (pImply xs m) a:=rfl
    rw[e]at hno ⊢
    unfold implyP at hno ⊢
    have e3:chainP xs ⟨#[124]⟩ (kP xs (pUntl xs (m+1))) a=pChain xs ⟨#[124]⟩ (m+1) false a:=rfl
    have hadv:=adv_chainP xs ⟨#[124]⟩ (pK xs (m+1)) (adv_k xs (m+1)) a
    rw[e3]at hno ⊢
    have e4:chainP xs ⟨#[124]⟩ (pK xs (m+1)) a=pChain xs ⟨#[124]⟩ (m+1) false a:=rfl
    rw[e4]at hadv
    cases hp:pChain xs ⟨#[124]⟩ (m+1) false a with
    |ok o nm ks p a2=>
     rw[hp]at hno hadv
     simp only[Adv]at hadv
     simp only at hno ⊢
     rw[if_pos (show okP xs a2 d (lv+1) B.nri from⟨h0.1,by have:=h0.2.1;omega,by omega,by omega,h7,by omega⟩),hm2]
     have e2:pRight xs m false o nm ks p [⟨#[61,62]⟩] a2=rightP xs (pImply xs m) o nm ks p [⟨#[61,62]⟩] a2:=rfl
     rw[←e2]
     cases pRight xs m false o nm ks p [⟨#[61,62]⟩] a2<;>rfl
    |syn p2 a2=>rfl
    |deep p2 a2=>rfl
    |no=>rw[hp]at hno;exact(hno rfl).elim
  ·cases hr
 ·cases hr
end Go.Sd
namespace Go.Sd
open Go Go.Cm Go.Proofs Go.Sc
set_option maxRecDepth 100000
theorem isT_lit (c:Int) (t:ByteArray) (L:T8):((c==1||c==4)&&t.toList==L)=isT c t (B L):=by unfold isT;rw[B_list]
theorem isT_c0 {c:Int} {t s:ByteArray} (h:isT c t s=true):(!c==0)=true:=by
 simp only[isT,Bool.and_eq_true,Bool.or_eq_true,beq_iff_eq]at h
 simp;omega
set_option maxHeartbeats 1000000 in
theorem ev_single {B:Bd} {n:Nat} (hs:n≤B.ns) (hi:n≤B.ni):Ev B Tryz.f95 (cSingle (n+1)):=fun β args k r hr=>by
 replace hr:cSingle (n+1) args k=some r:=hr
 unfold cSingle at hr
 split at hr
 ·rename_i xs a d lv
  unfold chkK at hr
  split at hr
  ·rename_i h0
   have hno:pSingle xs (d+1 - lv).toNat a≠.no:=fun e=>by rw[e,ansP_no]at hr;cases hr
   obtain⟨res,outs,h1,h2⟩:=ansP_out hr
   refine⟨res,outs,h1,fun q=>?_⟩
   have st:=B108.start B xs a d lv q
   refine Eq.trans ?_ (h2 q)
   refine Eq.trans st ?_
   clear h1 h2 hr
   by_cases hd:lv>d
   ·rw[if_pos (by simpa using hd)]
    have e:(d+1 - lv).toNat=0:=by omega
    rw[e,pSingle_0]at hno ⊢
    exact deepP_eq h0.2.1 q hno
   ·rw[if_neg (by simpa using hd)]
    obtain⟨m,hm⟩:∃m,(d+1 - lv).toNat=m+1:=⟨(d - lv).toNat,by omega⟩
    have hlt:=h0.2.2.2.2.2
    have h6:=h0.2.2.1
    have h7:=h0.2.2.2.2.1
    have hw:=wlv (lv:=lv) (by omega) (by omega)
    have hm3:(d+1 - (lv+1)).toNat=m:=by omega
    rw[hm]at hno ⊢
    have e:pSingle xs (m+1) a=singleP xs (pf xs m) a:=rfl
    rw[e]at hno ⊢
    unfold singleP at hno ⊢
    cases ht:tk xs a with
    |none=>rw[ht]at hno;exact(hno rfl).elim
    |some v=>
     obtain⟨c,t,p⟩:=v
     rw[ht]at hno
     simp only at hno ⊢
     have ha:=h0.2.1
     have hal:=tk_lt ht ha
     have hle:=h0.1
     have hA:(0:Int)≤a∧a<34359738368:=by omega
     have hS:okP xs (a+1) d (lv+1) B.ns:=⟨hle,by omega,by omega,by omega,h7,by omega⟩
     have hI:okP xs (a+1) d (lv+1) B.ni:=⟨hle,by omega,by omega,by omega,h7,by omega⟩
     simp only[if_pos ha,tk_some ht,if_pos hA,hw,if_pos hS,if_pos hI,hm3,isT_lit]at hno ⊢
     have q1:Go.Sc.B [116,114,117,101]=⟨#[116,114,117,101]⟩:=rfl
     have q2:Go.Sc.B [102,97,108,115,101]=⟨#[102,97,108,115,101]⟩:=rfl
     have q3:Go.Sc.B [33]=⟨#[33]⟩:=rfl
     have q4:Go.Sc.B [88]=⟨#[88]⟩:=rfl
     have q5:Go.Sc.B [70]=⟨#[70]⟩:=rfl
     have q6:Go.Sc.B [71]=⟨#[71]⟩:=rfl
     have q7:Go.Sc.B [40]=⟨#[40]⟩:=rfl
     have q8:Go.Sc.B [41]=⟨#[41]⟩:=rfl
     simp only[q1,q2,q3,q4,q5,q6,q7,q8]
     by_cases h3:c=3
     ·subst h3
      simp only[BEq.rfl,if_true]
      rfl
     ·have h3':(c==3)=false:=by simpa using h3
      simp only[h3',Bool.false_eq_true,if_false,if_neg h3]at hno ⊢
      have one:∀{bad:Option _},(!c==0)=true→
        (if(!c==0)=true then(match pSingle xs m (a+1)with
         |.ok o nm ks p2 a2=>q [.d true 5 (fmD t ⟨#[]⟩ [fmD o nm ks p2] p),.d false 0 .nili] [pars xs a2 d]
         |.syn p a=>q [.d false 5 zF,.d false 0 (atD p (noD 20))] [pars xs a d]
         |.deep p a=>q [.d false 5 zF,.d true 0 (atD p (noD 21))] [pars xs a d]
         |.no=>none)else bad)=ansP (fun a=>pars xs a d) q (match(pf xs m).single (a+1)with
         |.ok o nm ks q a=>.ok t ⟨#[]⟩ [fmD o nm ks q] p a
         |.syn p a=>.syn p a
         |.deep p a=>.deep p a
         |.no=>.no):=fun{bad} hc=>by
       rw[if_pos hc]
       have e:(pf xs m).single (a+1)=pSingle xs m (a+1):=rfl
       rw[e]
       cases pSingle xs m (a+1)<;>rfl
      cases hT:isT c t ⟨#[116,114,117,101]⟩with
      |true=>
       simp only[hT,if_true,isT_c0 hT,true_or]
       rfl
      |false=>
       simp only[hT,Bool.false_eq_true,if_false,false_or]at hno ⊢
       cases hF:isT c t ⟨#[102,97,108,115,101]⟩with
       |true=>
        simp only[hF,if_true,isT_c0 hF]
        rfl
       |false=>
        simp only[hF,Bool.false_eq_true,if_false]at hno ⊢
        cases h3:isT c t ⟨#[33]⟩with
        |true=>
         simp only[h3,if_true,true_or]
         exact one (isT_c0 h3)
        |false=>
         simp only[h3,Bool.false_eq_true,if_false,false_or]at hno ⊢
         cases h4:isT c t ⟨#[88]⟩with
         |true=>
          simp only[h4,if_true,true_or]
          exact one (isT_c0 h4)
         |false=>
          simp only[h4,Bool.false_eq_true,if_false,false_or]at hno ⊢
          cases h5:isT c t ⟨#[70]⟩with
          |true=>
           simp only[h5,if_true,true_or]
           exact one (isT_c0 h5)
          |false=>
           simp only[h5,Bool.false_eq_true,if_false,false_or]at hno ⊢
           cases h6:isT c t ⟨#[71]⟩with
           |true=>
            simp only[h6,if_true,true_or]
            exact one (isT_c0 h6)
           |false=>
            simp only[h6,Bool.false_eq_true,if_false,false_or]at hno ⊢
            cases h7:isT c t ⟨#[40]⟩with
            |false=>
             simp only[h7,Bool.false_eq_true,if_false]
             rfl
            |true=>
             simp only[h7,if_true]at hno ⊢
             have hadv:=adv_imply xs m (a+1)
             have e:(pf xs m).imply (a+1)=pImply xs m (a+1):=rfl
             rw[e]at hno ⊢
             cases hp:pImply xs m (a+1)with
             |ok o nm ks p2 a2=>
              rw[hp]at hno hadv
              simp only[Adv]at hadv
              simp only at hno ⊢
              cases ht2:tk xs a2 with
              |none=>rw[ht2]at hno;exact(hno rfl).elim
              |some v2=>
               obtain⟨c2,t2,p3⟩:=v2
               have ha2:(0:Int)≤a2:=by omega
               have:=tk_lt ht2 ha2
               simp only[if_pos (show(0:Int)≤a2∧a2<34359738368 by omega),tk_some ht2]
               cases h8:isT c2 t2 ⟨#[41]⟩with
               |true=>simp only[h8,if_true];rfl
               |false=>simp only[h8,Bool.false_eq_true,if_false];rfl
             |syn p2 a2=>rfl
             |deep p2 a2=>rfl
             |no=>rw[hp]at hno;exact(hno rfl).elim
  ·cases hr
 ·cases hr
end Go.Sd
namespace Go.Sd
open Go Go.Cm Go.Proofs Go.Sc
set_option maxRecDepth 100000
theorem up_single {B:Bd} {n:Nat} (h:EnvOk glS Tryz.prog (QP B)) (hc:Ev B Tryz.f95 (cSingle n)):EnvOk glS Tryz.prog (QP {B with ns:=n }):=EnvOk.upd h Tryz.func95 (by kernel_rfl) hc (by
 intro β g args k r h
 simp only[QP,Env.add]at h ⊢
 cases h55:Nat.beq g 40 with
 |true=>
  simp only[h55]at h ⊢
  exact .inl h
 |false=>
  simp only[h55]at h ⊢
  cases h81:Nat.beq g 65 with
  |true=>
   simp only[h81]at h ⊢
   exact .inl h
  |false=>
   simp only[h81]at h ⊢
   cases h78:Nat.beq g 62 with
   |true=>
    simp only[h78]at h ⊢
    exact .inl h
   |false=>
    simp only[h78]at h ⊢
    cases h79:Nat.beq g 63 with
    |true=>
     simp only[h79]at h ⊢
     exact .inl h
    |false=>
     simp only[h79]at h ⊢
     cases h80:Nat.beq g 64 with
     |true=>
      simp only[h80]at h ⊢
      exact .inl h
     |false=>
      simp only[h80]at h ⊢
      cases h108:Nat.beq g 95 with
      |true=>
       simp only[h108]at h ⊢
       exact .inr ⟨Nat.eq_of_beq_eq_true h108,h⟩
      |false=>
       simp only[h108]at h ⊢
       exact .inl h)
theorem up_untl {B:Bd} {n:Nat} (h:EnvOk glS Tryz.prog (QP B)) (hc:Ev B Tryz.f64 (cUntl n)):EnvOk glS Tryz.prog (QP {B with nu:=n }):=EnvOk.upd h Tryz.func64 (by kernel_rfl) hc (by
 intro β g args k r h
 simp only[QP,Env.add]at h ⊢
 cases h55:Nat.beq g 40 with
 |true=>
  simp only[h55]at h ⊢
  exact .inl h
 |false=>
  simp only[h55]at h ⊢
  cases h81:Nat.beq g 65 with
  |true=>
   simp only[h81]at h ⊢
   exact .inl h
  |false=>
   simp only[h81]at h ⊢
   cases h78:Nat.beq g 62 with
   |true=>
    simp only[h78]at h ⊢
    exact .inl h
   |false=>
    simp only[h78]at h ⊢
    cases h79:Nat.beq g 63 with
    |true=>
     simp only[h79]at h ⊢
     exact .inl h
    |false=>
     simp only[h79]at h ⊢
     cases h80:Nat.beq g 64 with
     |true=>
      simp only[h80]at h ⊢
      exact .inr ⟨Nat.eq_of_beq_eq_true h80,h⟩
     |false=>
      simp only[h80]at h ⊢
      cases h108:Nat.beq g 95 with
      |true=>
       simp only[h108]at h ⊢
       exact .inl h
      |false=>
       simp only[h108]at h ⊢
       exact .inl h)
theorem up_k {B:Bd} {n:Nat} (h:EnvOk glS Tryz.prog (QP B)) (hc:Ev B Tryz.f63 (cK n)):EnvOk glS Tryz.prog (QP {B with nk:=n }):=EnvOk.upd h Tryz.func63 (by kernel_rfl) hc (by
 intro β g args k r h
 simp only[QP,Env.add]at h ⊢
 cases h55:Nat.beq g 40 with
 |true=>
  simp only[h55]at h ⊢
  exact .inl h
 |false=>
  simp only[h55]at h ⊢
  cases h81:Nat.beq g 65 with
  |true=>
   simp only[h81]at h ⊢
   exact .inl h
  |false=>
   simp only[h81]at h ⊢
   cases h78:Nat.beq g 62 with
   |true=>
    simp only[h78]at h ⊢
    exact .inl h
   |false=>
    simp only[h78]at h ⊢
    cases h79:Nat.beq g 63 with
    |true=>
     simp only[h79]at h ⊢
     exact .inr ⟨Nat.eq_of_beq_eq_true h79,h⟩
    |false=>
     simp only[h79]at h ⊢
     cases h80:Nat.beq g 64 with
     |true=>
      simp only[h80]at h ⊢
      exact .inl h
     |false=>
      simp only[h80]at h ⊢
      cases h108:Nat.beq g 95 with
      |true=>
       simp only[h108]at h ⊢
       exact .inl h
      |false=>
       simp only[h108]at h ⊢
       exact .inl h)
theorem up_imply {B:Bd} {n:Nat} (h:EnvOk glS Tryz.prog (QP B)) (hc:Ev B Tryz.f40 (cImply n)):EnvOk glS Tryz.prog (QP {B with ni:=n }):=EnvOk.upd h Tryz.func40 (by kernel_rfl) hc (by
 intro β g args k r h
 simp only[QP,Env.add]at h ⊢
 cases h55:Nat.beq g 40 with
 |true=>
  simp only[h55]at h ⊢
  exact .inr ⟨Nat.eq_of_beq_eq_true h55,h⟩
 |false=>
  simp only[h55]at h ⊢
  cases h81:Nat.beq g 65 with
  |true=>
   simp only[h81]at h ⊢
   exact .inl h
  |false=>
   simp only[h81]at h ⊢
   cases h78:Nat.beq g 62 with
   |true=>
    simp only[h78]at h ⊢
    exact .inl h
   |false=>
    simp only[h78]at h ⊢
    cases h79:Nat.beq g 63 with
    |true=>
     simp only[h79]at h ⊢
     exact .inl h
    |false=>
     simp only[h79]at h ⊢
     cases h80:Nat.beq g 64 with
     |true=>
      simp only[h80]at h ⊢
      exact .inl h
     |false=>
      simp only[h80]at h ⊢
      cases h108:Nat.beq g 95 with
      |true=>
       simp only[h108]at h ⊢
       exact .inl h
      |false=>
       simp only[h108]at h ⊢
       exact .inl h)
theorem up_chain {B:Bd} {n m:Nat} (h:EnvOk glS Tryz.prog (QP B)) (hc:Ev B Tryz.f62 (cChain n m)):EnvOk glS Tryz.prog (QP {B with nck:=n,ncu:=m }):=EnvOk.upd h Tryz.func62 (by kernel_rfl) hc (by
 intro β g args k r h
 simp only[QP,Env.add]at h ⊢
 cases h55:Nat.beq g 40 with
 |true=>
  simp only[h55]at h ⊢
  exact .inl h
 |false=>
  simp only[h55]at h ⊢
  cases h81:Nat.beq g 65 with
  |true=>
   simp only[h81]at h ⊢
   exact .inl h
  |false=>
   simp only[h81]at h ⊢
   cases h78:Nat.beq g 62 with
   |true=>
    simp only[h78]at h ⊢
    exact .inr ⟨Nat.eq_of_beq_eq_true h78,h⟩
   |false=>
    simp only[h78]at h ⊢
    cases h79:Nat.beq g 63 with
    |true=>
     simp only[h79]at h ⊢
     exact .inl h
    |false=>
     simp only[h79]at h ⊢
     cases h80:Nat.beq g 64 with
     |true=>
      simp only[h80]at h ⊢
      exact .inl h
     |false=>
      simp only[h80]at h ⊢
      cases h108:Nat.beq g 95 with
      |true=>
       simp only[h108]at h ⊢
       exact .inl h
      |false=>
       simp only[h108]at h ⊢
       exact .inl h)
theorem up_right {B:Bd} {n m:Nat} (h:EnvOk glS Tryz.prog (QP B)) (hc:Ev B Tryz.f65 (cRight n m)):EnvOk glS Tryz.prog (QP {B with nri:=n,nru:=m }):=EnvOk.upd h Tryz.func65 (by kernel_rfl) hc (by
 intro β g args k r h
 simp only[QP,Env.add]at h ⊢
 cases h55:Nat.beq g 40 with
 |true=>
  simp only[h55]at h ⊢
  exact .inl h
 |false=>
  simp only[h55]at h ⊢
  cases h81:Nat.beq g 65 with
  |true=>
   simp only[h81]at h ⊢
   exact .inr ⟨Nat.eq_of_beq_eq_true h81,h⟩
  |false=>
   simp only[h81]at h ⊢
   cases h78:Nat.beq g 62 with
   |true=>
    simp only[h78]at h ⊢
    exact .inl h
   |false=>
    simp only[h78]at h ⊢
    cases h79:Nat.beq g 63 with
    |true=>
     simp only[h79]at h ⊢
     exact .inl h
    |false=>
     simp only[h79]at h ⊢
     cases h80:Nat.beq g 64 with
     |true=>
      simp only[h80]at h ⊢
      exact .inl h
     |false=>
      simp only[h80]at h ⊢
      cases h108:Nat.beq g 95 with
      |true=>
       simp only[h108]at h ⊢
       exact .inl h
      |false=>
       simp only[h108]at h ⊢
       exact .inl h)
def all (n:Nat):Bd:=⟨n,n,n,n,n,n,n,n⟩
theorem okP_0 {xs:List D} {a d lv:Int}:¬okP xs a d lv 0:=fun h=>by have:=h.2.2.2.2.2;omega
theorem ev_step {n:Nat} (h:EnvOk glS Tryz.prog (QP (all n))):EnvOk glS Tryz.prog (QP (all (n+1))):=by
 have h1:=up_single h (ev_single (n:=n) (Nat.le_refl _) (Nat.le_refl _))
 have h2:=up_untl h1 (ev_untl (n:=n) (Nat.le_refl _) (Nat.le_refl _))
 have h3:=up_chain (n:=n) (m:=n+1) h2 (ev_chain (Nat.le_refl _) (Nat.le_refl _))
 have h4:=up_k (n:=n+1) h3 (ev_k (Nat.le_refl _))
 have h5:=up_chain (n:=n+1) (m:=n+1) h4 (ev_chain (Nat.le_refl _) (Nat.le_refl _))
 have h6:=up_imply h5 (ev_imply (n:=n) (Nat.le_refl _) (Nat.le_refl _))
 exact up_right (n:=n+1) (m:=n+1) h6 (ev_right (Nat.le_refl _) (Nat.le_refl _))
theorem ev_0:EnvOk glS Tryz.prog (QP (all 0)):=by
 have z:∀{β:Type} {xs:List D} {a d lv:Int} {x:Option β},chkK (okP xs a d lv 0) x=none:=fun{β xs a d lv x}=>by unfold chkK;rw[if_neg okP_0]
 intro β g args k r h
 refine envq2 β g args k r ?_
 simp only[QP,Env.add,all]at h
 cases h55:Nat.beq g 40 with
 |true=>
  simp only[h55]at h
  unfold cImply at h
  split at h<;>first|(rw[z]at h;cases h)|cases h
 |false=>
  simp only[h55]at h
  cases h81:Nat.beq g 65 with
  |true=>
   simp only[h81]at h
   unfold cRight at h
   split at h<;>first|(rw[z]at h;cases h)|cases h
  |false=>
   simp only[h81]at h
   cases h78:Nat.beq g 62 with
   |true=>
    simp only[h78]at h
    unfold cChain at h
    split at h<;>first|(rw[z]at h;cases h)|cases h
   |false=>
    simp only[h78]at h
    cases h79:Nat.beq g 63 with
    |true=>
     simp only[h79]at h
     unfold cK at h
     split at h<;>first|(rw[z]at h;cases h)|cases h
    |false=>
     simp only[h79]at h
     cases h80:Nat.beq g 64 with
     |true=>
      simp only[h80]at h
      unfold cUntl at h
      split at h<;>first|(rw[z]at h;cases h)|cases h
     |false=>
      simp only[h80]at h
      cases h108:Nat.beq g 95 with
      |true=>
       simp only[h108]at h
       unfold cSingle at h
       split at h<;>first|(rw[z]at h;cases h)|cases h
      |false=>
       simp only[h108]at h
       exact h
theorem ev_all:∀n:Nat,EnvOk glS Tryz.prog (QP (all n))
 |0=>ev_0
 |n+1=>ev_step (ev_all n)
end Go.Sd
namespace Go.Sd
open Go Go.Cm Go.Proofs Go.Sc
set_option maxRecDepth 100000
def cBegin {β:Type} (args:List TV) (k:List TV→List TV→Option β):Option β:=
 match args with
 |[.d true 0 (.str s),.d true 0 (.int .i64 d)]=>if d<1∨d>64 then k [.d false 0 .nilp,.d false 0 (noD 1)] []else match Nat.ble s.size 65536 with
  |false=>k [.d false 0 .nilp,.d false 0 (noD 2)] []
  |true=>match tokS s.toList with
   |.inl (n,p)=>k [.d false 0 .nilp,.d false 0 (atD p (noD n))] []
   |.inr l=>k [.ob true [.ob true [.own false 4 (l.map tokT),.d false 0 (.int .i64 0)],.d false 0 (.int .i64 d)],.d false 0 .nili] []
 |_=>none
def cParse {β:Type} (args:List TV) (k:List TV→List TV→Option β):Option β:=
 match args with
 |[.d true 0 (.str s),.d true 0 (.int .i64 d)]=>match parseP s d with
  |.ok op nm ks p=>k [.d false 5 (fmD op nm ks p),.d false 0 .nili] []
  |.no n=>k [.d false 5 zF,.d false 0 (noD n)] []
  |.er p n=>k [.d false 5 zF,.d false 0 (atD p (noD n))] []
  |.bad=>none
 |_=>none
def Q3:Env:=QP (all 1002)
def Q4:Env:=Q3.add 39 io0 cBegin
def Q5:Env:=Q4.add 10 io0 cParse
end Go.Sd
namespace Go.Sd
open Go Go.Cm Go.Proofs Go.Sc
set_option maxRecDepth 100000
namespace A54
noncomputable def X:Fx:=⟨Tryz.prog,Q3,48,2⟩
theorem start {β:Type} (s:ByteArray) (d:Int) (k:List TV→List TV→Option β):evalF Tryz.prog Q3 Tryz.f39 [.d true 0 (.str s),.d true 0 (.int .i64 d)] k=if decide (d<1)=true then k [.d false 0 D.nilp,.d false 0 (.ifc 84 (.int .i64 1))] []else if decide (d>64)=true then k [.d false 0 D.nilp,.d false 0 (.ifc 84 (.int .i64 1))] []else match Nat.ble (ByteArray.size s) 65536 with
   |false=>k [.d false 0 D.nilp,.d false 0 (.ifc 84 (.int .i64 2))] []
   |true=>match tokS s.toList with
    |Sum.inl (n12,p13)=>k [.d false 0 D.nilp,.d false 0 (.ifc 114 (.pt 3 (.ag [D.int .i64 (↑p13:Int),D.ifc 84 (.int .i64 n12)])))] []
    |Sum.inr l17=>k [.ob true [.ob true [.own false 4 (List.map tokT l17),.d false 0 (.int .i64 0)],.d false 0 (.int .i64 d)],.d false 0 D.nili] []:=by kernel_rfl
end A54
namespace A25
noncomputable def X:Fx:=⟨Tryz.prog,Q4,48,2⟩
theorem start {β:Type} (s:ByteArray) (d:Int) (k:List TV→List TV→Option β):evalF Tryz.prog Q4 Tryz.f10 [.d true 0 (.str s),.d true 0 (.int .i64 d)] k=if d<1∨d>64 then k [.d false 5 (.ag [D.str (ByteArray.mk #[]),D.str (ByteArray.mk #[]),D.sl 5 [],D.int .i64 0]),.d false 0 (.ifc 84 (.int .i64 1))] []else match Nat.ble (ByteArray.size s) 65536 with
   |false=>k [.d false 5 (.ag [D.str (ByteArray.mk #[]),D.str (ByteArray.mk #[]),D.sl 5 [],D.int .i64 0]),.d false 0 (.ifc 84 (.int .i64 2))] []
   |true=>match tokS s.toList with
    |Sum.inl (n10,p11)=>k [.d false 5 (.ag [D.str (ByteArray.mk #[]),D.str (ByteArray.mk #[]),D.sl 5 [],D.int .i64 0]),.d false 0 (.ifc 114 (.pt 3 (.ag [D.int .i64 (↑p11:Int),D.ifc 84 (.int .i64 n10)])))] []
    |Sum.inr l15=>if okP (List.map tokT l15) (0:Int) d (1:Int) (Bd.mk 1002 1002 1002 1002 1002 1002 1002 1002).ni then match pImply (List.map tokT l15) (Int.toNat (d+1 - (1:Int))) (0:Int)with
     |PR.ok op19 nm20 ks21 p22 a23=>if 0≤a23 then match(List.map tokT l15)[a23.toNat]? with
      |some (.ag [D.int .i64 c27,D.str t28,D.int .i64 p29])=>if(!c27==0)=true then if 0≤a23 then match(List.map tokT l15)[a23.toNat]? with
       |some (.ag [D.int .i64 n32,D.str s33,D.int .i64 p34])=>k [.d false 5 (.ag [D.str (ByteArray.mk #[]),D.str (ByteArray.mk #[]),D.sl 5 [],D.int .i64 0]),.d false 0 (.ifc 114 (.pt 3 (.ag [D.int .i64 p34,D.ifc 84 (.int .i64 20)])))] []
       |x=>none else none else k [.d false 5 (.ag [D.str op19,D.str nm20,D.sl 5 ks21,D.int .i64 p22]),.d false 0 D.nili] []
      |x=>none else none
     |PR.syn p36 a37=>k [.d false 5 (.ag [D.str (ByteArray.mk #[]),D.str (ByteArray.mk #[]),D.sl 5 [],D.int .i64 0]),.d false 0 (.ifc 114 (.pt 3 (.ag [D.int .i64 p36,D.ifc 84 (.int .i64 20)])))] []
     |PR.deep p41 a42=>k [.d false 5 (.ag [D.str (ByteArray.mk #[]),D.str (ByteArray.mk #[]),D.sl 5 [],D.int .i64 0]),.d false 0 (.ifc 114 (.pt 3 (.ag [D.int .i64 p41,D.ifc 84 (.int .i64 21)])))] []
     |PR.no=>none else none:=by kernel_rfl
end A25
end Go.Sd
namespace Go.Sd
open Go Go.Cm Go.Proofs Go.Sc
set_option maxRecDepth 100000
theorem envq3:EnvOk glS Tryz.prog Q3:=ev_all 1002
theorem envq4:EnvOk glS Tryz.prog Q4:=envq3.fn mixed Tryz.func39 (by kernel_rfl) fun β args k r hr=>by
 unfold cBegin at hr
 split at hr
 ·rename_i s d
  have st:∀{γ:Type} (q:List TV→List TV→Option γ),evalF Tryz.prog Q3 Tryz.f39 [TV.d true 0 (.str s),TV.d true 0 (.int .i64 d)] q=_:=fun q=>A54.start s d q
  split at hr
  ·rename_i h0
   refine⟨_,_,hr,fun q=>?_⟩
   rw[st]
   by_cases h1:d<1
   ·rw[if_pos (by simpa using h1)];rfl
   ·rw[if_neg (by simpa using h1),if_pos (by have:=h0.resolve_left h1;simpa using this)];rfl
  ·rename_i h0
   have h1:¬decide (d<1)=true:=by simpa using fun h=>h0 (.inl h)
   have h2:¬decide (d>64)=true:=by simpa using fun h=>h0 (.inr h)
   simp only[if_neg h1,if_neg h2]at st
   cases hb:Nat.ble s.size 65536 with
   |false=>
    simp only[hb]at st hr
    exact⟨_,_,hr,fun q=>by rw[st];rfl⟩
   |true=>
    simp only[hb]at st hr
    cases ht:tokS s.toList with
    |inl e=>
     obtain⟨n,p⟩:=e
     simp only[ht]at st hr
     exact⟨_,_,hr,fun q=>by rw[st];rfl⟩
    |inr l=>
     simp only[ht]at st hr
     exact⟨_,_,hr,fun q=>by rw[st]⟩
 ·cases hr
theorem tok_len {s:ByteArray} {l:List Tok} (hb:Nat.ble s.size 65536=true) (ht:tokS s.toList=.inr l):(l.map tokT).length≤65537:=by
 rw[Nat.ble_eq]at hb
 have e:s.toList.length=s.size:=by rw[ByteArray.toList_eq];exact Array.length_toList
 obtain⟨us,h1,h2,_⟩:=tokS_last (by omega) ht
 rw[h1];simp;omega
theorem envq5:EnvOk glS Tryz.prog Q5:=envq4.fn mixed Tryz.func10 (by kernel_rfl) fun β args k r hr=>by
 unfold cParse at hr
 split at hr
 ·rename_i s d
  have st:∀{γ:Type} (q:List TV→List TV→Option γ),evalF Tryz.prog Q4 Tryz.f10 [TV.d true 0 (.str s),TV.d true 0 (.int .i64 d)] q=_:=fun q=>A25.start s d q
  unfold parseP at hr
  by_cases h0:d<1∨d>64
  ·rw[if_pos h0]at hr
   simp only[if_pos h0]at st
   exact⟨_,_,hr,fun q=>by rw[st];rfl⟩
  ·rw[if_neg h0]at hr
   simp only[if_neg h0]at st
   cases hb:Nat.ble s.size 65536 with
   |false=>
    simp only[hb]at st hr
    exact⟨_,_,hr,fun q=>by rw[st];rfl⟩
   |true=>
    simp only[hb]at st hr
    cases ht:tokS s.toList with
    |inl e=>
     obtain⟨n,p⟩:=e
     simp only[ht]at st hr
     exact⟨_,_,hr,fun q=>by rw[st];rfl⟩
    |inr l=>
     simp only[ht]at st hr
     have hl:=tok_len hb ht
     have hok:okP (l.map tokT) 0 d 1 (Bd.mk 1002 1002 1002 1002 1002 1002 1002 1002).ni:=⟨hl,by omega,by omega,by omega,by omega,by show _<1002;omega⟩
     simp only[if_pos hok,show(d+1 - 1).toNat=d.toNat by congr 1;omega]at st
     have hadv:=adv_imply (l.map tokT) d.toNat 0
     unfold endP at hr
     cases hp:pImply (l.map tokT) d.toNat 0 with
     |ok op nm ks p a=>
      rw[hp]at hadv
      simp only[Adv]at hadv
      simp only[hp]at st hr
      cases hk:tk (l.map tokT) a with
      |none=>simp only[hk]at hr;cases hr
      |some v=>
       obtain⟨c,t,p2⟩:=v
       simp only[hk]at hr
       simp only[if_pos (show(0:Int)≤a by omega),tk_some hk]at st
       by_cases hc:c=0
       ·rw[if_pos hc]at hr
        simp only[hc]at st
        exact⟨_,_,hr,fun q=>by rw[st];rfl⟩
       ·rw[if_neg hc]at hr
        have hc':(!c==0)=true:=by simpa using hc
        simp only[if_pos hc']at st
        exact⟨_,_,hr,fun q=>by rw[st];rfl⟩
     |syn p a=>
      simp only[hp]at st hr
      exact⟨_,_,hr,fun q=>by rw[st];rfl⟩
     |deep p a=>
      simp only[hp]at st hr
      exact⟨_,_,hr,fun q=>by rw[st];rfl⟩
     |no=>simp only[hp]at hr;cases hr
 ·cases hr
end Go.Sd

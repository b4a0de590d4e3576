/- slices.Clone of integers (after the kit's proof of the same): its contract. -/
import Derived.Test.YtbpndgllhhajoaaGreatDoorMak
import Derived.Deep.LoopGhost
import Derived.Lib.Walk
import Derived.Lib.SliceRun
set_option linter.unusedVariables false
set_option linter.unusedSimpArgs false
set_option maxRecDepth 100000
namespace Go.Sc
open Go Go.Cm
def intsB:List D→Bool
 |[]=>true
 |x::r=>match x with|.int .i64 _=>intsB r|_=>false
end Go.Sc
namespace Go.Sd
open Go Go.Proofs Go.RowKit Go.Lib Go.Cm
theorem info3:∃i0,Tryz.prog.info? 3=some i0∧i0.zero=some (.int .i64 0)∧i0.size=1∧i0.bytes=8:=⟨(Tryz.prog.info? 3).get (by kernel_rfl),(Option.some_get _).symm,by kernel_rfl,by kernel_rfl,by kernel_rfl⟩
theorem clone_nil (w:World):Calls Tryz.prog 49 #[.slice none 0 0] w fun e w'=>e=.returned (.slice none 0 0)∧w'=w:=by
 have q22:∀(w:World) (a:Option Addr) (n c n' c':Nat),(binOp .eql 23 (.slice a n c) (.slice none n' c')).run Tryz.prog w=.ok (.bool a.isNone) w:=fun w a n c n' c'=>Lib.run_eql_slice_nil w _ _ a n c n' c' Tryz.underlying23
 go_enter Tryz.func49,Tryz.ntmps49
 go_wp2
 go_ret
 exact⟨rfl,rfl⟩
set_option maxHeartbeats 2000000 in
theorem clone_some (ad:Addr) (n c:Nat) (news:List Value) (w:World) (hl:news.length=n) (hbig:n≤34359738368) (hc:∀(j:Nat) u,news[j]? =some u→ad.block<w.heap.size∧w.cell? (ad.add j)=some u) (h1:∀u∈news,u.oneCell'=true):
  Calls Tryz.prog 49 #[.slice (some ad) n c] w fun e w'=>∃v',e=.returned v'∧w'.ownsRow w.heap.size 3 1 v' n news∧v'≠.slice none 0 0∧Below w.heap.size w w':=by
 obtain⟨i0,hi,hz0,hz1,hz2⟩:=info3
 have q22:∀(w:World) (a:Option Addr) (n c n' c':Nat),(binOp .eql 23 (.slice a n c) (.slice none n' c')).run Tryz.prog w=.ok (.bool a.isNone) w:=fun w a n c n' c'=>Lib.run_eql_slice_nil w _ _ a n c n' c' Tryz.underlying23
 have u22:∀w,Sem.run Tryz.prog (underlying 23) w=.ok (TypeDesc.slice 3) w:=run_underlying Tryz.underlying23
 have A:Aside (∀(j:Nat) u,news[j]? =some u→ad.block<w.heap.size∧w.cell? (ad.add j)=some u):=hc
 clear hc
 go_enter Tryz.func49,Tryz.ntmps49
 go_wp2_with (at_builtin;refine wpList_append_own _ rfl _ _ 23 rfl w.heap.size 3 i0 (.int .i64 0) 1 8 Tryz.underlying23 hi hz0 hz1 hz2 rfl (by decide) _ _ _ rfl (World.ownsRow_made w #[] 0 (Nat.le_refl _) (Nat.zero_le _) rfl) ad n c news rfl ?qc1 ?qc2 ?qc3 ?qc4 ?qc5 ?qc6 ?_)
 case qc1=>omega
 case qc2=>
  intro j u hj
  exact Lib.cell?_alloc_some _ (A.out j u hj).2
 case qc3=>exact h1
 case qc4=>unfold maxLen;omega
 case qc5=>omega
 case qc6=>simp
 intro v' w1 hown hgrow hnil
 go_wp2
 go_ret
 refine⟨v',rfl,by simpa using hown,?_,?_⟩
 ·first|exact hnil|(intro e;exact absurd (hnil.1 e).1 (by simp))
 ·exact((Below.refl _ w).alloc (Nat.le_refl _) _).grown hgrow (by simp) (by intro k hk;simp[Value.ownBlock]at hk;omega)
theorem rf_ints {H H':Hp} {F F':Nat→Prop}:∀{xs:List D} {us:List Value},Go.Sc.intsB xs=true→RF H F xs us→us.length=xs.length∧(∀u∈us,u.oneCell'=true)∧RF H' F' xs us∧∀x∈xs,x.shape=0
 |[],us,_,h=>by
  simp only[RF]at h
  subst h
  exact⟨rfl,by simp,by simp[RF],by simp⟩
 |x::xs,us,hi,h=>by
  simp only[RF]at h
  obtain⟨u,rest,rfl,hu,hr⟩:=h
  unfold Go.Sc.intsB at hi
  split at hi
  ·rename_i v
   simp only[RA]at hu
   subst hu
   obtain⟨h1,h2,h3,h4⟩:=rf_ints (H':=H') (F':=F') hi hr
   refine⟨by simp[Value.cells,h1],?_,?_,?_⟩
   ·intro u hu
    simp only[Value.cells,List.cons_append,List.nil_append,List.mem_cons]at hu
    rcases hu with rfl|hu
    ·rfl
    ·exact h2 u hu
   ·simp only[RF]
    exact⟨_,rest,rfl,by simp[RA],h3⟩
   ·intro y hy
    rcases List.mem_cons.1 hy with rfl|hy
    ·rfl
    ·exact h4 y hy
  ·cases hi
theorem valid_clone {xs:List D} (hi:Go.Sc.intsB xs=true) (hn:xs.length≤34359738368):Valid glS Tryz.prog 49 [.d true 0 (.sl 0 xs)] [.d false 0 (.sl 0 xs)] []:=by
 intro w us M g hG hr _ hM
 simp only[RTs,RT,RA]at hr
 obtain⟨u,rest,M1,M2,rfl,rfl,⟨rfl,_,a,c,rfl,hc,hnil,hsh,vs,hrf,hlies⟩,rfl,rfl⟩:=hr
 obtain⟨h1,h2,_,_⟩:=rf_ints (H':=hp w) (F':=fun _=>True) hi hrf
 cases a with
 |none=>
  obtain rfl:=hnil rfl
  have hx:xs=[]:=by
   cases xs with
   |nil=>rfl
   |cons x xs=>simp at hc
  subst hx
  refine Runs.of_calls Tryz.func49 (by kernel_rfl) (by kernel_rfl) ((clone_nil w).mono fun e w'=>?_)
  rintro⟨rfl,rfl⟩
  refine⟨[.slice none 0 0],[],rfl,⟨rfl,?_,List.nodup_nil,by simp,Nat.le_refl _,fun b hb _=>rfl,rfl,rfl,rfl⟩⟩
  have hra:∀(H:Hp) (F:Nat→Prop),RA H F (.sl 0 []) (.slice none 0 0):=fun H F=>by
   rw[RA]
   exact⟨none,0,rfl,by simp,fun _=>rfl,by simp,[],by simp[RF],by simp⟩
  simp only[ioVals,List.append_nil,RTs]
  refine⟨_,_,[],[],rfl,rfl,?_,by simp⟩
  rw[RT]
  exact⟨rfl,rfl,hra _ _⟩
 |some ad=>
  have hcells:∀(j:Nat) u,vs[j]? =some u→ad.block<w.heap.size∧w.cell? (ad.add j)=some u:=by
   intro j u hj
   have hne:xs≠[]:=by
    rintro rfl
    simp at h1
    subst h1
    simp at hj
   obtain⟨ad',e,hF,hL⟩:=hlies hne
   cases e
   obtain⟨hs,cs,ty,fr,hh,hcs⟩:=hL
   have hh':w.heap[ad.block]? =some (.cells cs ty fr):=hh
   refine⟨(Array.getElem?_eq_some_iff.1 hh').1,?_⟩
   obtain⟨bl,off,sp⟩:=ad
   simp only at hs hh'
   subst hs
   have e:(Addr.add ⟨bl,off,none⟩ j)=⟨bl,off+j,none⟩:=by
    unfold Addr.add
    split
    ·rename_i h;subst h;rfl
    ·rfl
   rw[e]
   simp only[World.cell?,hh']
   exact hcs j u hj
  refine Runs.of_calls Tryz.func49 (by kernel_rfl) (by kernel_rfl) ((clone_some ad xs.length c vs w h1 hn hcells h2).mono fun e w'=>?_)
  rintro⟨v',rfl,hown,hne,hb⟩
  refine⟨[v'],[],rfl,⟨rfl,?_,List.nodup_nil,by simp,hb.size,fun b hb' _=>hb.block b hb',hb.os,hb.tape,hb.output⟩⟩
  obtain⟨hl,hown⟩:=hown
  rcases hown with⟨rfl,_⟩|⟨gb,cap,cur,rfl,hg1,hg2,hg3,hg4,hg5,hg6⟩
  ·exact(hne rfl).elim
  ·have hra:RA (hp w') (Fout w w' [] [] g false) (.sl 0 xs) (.slice (some ⟨gb,0,none⟩) xs.length cap):=by
    obtain⟨_,_,h3,h4⟩:=rf_ints (H':=hp w') (F':=Fout w w' [] [] g false) hi hrf
    rw[RA]
    refine⟨_,cap,rfl,hg3,(fun e=>by cases e),h4,vs,h3,fun _=>⟨_,rfl,⟨(Array.getElem?_eq_some_iff.1 hg2).1,by simp,.inr (.inl hg1)⟩,rfl,cur,3,(0,0),hg2,fun j u hj=>?_⟩⟩
    rw[←hg6,List.getElem?_take]at hj
    split at hj
    ·rw[Nat.zero_add, ←Array.getElem?_toList];exact hj
    ·cases hj
   simp only[ioVals,List.append_nil,RTs]
   refine⟨_,_,[],[],rfl,rfl,?_,by simp⟩
   rw[RT]
   exact⟨rfl,rfl,hra⟩
def cClone {β:Type} (args:List TV) (k:List TV→List TV→Option β):Option β:=
 match args with
 |[.d true 0 (.sl 0 xs)]=>chkK (Go.Sc.intsB xs=true∧xs.length≤big) (k [.d false 0 (.sl 0 xs)] [])
 |_=>none
theorem vcClone:VC 49 cClone:=by
 intro β args k r hr
 change cClone args k=some r at hr
 unfold cClone at hr
 split at hr
 ·rename_i xs
  obtain⟨⟨h0,h1⟩,hr⟩:=chkK_ok hr
  exact⟨_,_,hr,valid_clone h0 h1⟩
 ·cases hr
def WS:Env:=(W2.add 49 io0 cClone)
theorem envws:EnvOk glS Tryz.prog WS:=envw2.add vcClone
end Go.Sd

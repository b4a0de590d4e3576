/- The clean machine, part 32: code. -/
import Derived.Test.YtbpndgllhhajoaaGreatDoorMad
import Derived.Lib.Bytealg
import Derived.Laws.Strings2
import Derived.Laws.Externs
import Derived.KernelRfl
import Derived.Test.YtbpndgllhhajoaaGreatDoorProg
import Derived.Test.YtbpndgllhhajoaaGreatDoorMab
set_option linter.unusedVariables false
set_option linter.unusedSimpArgs false
namespace Go.Cm
section
variable {w0:World} {M0:Io} {L L':Lay} {s s':S} {tmps:List Value} {w w':World} {β:Type} {P:Program} {a:Act} {Q:Exit→Act→World→Prop}
def Post (w0:World) (M0:Io) (a0:Act) (k:Ex→S→Option β) (r:β):Exit→Act→World→Prop
 |.normal,a',w'=>∃s' L',Rel w0 M0 L' s' a'.tmps.toList w'∧a'.defers=a0.defers∧k .norm s'=some r
 |.exit id,a',w'=>∃s' L',Rel w0 M0 L' s' a'.tmps.toList w'∧a'.defers=a0.defers∧k (.exit id) s'=some r
 |.ret,a',w'=>∃s' L',Rel w0 M0 L' s' a'.tmps.toList w'∧a'.defers=a0.defers∧k .ret s'=some r
 |_,_,_=>False
theorem evalK_ok {gl:Gl} {X:Fx} (hE:EnvAt gl X.P X.E w0 M0) (hm:X.P.follows .mixedOrders=true):∀(c:Code) (β:Type) (xs:List (Nat×Nat)) (out:Nat) (s:S) (k:Ex→S→Option β) (r:β) (a:Act) (w:World) (L:Lay),
  Rel w0 M0 L s a.tmps.toList w→evalK X xs c out s k=some r→c.wp X.P (Post w0 M0 a k r) a w:=by
 intro c
 induction c with
 |skip=>exact fun β xs out s k r a w L R h=>wp_skip ⟨s,L,R,rfl,by simpa only[evalK]using h⟩
 |exit id=>exact fun β xs out s k r a w L R h=>wp_exit ⟨s,L,R,rfl,by simpa only[evalK]using h⟩
 |ret=>exact fun β xs out s k r a w L R h=>wp_ret ⟨s,L,R,rfl,by simpa only[evalK]using h⟩
 |region id ops draw=>
  intro β xs out s k r a w L R h
  simp only[evalK]at h
  cases draw with
  |false=>
   simp only at h
   refine wp_region ?_
   have:=opsK_ok (Q:=Post w0 M0 a k r) hE ops.toList 0 a L s w (by simp) R h (fun a' w' h=>h)
   rwa [Array.length_toList, ←List.range_eq_range']at this
  |true=>
   simp only at h
   split at h
   ·rename_i hok
    refine wp_region_any hm ?_
    have:=drawAny (Q:=Post w0 M0 a k r) hE hok ops.size 0 a L s {w with drawn:=w.drawn+1 } (by omega) (by omega) (R.drew _) (by simpa using h) (fun a' w' h=>h)
    rw[firstN_zero]
    have hc:cnt (firstN ops.size 0)=ops.size:=by
     rw[←firstN_zero];simp[cnt]
    rwa [hc]at this
   ·exact wp_region_each hm fun l hl=>regH_run (Q:=Post w0 M0 a k r) hE (L:=L) (w:={w with drawn:=w.drawn+1 }) (R.drew _) h (fun a' w' h=>h) hl
 |seq x y ihx ihy=>
  intro β xs out s k r a w L R h
  simp only[evalK]at h
  refine wp_seq (wp_mono (ihx β _ _ s _ r a w L R h) fun e a' w'=>?_)
  cases e with
  |normal=>
   rintro⟨s',L',R',hd,hk⟩
   have R2:Rel w0 M0 L' (match guarded x with|true=>s'.keep X.pin (live X.ret xs y out)|false=>s') a'.tmps.toList w':=by
    cases guarded x with
    |true=>exact R'.keep _ _
    |false=>exact R'
   refine wp_mono (ihy β _ _ _ _ r a' w' L' R2 hk) fun e a'' w''=>?_
   cases e<;>simp only[Post]<;>first|exact id|(rintro⟨s2,L2,R2,hd2,hk2⟩;exact⟨s2,L2,R2,hd2.trans hd,hk2⟩)
  |exit id=>exact fun h=>h
  |ret=>exact fun h=>h
  |_=>exact fun h=>h
 |cond c x y ihx ihy=>
  intro β xs out s k r a w L R h
  simp only[evalK]at h
  obtain⟨v,hv,h1⟩:=rdK_ok R rfl h
  clear h
  split at h1
  ·rename_i t sh b
   simp only[RW,RA]at hv
   have fin:∀e a' w',Post w0 M0 a (fun ex s=>match ex with|.norm=>k .norm (s.keep X.pin out)|ex=>k ex s) r e a' w'→Post w0 M0 a k r e a' w':=by
    intro e a' w'
    cases e with
    |normal=>rintro⟨s',L',R',hd,hk⟩;exact⟨_,L',R'.keep _ _,hd,hk⟩
    |exit id=>exact fun h=>h
    |ret=>exact fun h=>h
    |_=>exact fun h=>h
   refine wp_cond_split hv.2 (fun ht=>?_) (fun hf=>?_)
   ·rw[if_pos ht]at h1
    exact wp_mono (ihx β _ _ s _ r a w L R h1) fin
   ·rw[if_neg (by rw[hf];simp)]at h1
    exact wp_mono (ihy β _ _ s _ r a w L R h1) fin
  ·cases h1
 |block id b ih=>
  intro β xs out s k r a w L R h
  simp only[evalK]at h
  refine wp_block (wp_mono (ih β _ _ s _ r a w L R h) fun e a' w'=>?_)
  cases e with
  |normal=>rintro⟨s',L',R',hd,hk⟩;exact⟨_,L',R'.keep _ _,hd,hk⟩
  |exit j=>
   rintro⟨s',L',R',hd,hk⟩
   simp only[Exit.inBlock]
   simp only at hk
   split at hk
   ·rename_i hj
    rw[beq_true]at hj
    rw[if_pos hj]
    exact⟨_,L',R'.keep _ _,hd,hk⟩
   ·rename_i hj
    rw[beq_false]at hj
    rw[if_neg hj]
    exact⟨s',L',R',hd,hk⟩
  |ret=>exact fun h=>h
  |_=>exact fun h=>h
 |loop b ih=>
  intro β xs out s k r a w L R h
  simp only[evalK]at h
  split at h
  ·rename_i ex s2 hlp
   obtain⟨n,hn⟩:=Lp.of_some hlp
   refine wp_rounds (fun n a' w'=>∃s' L',Rel w0 M0 L' s' a'.tmps.toList w'∧a'.defers=a.defers∧Lp.iter _ n s'=some (ex,s2)) ⟨_,L,R.keep _ _,rfl,hn⟩ ?_
   rintro n a1 w1 ⟨s1,L1,R1,hd1,hi⟩
   cases n with
   |zero=>simp[Lp.iter]at hi
   |succ n=>
    simp only[Lp.iter]at hi
    split at hi
    ·rename_i s3 hf
     refine wp_mono (ih _ _ _ s1 _ _ a1 w1 L1 R1 hf) fun e a' w'=>?_
     cases e with
     |normal=>
      rintro⟨s',L',R',hd,hk⟩
      simp only[Option.some.injEq,Sum.inl.injEq]at hk
      subst hk
      exact⟨n,Nat.lt_succ_self n,_,L',R'.keep _ _,hd.trans hd1,hi⟩
     |exit id=>rintro⟨s',L',R',hd,hk⟩;simp at hk
     |ret=>rintro⟨s',L',R',hd,hk⟩;simp at hk
     |_=>exact fun h=>h
    ·rename_i res hf
     cases hi
     refine wp_mono (ih _ _ _ s1 _ _ a1 w1 L1 R1 hf) fun e a' w'=>?_
     cases e with
     |normal=>rintro⟨s',L',R',hd,hk⟩;simp at hk
     |exit id=>
      rintro⟨s',L',R',hd,hk⟩
      simp only[Option.some.injEq,Sum.inr.injEq,Prod.mk.injEq]at hk
      obtain⟨rfl,rfl⟩:=hk
      exact⟨_,L',R'.keep _ _,hd.trans hd1,h⟩
     |ret=>
      rintro⟨s',L',R',hd,hk⟩
      simp only[Option.some.injEq,Sum.inr.injEq,Prod.mk.injEq]at hk
      obtain⟨rfl,rfl⟩:=hk
      exact⟨_,L',R'.keep _ _,hd.trans hd1,h⟩
     |_=>exact fun h=>h
    ·cases hi
  ·cases h
 |_=>intro β xs out s k r a w L R h;simp[evalK]at h
end
end Go.Cm
namespace Go.Cm
section
variable {w0:World} {M0:Io} {L L':Lay} {s s':S} {tmps:List Value} {w w':World} {β:Type} {P:Program} {a:Act} {H:Hp} {F:Fr}
structure Begins (L':Lay) (KH:List (Key×Hdr)) (j:Nat) (rows:Rows):Prop where
 has:∀kh∈KH,L'.k kh.1=some kh.2
 no:∀k:Key,k.row∈ids rows→(∀kh∈KH,kh.1≠k)→L'.k k=none
 own:∀i,j≤i→(∀kh∈KH,kh.1≠.pl (PR+i) 0)→L'.k (.pl (PR+i) 0)=none
def OwnFact (L':Lay) (H:Hp) (F:Fr) (j:Nat) (us:List Value) (r:Nat×Bool×List V):Prop:=
 ∃i v u,j≤i∧r=(PR+i,true,[v])∧us[i - j]? =some u∧RV L' H F (PR+i) 0 v u
def StartOk (H:Hp) (F:Fr) (j:Nat) (us:List Value) (M:List Nat) (vs:List V) (rows owns:Rows):Prop:=
 ∃KH:List (Key×Hdr),KH.map (·.2.block)=M∧(∀kh∈KH,kh.1.row∈ids rows∨∃i,j≤i∧kh.1=.pl (PR+i) 0)∧vs.length=us.length∧
  ((ids rows).Nodup→(∀r∈rows,r.1<PS)→(KH.map (·.1)).Nodup∧∀L',Begins L' KH j rows→RWL L' H F vs us∧(∀r∈rows,RowFact L' H F r)∧∀r∈owns,OwnFact L' H F j us r)
theorem OwnFact.shift {j:Nat} {rest:List Value} {u:Value} {r:Nat×Bool×List V} (h:OwnFact L' H F (j+1) rest r):OwnFact L' H F j (u::rest) r:=by
 obtain⟨i,v,u',h1,h2,h3,h5⟩:=h
 refine⟨i,v,u',by omega,h2,?_,h5⟩
 rw[show i - j=(i - (j+1))+1 by omega];simpa using h3
theorem start_ob {j b:Nat} {rest:List Value} {M2 Ms:List Nat} {vs':List V} {rows' owns' below:Rows} (ih:StartOk H F (j+1) rest M2 vs' rows' owns') {v:V} {u:Value} {arr:Array Value} {ety:TypeId} {cells:List TV} {cs:List V} {agg:Bool}
  (hv:∀L':Lay,L'.k (.ob (j+1))=some ⟨b,0,0,0,0⟩→RW L' H F v u) (g1:H b=some (.cells arr ety (0,0))) (g2:RTs H F cells arr.toList Ms) (htk:takeCells deep (j+1) 0 cells=some (cs,below)):
  StartOk H F j (u::rest) (b::Ms++M2) (v::vs') ((j+1,agg,cs)::below++rows') ((PR+j,true,[v])::owns'):=by
 obtain⟨K2,e2,k2,l2,f2⟩:=ih
 have shift:∀{u:Value} {r:Nat×Bool×List V} {L':Lay},OwnFact L' H F (j+1) rest r→OwnFact L' H F j (u::rest) r:=fun h=>h.shift
 obtain⟨K1,e1,k1,l1,f1⟩:=(takes_ok deep).1 (j+1) 0 cells arr.toList Ms cs below g2 htk
 have hids:ids ((j+1,agg,cs)::below++rows')=(j+1)::(ids below++ids rows'):=by simp[ids]
 refine⟨(.ob (j+1),⟨b,0,0,0,0⟩)::(K1++K2),by simp[e1,e2],fun kh hkh=>?_,by simp[l2],fun hn hlt=>?_⟩
 ·rw[hids]
  rcases List.mem_cons.1 hkh with rfl|hkh
  ·exact .inl (.head _)
  ·rcases List.mem_append.1 hkh with hkh|hkh
   ·rcases keysIn_row (k1 kh hkh)with h|h
    ·rw[h];exact .inl (.head _)
    ·exact .inl (.tail _ (List.mem_append_left _ h))
   ·rcases k2 kh hkh with h|⟨i,hi,e⟩
    ·exact .inl (.tail _ (List.mem_append_right _ h))
    ·exact .inr ⟨i,by omega,e⟩
 ·rw[hids,List.nodup_cons,List.nodup_append]at hn
  simp only[List.mem_append,not_or]at hn
  obtain⟨⟨n1,n2⟩,n3,n4,n5⟩:=hn
  obtain⟨d1,f1⟩:=f1 n3 n1
  obtain⟨d2,f2⟩:=f2 n4 (fun r hr=>hlt r (List.mem_append_right _ hr))
  have hidlt:∀i∈(j+1)::(ids below++ids rows'),i<PS:=by
   intro i hi
   rw[←hids]at hi
   obtain⟨r,hr,e⟩:=List.mem_map.1 hi
   rw[←e];exact hlt r hr
  have krow:∀kh∈K1,kh.1.row=j+1∨kh.1.row∈ids below:=fun kh hkh=>keysIn_row (k1 kh hkh)
  have krow1:∀kh∈K1,kh.1.row∈(j+1)::ids below:=fun kh hkh=>by
   rcases krow kh hkh with h|h
   ·rw[h];exact .head _
   ·exact .tail _ h
  have apart:∀k:Key,k.row∈(j+1)::ids below→∀kh∈K2,kh.1≠k:=by
   intro k hk kh hkh e
   have hkl:k.row<PS:=hidlt _ (by rcases List.mem_cons.1 hk with h|h;rw[h];exact .head _;exact .tail _ (List.mem_append_left _ h))
   rcases k2 kh hkh with h|⟨i,hi,e'⟩
   ·rw[e]at h
    rcases List.mem_cons.1 hk with h'|h'
    ·rw[h']at h;exact n2 h
    ·exact n5 _ h' _ h rfl
   ·rw[e]at e';rw[e']at hkl;simp[Key.row,PR,PS]at hkl;omega
  have hob:∀kh∈K1,kh.1≠.ob (j+1):=fun kh hkh=>keysIn_ne n1 (k1 kh hkh)
  refine⟨?_,fun L' B=>?_⟩
  ·simp only[List.map_cons,List.nodup_cons,List.map_append,List.mem_append,not_or,List.nodup_append]
   refine⟨⟨fun hm=>?_,fun hm=>?_⟩,d1,d2,fun k hk k' hk' e=>?_⟩
   ·obtain⟨kh,m,e⟩:=List.mem_map.1 hm;exact hob kh m e
   ·obtain⟨kh,m,e⟩:=List.mem_map.1 hm;exact apart _ (by exact .head _) kh m e
   ·subst e
    obtain⟨kh,m1,e1⟩:=List.mem_map.1 hk
    obtain⟨kh',m2,e2⟩:=List.mem_map.1 hk'
    exact apart k (by rw[←e1];exact krow1 kh m1) kh' m2 e2
  ·have hno:=B.no
   rw[hids]at hno
   obtain⟨q1,q2⟩:=f1 L' ⟨fun kh hkh=>B.has kh (.tail _ (List.mem_append_left _ hkh)),fun k hk hn=>by
    have hr:=keysIn_row hk
    have hr':k.row∈(j+1)::ids below:=by
     rcases hr with h|h
     ·rw[h];exact .head _
     ·exact .tail _ h
    refine hno k (by rcases List.mem_cons.1 hr' with h|h;rw[h];exact .head _;exact .tail _ (List.mem_append_left _ h)) fun kh hkh e=>?_
    rcases List.mem_cons.1 hkh with rfl|hkh
    ·exact keysIn_ne n1 hk e.symm
    ·rcases List.mem_append.1 hkh with hkh|hkh
     ·exact hn kh hkh e
     ·exact apart k hr' kh hkh e⟩
   obtain⟨q3,q4,q5⟩:=f2 L' ⟨fun kh hkh=>B.has kh (.tail _ (List.mem_append_right _ hkh)),fun k hk hn=>hno k (.tail _ (List.mem_append_right _ hk)) fun kh hkh e=>by
    rcases List.mem_cons.1 hkh with rfl|hkh
    ·rw[←e]at hk;exact n2 hk
    ·rcases List.mem_append.1 hkh with hkh|hkh
     ·rw[←e]at hk
      rcases krow kh hkh with h|h
      ·rw[h]at hk;exact n2 hk
      ·exact n5 _ h _ hk rfl
     ·exact hn kh hkh e,fun i hi hn=>B.own i (by omega) fun kh hkh e=>by
    rcases List.mem_cons.1 hkh with rfl|hkh
    ·cases e
    ·rcases List.mem_append.1 hkh with hkh|hkh
     ·have h1:=krow1 kh hkh
      rw[e]at h1
      have:=hidlt (Key.pl (PR+i) 0).row (by rcases List.mem_cons.1 h1 with h|h;rw[h];exact .head _;exact .tail _ (List.mem_append_left _ h))
      simp[Key.row,PR,PS]at this;omega
     ·exact hn kh hkh e⟩
   have hk:=B.has (.ob (j+1),⟨b,0,0,0,0⟩) (.head _)
   simp only at hk
   refine⟨?_,fun r hr=>?_,fun r hr=>?_⟩
   ·simp only[RWL]
    exact⟨_,rest,rfl,hv L' hk,q3⟩
   ·rcases List.mem_cons.1 hr with rfl|hr
    ·exact⟨_,arr,ety,hk,g1,by rw[l1, ←RTs.length g2,Array.length_toList],fun q v hv=>by
      obtain⟨u,h1,h2⟩:=q1 q v hv
      rw[Nat.zero_add]at h2
      exact⟨u,by simpa using h1,h2⟩⟩
    ·rcases List.mem_append.1 hr with h|h
     ·exact q2 r h
     ·exact q4 r h
   ·rcases List.mem_cons.1 hr with rfl|hr
    ·exact⟨j,v,u,Nat.le_refl _,rfl,by simp,RV.of_rw (hv L' hk)⟩
    ·exact shift (q5 r hr)
theorem startK_ok:∀(xs:List TV) (j:Nat) (us:List Value) (M:List Nat) (vs:List V) (rows owns:Rows),RTs H F xs us M→startK j xs=some (vs,rows,owns)→
  StartOk H F j us M vs rows owns
 |[],j,us,M,vs,rows,owns,hr,h=>by
  simp only[startK]at h
  cases h
  simp only[RTs]at hr
  obtain⟨rfl,rfl⟩:=hr
  exact⟨[],rfl,by simp,rfl,fun _ _=>⟨by simp,fun L' _=>⟨by simp[RWL],by simp,by simp⟩⟩⟩
 |x::xs,j,us,M,vs,rows,owns,hr,h=>by
  simp only[RTs]at hr
  obtain⟨u,rest,M1,M2,rfl,rfl,h1,h2⟩:=hr
  simp only[startK]at h
  split at h
  ·cases h
  ·rename_i vs' rows' owns' hs
   obtain⟨K2,e2,k2,l2,f2⟩:=startK_ok xs (j+1) rest M2 vs' rows' owns' h2 hs
   have shift:∀{u:Value} {r:Nat×Bool×List V} {L':Lay},OwnFact L' H F (j+1) rest r→OwnFact L' H F j (u::rest) r:=by
    rintro u r L' ⟨i,v,u',h1,h2,h3,h5⟩
    refine⟨i,v,u',by omega,h2,?_,h5⟩
    rw[show i - j=(i - (j+1))+1 by omega];simpa using h3
   split at h
   ·
    rename_i t sh y
    cases h
    simp only[RT]at h1
    obtain⟨rfl,g1,g2⟩:=h1
    refine⟨K2,by simpa using e2,fun kh hkh=>(k2 kh hkh).imp id fun⟨i,hi,e⟩=>⟨i,by omega,e⟩,by simp[l2],fun hn hlt=>?_⟩
    obtain⟨d2,g⟩:=f2 hn hlt
    refine⟨d2,fun L' B=>?_⟩
    obtain⟨q1,q2,q3⟩:=g L' ⟨B.has,B.no,fun i hi hno=>B.own i (by omega) hno⟩
    exact⟨by simp only[RWL];exact⟨u,rest,rfl,by
     unfold datV
     split
     ·simp only[RW];simpa[RA]using g2
     ·simp only[RW];exact⟨g1,g2⟩,q1⟩,q2,fun r hr=>shift (q3 r hr)⟩
   ·
    rename_i t sh ys
    cases h
    simp only[RT]at h1
    obtain⟨hs,h1⟩:=h1
    have hne:∀kh∈K2,(∀r∈rows,r.1<PS)→kh.1≠.pl (PR+j) 0:=by
     intro kh hkh hlt e
     rcases k2 kh hkh with h|⟨i,hi,e'⟩
     ·rw[e]at h
      obtain⟨r,hr,e2⟩:=List.mem_map.1 h
      have:=hlt r hr
      simp only[Key.row]at e2
      rw[e2]at this
      simp[PR,PS]at this;omega
     ·rw[e]at e';injection e' with e' _;omega
    rcases h1 with⟨hms,rfl,rfl,rfl⟩|⟨hd,rfl,g1,g2,g3,rfl⟩
    ·refine⟨K2,by simpa using e2,fun kh hkh=>(k2 kh hkh).imp id fun⟨i,hi,e⟩=>⟨i,by omega,e⟩,by simp[l2],fun hn hlt=>?_⟩
     obtain⟨d2,g⟩:=f2 hn hlt
     refine⟨d2,fun L' B=>?_⟩
     obtain⟨q1,q2,q3⟩:=g L' ⟨B.has,B.no,fun i hi hno=>B.own i (by omega) hno⟩
     have hk:=B.own j (Nat.le_refl _) (fun kh hkh=>hne kh hkh hlt)
     have hrw:RW L' H F (.bf (PR+j) 0) (.slice none 0 0):=by simp only[RW];rw[hk];exact trivial
     refine⟨by simp only[RWL];exact⟨_,rest,rfl,hrw,q1⟩,q2,fun r hr=>?_⟩
     rcases List.mem_cons.1 hr with rfl|hr
     ·exact⟨j,.own t sh [],.slice none 0 0,Nat.le_refl _,rfl,by simp,by simp,by rw[hk];exact⟨hms,rfl,rfl⟩⟩
     ·exact shift (q3 r hr)
    ·refine⟨(.pl (PR+j) 0,hd)::K2,by simp[e2],fun kh hkh=>?_,by simp[l2],fun hn hlt=>?_⟩
     ·rcases List.mem_cons.1 hkh with rfl|hkh
      ·exact .inr ⟨j,Nat.le_refl _,rfl⟩
      ·exact(k2 kh hkh).imp id fun⟨i,hi,e⟩=>⟨i,by omega,e⟩
     obtain⟨d2,g⟩:=f2 hn hlt
     refine⟨by
      simp only[List.map_cons,List.nodup_cons]
      refine⟨fun hm=>?_,d2⟩
      obtain⟨kh,m,e⟩:=List.mem_map.1 hm
      exact hne kh m hlt e,fun L' B=>?_⟩
     obtain⟨q1,q2,q3⟩:=g L' ⟨fun kh hkh=>B.has kh (.tail _ hkh),fun k hk hno=>B.no k hk fun kh hkh e=>by
       rcases List.mem_cons.1 hkh with rfl|hkh
       ·rw[←e]at hk
        obtain⟨r,hr,e2⟩:=List.mem_map.1 hk
        have:=hlt r hr
        simp only[Key.row]at e2
        rw[e2]at this
        simp[PR,PS]at this;omega
       ·exact hno kh hkh e,fun i hi hno=>B.own i (by omega) fun kh hkh e=>by
       rcases List.mem_cons.1 hkh with rfl|hkh
       ·injection e with e _;omega
       ·exact hno kh hkh e⟩
     have hk:=B.has (.pl (PR+j) 0,hd) (.head _)
     simp only at hk
     have hrw:RW L' H F (.bf (PR+j) 0) (hd.val ys.length):=by simp only[RW];rw[hk];simp only;exact(Hdr.val_len (fun hs=>g1 (by rw[←g2];exact hs))).symm
     refine⟨by simp only[RWL];exact⟨_,rest,rfl,hrw,q1⟩,q2,fun r hr=>?_⟩
     rcases List.mem_cons.1 hr with rfl|hr
     ·refine⟨j,.own t sh ys,hd.val ys.length,Nat.le_refl _,rfl,by simp,hs,?_⟩
      rw[hk];exact⟨rfl,g1,g2,g3⟩
     ·exact shift (q3 r hr)
   ·
    rename_i agg cells
    split at h
    ·rename_i cs below htk
     cases h
     simp only[RT]at h1
     obtain⟨b,arr,ety,Ms,rfl,g1,rfl,g2⟩:=h1
     exact start_ob ⟨K2,e2,k2,l2,f2⟩ (fun L' hk=>by simp only[RW];exact⟨_,hk,rfl⟩) g1 g2 htk
    ·cases h
   ·
    cases h
    simp only[RT]at h1
    subst h1
    refine⟨K2,by simpa using e2,fun kh hkh=>(k2 kh hkh).imp id fun⟨i,hi,e⟩=>⟨i,by omega,e⟩,by simp[l2],fun hn hlt=>?_⟩
    obtain⟨d2,g⟩:=f2 hn hlt
    refine⟨d2,fun L' B=>?_⟩
    obtain⟨q1,q2,q3⟩:=g L' ⟨B.has,B.no,fun i hi hno=>B.own i (by omega) hno⟩
    exact⟨by simp only[RWL];exact⟨u,rest,rfl,by simp only[RW],q1⟩,q2,fun r hr=>shift (q3 r hr)⟩
   ·
    rename_i t y
    split at h
    ·rename_i agg cells
     split at h
     ·rename_i cs below htk
      cases h
      simp only[RT]at h1
      obtain⟨ad,u1,rfl,g3,g4,b,arr,ety,Ms,rfl,g1,rfl,g2⟩:=h1
      exact start_ob ⟨K2,e2,k2,l2,f2⟩ (fun L' hk=>by simp only[RW];exact⟨ad,_,rfl,g3,g4,_,hk,rfl⟩) g1 g2 htk
     ·cases h
    ·cases h
end
end Go.Cm
namespace Go.Cm
section
variable {w0:World} {M0:Io} {L L':Lay} {s s':S} {tmps:List Value} {w w':World} {β:Type} {P:Program} {a:Act} {H:Hp} {F F':Fr}
theorem RWL.mono' (hF:∀t b,F t b→F' t b):∀{vs:List V} {us:List Value},RWL L H F vs us→RWL L H F' vs us:=fun{vs us} h=>
 RWL.mono (B:=fun _=>False) (fun _ _=>rfl) (fun t b hb=>⟨hF t b hb,rfl⟩) vs us (by
  have key:∀vs:List V,V.offL (fun _=>False) vs:=fun vs=>by
   induction vs with
   |nil=>simp[V.offL]
   |cons v vs ih=>exact⟨v.off_none,ih⟩
  exact key vs) h
def firstL (KH:List (Key×Hdr)) (us:List Value):Lay:=⟨fun k=>look k KH,fun i=>(us[i - PR]?).toList⟩
theorem find_num:∀(vs:List V) (i j:Nat),Tm.find j (Tm.num i vs)=match(if i≤j then vs[j - i]? else none)with|some v=>v|none=>.undef
 |[],i,j=>by simp[Tm.num,Tm.find]
 |v::vs,i,j=>by
  simp only[Tm.num,Tm.find]
  cases h:Nat.beq i j with
  |true=>
   rw[beq_true]at h
   subst h
   simp
  |false=>
   rw[beq_false]at h
   dsimp only
   rw[find_num vs (i+1) j]
   by_cases hij:i≤j
   ·rw[if_pos hij,if_pos (by omega),show j - i=(j - (i+1))+1 by omega,List.getElem?_cons_succ]
   ·rw[if_neg hij,if_neg (by omega)]
theorem fixA_length (all:List TV):∀(xs:List TV) (vs:List V),(fixA all xs vs).length=vs.length
 |[],vs=>by simp[fixA]
 |x::xs,[]=>by simp[fixA]
 |x::xs,v::vs=>by simp only[fixA,List.length_cons,fixA_length all xs vs]
theorem fixA_get (all:List TV):∀(xs:List TV) (vs:List V) (i:Nat) (v:V),(fixA all xs vs)[i]? =some v→
  (∃t b f avs,xs[i]? =some (.fc t b f avs)∧v=match b with|true=>.fb f (avs.map (avV all))|false=>.fn f (avs.map (avV all)))∨vs[i]? =some v
 |[],vs,i,v,h=>.inr (by simpa[fixA]using h)
 |x::xs,[],i,v,h=>by simp[fixA]at h
 |x::xs,u::vs,0,v,h=>by
  simp only[fixA,List.getElem?_cons_zero,Option.some.injEq]at h
  cases x with
  |fc t b f avs=>exact .inl ⟨t,b,f,avs,rfl,h.symm⟩
  |_=>exact .inr (by simpa using h)
 |x::xs,u::vs,i+1,v,h=>by
  simp only[fixA,List.getElem?_cons_succ]at h ⊢
  exact fixA_get all xs vs i v h
theorem startK_get:∀{xs:List TV} {j:Nat} {vs:List V} {rows owns:Rows},startK j xs=some (vs,rows,owns)→∀{k:Nat} {g:Bool} {cells:List TV},xs[k]? =some (.ob g cells)→vs[k]? =some (.rp (j+k+1) 0)
 |[],j,vs,rows,owns,h,k,g,cells,hk=>by simp at hk
 |x::xs,j,vs,rows,owns,h,k,g,cells,hk=>by
  simp only[startK]at h
  split at h
  ·cases h
  ·rename_i vs' rows' owns' hs
   have key:∀v r o,some (v::vs',r,o)=some (vs,rows,owns)→(k=0→v=.rp (j+1) 0)→vs[k]? =some (.rp (j+k+1) 0):=by
    intro v r o e hv
    cases e
    cases k with
    |zero=>rw[hv rfl];rfl
    |succ k=>
     have:=startK_get hs (k:=k) (by simpa using hk)
     rw[List.getElem?_cons_succ,this,show j+1+k+1=j+(k+1)+1 by omega]
   split at h
   ·exact key _ _ _ h (fun e=>by subst e;simp at hk)
   ·exact key _ _ _ h (fun e=>by subst e;simp at hk)
   ·split at h
    ·exact key _ _ _ h (fun _=>rfl)
    ·cases h
   ·exact key _ _ _ h (fun e=>by subst e;simp at hk)
   ·split at h
    ·split at h
     ·exact key _ _ _ h (fun e=>by subst e;simp at hk)
     ·cases h
    ·cases h
theorem fixA_ok {xs:List TV} {us:List Value} {vs:List V} {rows owns:Rows} (hs:startK 0 xs=some (vs,rows,owns)) (hF:∀t b,F t b→F true b) (ha:Als H F xs us) (h:RWL L H F vs us):RWL L H F (fixA xs xs vs) us:=by
 have one:∀{t:Bool} {avs:List (Nat×Bool)} {cs:List Value},AvsOk H F xs us t avs cs→RWL L H F (avs.map (avV xs)) cs:=by
  intro t avs
  induction avs with
  |nil=>intro cs h;simpa only[AvsOk,RWL,List.map_nil]using h
  |cons a avs ih=>
   intro cs hc
   obtain⟨c,rest,rfl,⟨u,h1,⟨g,cells,h2⟩,h3⟩,h4⟩:=hc
   simp only[List.map_cons,RWL]
   refine⟨c,rest,rfl,?_,ih h4⟩
   obtain⟨k,z⟩:=a
   have hk:=startK_get hs h2
   rw[Nat.zero_add]at hk
   obtain⟨u',hu',hr⟩:=RWL.get h hk
   simp only at h1
   rw[h1]at hu';cases hu'
   unfold avV
   simp only at h2
   simp only[h2]
   cases z with
   |false=>simp only at h3;subst h3;exact hr
   |true=>
    obtain⟨ad,e1,e2,e3⟩:=h3
    simp only[RW]
    simp only[RW]at hr
    exact⟨ad,u,e1,hF _ _ e2,e3,hr⟩
 refine RWL.mk (by rw[fixA_length];exact RWL.length h) fun i v u hv hu=>?_
 rcases fixA_get _ _ _ _ _ hv with⟨t,b,f,avs,h1,rfl⟩|h1
 ·obtain⟨cs,h2,h3⟩:=ha _ _ _ _ _ h1
  rw[hu]at h2;cases h2
  cases b with
  |true=>simp only[RW,funcVal];exact⟨cs,rfl,one h3⟩
  |false=>simp only[RW,funcVal];exact⟨cs,rfl,one h3⟩
 ·obtain⟨u',hu',hr⟩:=RWL.get h h1
  rw[hu]at hu';cases hu'
  exact hr
theorem start_rel {xs:List TV} {us:List Value} {M:List Nat} {g:Nat→Prop} {vs:List V} {rows owns:Rows} (hr:RTs (hp w) (Fin w M g) xs us M) (ha:Als (hp w) (Fin w M g) xs us) (hM:M.Nodup) (hs:startK 0 xs=some (vs,rows,owns))
  (hn:(ids rows).Nodup) (hi:∀r∈rows,r.1≠0∧r.1<PS) (n:Nat):
  ∃L,Rel w ⟨fun b=>b∈M,g,fun i=>(us[i - PR]?).toList⟩ L ⟨⟨vs.length+(n - vs.length),Tm.num 0 (fixA xs xs vs)⟩,rows++owns⟩ (us++List.replicate (n - us.length) undef) w∧(∀k h,L.k k=some h→h.block∈M):=by
 obtain⟨KH,e1,k1,l1,f1⟩:=startK_ok xs 0 us M vs rows owns hr hs
 obtain⟨d1,f1⟩:=f1 hn (fun r hr=>(hi r hr).2)
 have hblk:∀k h,(firstL KH us).k k=some h→h.block∈M:=fun k h hk=>by
  rw[←e1];exact List.mem_map.2 ⟨_,look_mem hk,rfl⟩
 obtain⟨q1,q2,q3⟩:=f1 (firstL KH us) ⟨fun kh hkh=>look_of d1 kh hkh,fun k _ hno=>by
   cases h:look k KH with
   |none=>exact h
   |some h'=>exact(hno _ (look_mem h) rfl).elim,fun i _ hno=>by
   cases h:look (.pl (PR+i) 0) KH with
   |none=>exact h
   |some h'=>exact(hno _ (look_mem h) rfl).elim⟩
 have hF:∀t b,Fin w M g t b→Fz w ⟨fun b=>b∈M,g,fun i=>(us[i - PR]?).toList⟩ (firstL KH us) w t b:=fun t b hb=>
  ⟨hb.1,fun k h hk e=>hb.2.1 (e▸hblk k h hk),.inl ⟨hb.2.2.1,hb.2.2.2⟩⟩
 replace q1:=fixA_ok hs (fun t b hb=>⟨hb.1,hb.2.1,rfl,hb.2.2.2⟩) ha q1
 have hlf:=fixA_length xs xs vs
 refine⟨firstL KH us,⟨?_,?_,?_,?_,?_,Nat.le_refl _,fun _ _ _=>rfl,rfl,rfl,rfl,fun _ _=>rfl⟩,hblk⟩
 ·intro k k' h h' hk hk' e
  have:=block_inj (by rw[e1];exact hM) _ (look_mem hk) _ (look_mem hk') e
  cases this;rfl
 ·intro k h hk
  have hm:=hblk k h hk
  obtain⟨o,ho⟩:=RTs.mem hr _ hm
  exact⟨(Array.getElem?_eq_some_iff.1 ho).1,.inl hm⟩
 ·simp[l1]
 ·intro i o v hv
  cases i with
  |zero=>
   have hv':(⟨vs.length+(n - vs.length),Tm.num 0 (fixA xs xs vs)⟩:Tm).get o=some v:=hv
   have hlt:=Tm.get_lt hv'
   simp only at hlt
   unfold Tm.get at hv'
   split at hv'
   ·have hf:=find_num (fixA xs xs vs) 0 o
    simp only[Nat.zero_le,Nat.sub_zero,true_and]at hf
    rw[hf]at hv'
    by_cases ho:o<(fixA xs xs vs).length
    ·rw[List.getElem?_eq_getElem ho]at hv'
     cases hv'
     obtain⟨u,hu,hr⟩:=RWL.get (RWL.mono' hF q1) (List.getElem?_eq_getElem ho)
     exact⟨u,by simp only[uAt];rw[List.getElem?_append_left (by omega)];exact hu,.of_rw hr⟩
    ·rw[List.getElem?_eq_none (by omega)]at hv'
     cases hv'
     refine⟨undef,?_,by simp[RV,RW]⟩
     simp only[uAt]
     rw[List.getElem?_append_right (by omega),List.getElem?_replicate,if_pos (by omega)]
   ·cases hv'
  |succ i=>
   obtain⟨agg,cells,hf,ho⟩:=S.find_of_cell hv
   rw[S.find_append]at hf
   cases hfr:S.find (i+1) rows with
   |some r'=>
    rw[hfr]at hf
    cases hf
    have hm:=S.find_mem hfr
    obtain⟨h,cs,e,g1,g2,g3,g4⟩:=q2 _ hm
    obtain⟨u,hu,hr⟩:=g4 o v ho
    exact⟨u,by rw[uAt_obj (hi _ hm).2 (by simp) g1 g2];exact hu,hr.mono' hF⟩
   |none=>
    rw[hfr]at hf
    have hm:=S.find_mem hf
    obtain⟨j,v0,u,_,e,h1,h2⟩:=q3 _ hm
    simp only[Prod.mk.injEq]at e
    obtain⟨e1,_,e3⟩:=e
    subst e3
    cases o with
    |succ o=>simp at ho
    |zero=>
     simp at ho
     subst ho
     refine⟨u,?_,?_⟩
     ·rw[uAt_ps (by rw[e1];simp[PR,PS];omega),e1]
      simp only[firstL,Nat.add_sub_cancel_left]
      simp only[Nat.sub_zero]at h1
      rw[h1];rfl
     ·rw[e1];exact h2.mono' hF
 ·intro i agg cells hf hlt
  simp only at hf
  rw[S.find_append]at hf
  cases hfr:S.find i rows with
  |some r'=>
   rw[hfr]at hf
   cases hf
   have hm:=S.find_mem hfr
   obtain⟨h,cs,e,g1,g2,g3,g4⟩:=q2 _ hm
   exact⟨(hi _ hm).1,h,cs,e,g1,g2,g3⟩
  |none=>
   rw[hfr]at hf
   have hm:=S.find_mem hf
   obtain⟨j,v0,u,_,e,_⟩:=q3 _ hm
   simp only[Prod.mk.injEq]at e
   rw[e.1]at hlt
   simp[PR,PS]at hlt;omega
end
end Go.Cm
namespace Go.Cm
section
variable {w0:World} {M0:Io} {L L':Lay} {s s':S} {tmps:List Value} {w w':World} {β:Type} {P:Program} {a:Act}
def resOne (tmps:Array Value):ResultVar→Sem Value
 |.tmp t=>pure (tmps.getD t undef)
 |.cell a t=>do loadVar t (←asAddr (tmps.getD a undef))
theorem results_eq (fn:Func) (tmps:Array Value):results fn tmps=(do
  let vs ←fn.results.mapM (resOne tmps)
  pure (if h:vs.size=1 then vs[0]else .tuple vs)):=by
 unfold results
 congr 1
theorem asAddr_load {T:TypeId} {ua u:Value} {w w':World} (h:(Instr.loadAt T ua).run P w=.ok u w'):(do loadVar T (←asAddr ua):Sem Value).run P w=.ok u w':=by
 unfold Instr.loadAt Instr.sureAddr at h
 cases ua with
 |pointer ad=>cases ad with
  |some ad=>simpa[asAddr]using h
  |none=>simp[stuck]at h
 |_=>simp[stuck]at h
theorem eval_getD {t:Tmp}:a.eval (.tmp t)=a.tmps.getD t undef:=rfl
theorem resVs_ok (R:Rel w0 M0 L s a.tmps.toList w):∀(rs:List ResultVar) (Ts:List TypeId) (k:List (Bool×V×TypeId)→Option β) (r:β),resVs P rs Ts s k=some r→
  ∃es us,RWs L (hp w) (Fz w0 M0 L w) es us∧(rs.mapM (resOne a.tmps)).run P w=.ok us w∧k es=some r
 |[],Ts,k,r,h=>⟨[],[],by simp[RWs],by simp,by simpa[resVs]using h⟩
 |x::rs,[],k,r,h=>by simp[resVs]at h
 |x::rs,T::Ts,k,r,h=>by
  simp only[resVs]at h
  cases x with
  |tmp t=>
   simp only at h
   obtain⟨v,hv,h1⟩:=rdK_ok R rfl h
   obtain⟨es,us,h2,h3,h4⟩:=resVs_ok R rs Ts _ r h1
   refine⟨_,a.eval (.tmp t)::us,?_,?_,h4⟩
   ·simp only[RWs];exact⟨_,_,rfl,hv,h2⟩
   ·simp only[List.mapM_cons,resOne,Sem.run_bind,Sem.run_pure,Result.andThen,h3];rfl
  |cell t U=>
   simp only at h
   obtain⟨v,hv,h1⟩:=rdK_ok R rfl h
   obtain⟨v2,u2,hv2,h1,hl⟩:=loadK_ok R hv h1
   obtain⟨es,us,h2,h3,h4⟩:=resVs_ok R rs Ts _ r h1
   refine⟨_,u2::us,?_,?_,h4⟩
   ·simp only[RWs];exact⟨_,_,rfl,hv2,h2⟩
   ·have:=asAddr_load hl
    rw[eval_getD]at this
    have h5:(resOne a.tmps (.cell t U)).run P w=.ok u2 w:=this
    simp only[List.mapM_cons,Sem.run_bind,h5,Sem.run_pure,Result.andThen,h3]
theorem outVal_eq (us:List Value):(if h:us.toArray.size=1 then us.toArray[0]else .tuple us.toArray)=outVal us:=by
 unfold outVal
 match us with
 |[]=>rfl
 |[v]=>rfl
 |v::v'::us=>rw[dif_neg (by simp)]
theorem results_ok {fn:Func} {us:List Value} (h:(fn.results.toList.mapM (resOne a.tmps)).run P w=.ok us w):(results fn a.tmps).run P w=.ok (outVal us) w:=by
 rw[results_eq,Array.mapM_eq_mapM_toList, ←outVal_eq, ←bind_pure_comp]
 simp only[Sem.run_bind,h,Result.andThen,Sem.run_pure]
theorem outEs_ok (R:Rel w0 M0 L s tmps w):∀(xs:List TV) (us:List Value) (j:Nat),us.length=xs.length→(∀i u,us[i]? =some u→M0.ps (PR+(j+i))=[u])→
  RWs L (hp w) (Fz w0 M0 L w) (outEs s j xs) (ioVals xs us)
 |[],us,j,hl,hp=>by cases us with|nil=>simp[outEs,ioVals,RWs]|cons=>simp at hl
 |x::xs,[],j,hl,hp=>by simp at hl
 |x::xs,u::us,j,hl,hp=>by
  have ih:=outEs_ok R xs us (j+1) (by simpa using hl) (fun i u h=>by
   have:=hp (i+1) u (by simpa using h)
   rwa [show j+(i+1)=j+1+i by omega]at this)
  have hu:RW L (Cm.hp w) (Fz w0 M0 L w) (outV s j) u:=by
   unfold outV
   cases hc:s.cell (PR+j) 0 with
   |none=>simp[RW]
   |some v=>
    obtain⟨u',h1,h2⟩:=R.val _ _ _ hc
    rw[uAt_ps (by simp[PR,PS];omega),R.pins _ (by omega)]at h1
    have h3:=hp 0 u (by simp)
    rw[Nat.add_zero]at h3
    rw[h3]at h1
    simp at h1
    subst h1
    exact borrow_rw h2
  cases x with
  |d=>simpa[outEs,ioVals]using ih
  |own=>simp only[outEs,ioVals,RWs];exact⟨_,_,rfl,hu,ih⟩
  |ob=>simp only[outEs,ioVals,RWs];exact⟨_,_,rfl,hu,ih⟩
  |fc=>simpa[outEs,ioVals]using ih
  |cpo=>simp only[outEs,ioVals,RWs];exact⟨_,_,rfl,hu,ih⟩
theorem RWs.append {H:Hp} {F:Fr}:∀{es fs:List (Bool×V×TypeId)} {us vs:List Value},RWs L H F es us→RWs L H F fs vs→RWs L H F (es++fs) (us++vs)
 |[],fs,us,vs,h,k=>by simp only[RWs]at h;subst h;exact k
 |e::es,fs,us,vs,h,k=>by
  simp only[RWs,List.cons_append]at h ⊢
  obtain⟨u,rest,rfl,h1,h2⟩:=h
  exact⟨u,rest++vs,rfl,h1,RWs.append h2 k⟩
theorem nodupN_nodup:∀{l:List Nat},nodupN l=true→l.Nodup:=fun h=>nodupN_ok h
theorem valid_of {gl:Gl} {E:Env} {f:FuncId} {fn:Func} {args res outs:List TV} (hE:EnvOk gl P E) (hm:P.follows .mixedOrders=true) (hf:P.funcs[f]? =some fn) (hn:(fn.name== "runtime.NumGoroutine")=false)
  (h:evalF P E fn args (fun a b=>some (a,b))=some (res,outs)):Valid gl P f args res outs:=by
 intro w us M g hG hr ha hM
 unfold evalF at h
 split at h
 ·rename_i c vs rows owns hb hs
  split at h
  ·rename_i hok
   simp only[Bool.and_eq_true,List.all_eq_true,Nat.blt_eq]at hok
   have hlen:=RTs.length hr
   obtain⟨L,R,hL⟩:=start_rel (w:=w) (g:=g) hr ha hM hs (nodupN_nodup hok.1) (fun r hr=>⟨by have:=hok.2 r hr;omega,(hok.2 r hr).2⟩) fn.ntmps
   refine Runs.of_calls hf hn (by rw[hb];rfl) (calls_of_wp hf hb ?_)
   have R0:Rel w ⟨fun b=>b∈M,g,fun i=>(us[i - PR]?).toList⟩ L ⟨⟨vs.length+(fn.ntmps - vs.length),Tm.num 0 (fixA args args vs)⟩,rows++owns⟩
     ({tmps:=us.toArray++Array.replicate (fn.ntmps - us.toArray.size) undef,defers:=[] }:Act).tmps.toList w:=by
    simpa using R
   refine wp_mono (evalK_ok (X:=⟨P,E,retBits fn.results.toList,args.length⟩) (M0:=⟨fun b=>b∈M,g,fun i=>(us[i - PR]?).toList⟩) ⟨hE,hG⟩ hm c _ _ _ _ _ _ _ w L R0 h) fun e a' w'=>?_
   have fin:∀(s':S) (L':Lay),Rel w ⟨fun b=>b∈M,g,fun i=>(us[i - PR]?).toList⟩ L' s' a'.tmps.toList w'→
     resVs P fn.results.toList fn.resultTypes.toList s' (fun es=>handK P (es++outEs s' 0 args) s' fun _ tvs _ _=>some (tvs.take es.length,tvs.drop es.length))=some (res,outs)→
     ∃v,(results fn a'.tmps).run P w'=.ok v w'∧∃rs M',Ending.returned v=.returned (outVal rs)∧Back w w' M g args us res outs rs M':=by
    intro s' L' R' hk
    obtain⟨es,rs,h1,h2,h3⟩:=resVs_ok R' _ _ _ _ hk
    refine⟨outVal rs,results_ok h2,rs,?_⟩
    have h4:=outEs_ok R' args us 0 hlen (fun i u hu=>by simp[hu])
    obtain⟨u,tvs,ks,s1,L1,Hd,h5⟩:=hand_ok R' (RWs.append h1 h4) h3
    simp only[Option.some.injEq,Prod.mk.injEq]at h5
    obtain⟨rfl,rfl⟩:=h5
    have hes:=RWs.length h1
    refine⟨blks L1 ks,rfl,?_⟩
    have hl2:=Hd.len
    rw[List.length_append]at hl2
    have R1:=Hd.rel
    have hM':∀b∈blks L1 ks,∃k h,L1.k k=some h∧h.block=b:=fun b hb=>by
     obtain⟨k,_,h,e1,e2⟩:=mem_blks.1 hb
     exact⟨k,h,e1,e2⟩
    refine⟨by rw[List.length_take];omega,?_,Hd.nodup,fun b hb=>?_,R1.size,fun b hb hn=>R1.old b hb hn,R1.os,R1.tape,R1.output⟩
    ·rw[List.take_append_drop]
     refine RTs.mono (fun t b hb=>⟨⟨hb.1,fun hm=>?_,hb.2.2⟩,rfl⟩) _ _ _ (fun _ _=>rfl) Hd.rt
     obtain⟨k,h,e1,e2⟩:=hM' b hm
     exact hb.2.1 k h e1 e2
    ·obtain⟨k,h,e1,e2⟩:=hM' b hb
     have:=R1.own k h e1
     rw[e2]at this
     rcases this.2 with h|h
     ·exact .inl h
     ·exact .inr ⟨h,this.1⟩
   cases e with
   |normal=>rintro⟨s',L',R',hd,hk⟩;exact⟨hd,fin s' L' R' hk⟩
   |ret=>rintro⟨s',L',R',hd,hk⟩;exact⟨hd,fin s' L' R' hk⟩
   |exit id=>rintro⟨s',L',R',hd,hk⟩;simp at hk
   |_=>exact fun h=>h.elim
  ·cases h
 ·cases h
end
end Go.Cm
namespace Go.Cm
section
variable {β:Type}
noncomputable def roundK (X:Fx) (xs:List (Nat×Nat)) (b:Code) (s:S):Option (S ⊕ (Ex×S)):=
 evalK X xs b (live X.ret xs b 0) s fun ex s=>match ex with
  |.norm=>some (.inl (s.keep X.pin (live X.ret xs b 0)))
  |.exit id=>some (.inr (.exit id,s.keep X.pin (exitBits xs id)))
  |.ret=>some (.inr (.ret,s.keep X.pin X.ret))
inductive Kf where
 |seq (xs:List (Nat×Nat)) (b:Code) (out:Nat)
 |cond (out:Nat)
 |block (id out:Nat)
noncomputable def applyK (X:Fx) (fin:Ex→S→Option β):List Kf→Ex→S→Option β
 |[],ex,s=>fin ex s
 |.seq xs b out::st,ex,s=>match ex with|.norm=>evalK X xs b out s (applyK X fin st)|ex=>applyK X fin st ex s
 |.cond out::st,ex,s=>match ex with|.norm=>applyK X fin st .norm (s.keep X.pin out)|ex=>applyK X fin st ex s
 |.block id out::st,ex,s=>match ex with
  |.norm=>applyK X fin st .norm (s.keep X.pin out)
  |.exit j=>match Nat.beq j id with|true=>applyK X fin st .norm (s.keep X.pin out)|false=>applyK X fin st (.exit j) s
  |.ret=>applyK X fin st .ret s
noncomputable def goLp (X:Fx) (xs:List (Nat×Nat)) (b:Code) (st:List Kf) (fin:Ex→S→Option β) (s:S):Option β:=
 match Lp (roundK X xs b) s with
 |some (ex,s)=>applyK X fin st ex s
 |none=>none
noncomputable def finK (P:Program) (fn:Func) (args:List TV) (k:List TV→List TV→Option β) (ex:Ex) (s:S):Option β:=
 match ex with
 |.exit _=>none
 |_=>resVs P fn.results.toList fn.resultTypes.toList s fun es=>handK P (es++outEs s 0 args) s fun _ tvs _ _=>k (tvs.take es.length) (tvs.drop es.length)
def finR (X:Fx) (xs:List (Nat×Nat)) (b:Code) (ex:Ex) (s:S):Option (S ⊕ (Ex×S)):=
 match ex with
 |.norm=>some (.inl (s.keep X.pin (live X.ret xs b 0)))
 |.exit id=>some (.inr (.exit id,s.keep X.pin (exitBits xs id)))
 |.ret=>some (.inr (.ret,s.keep X.pin X.ret))
theorem goLp_of {X:Fx} {xs:List (Nat×Nat)} {b:Code} {st:List Kf} {fin:Ex→S→Option β} {s:S} {ex:Ex} {s':S} (h:Lp (roundK X xs b) s=some (ex,s')):goLp X xs b st fin s=applyK X fin st ex s':=by
 unfold goLp;rw[h]
theorem Lp_step {σ α:Type} {f:σ→Option (σ ⊕ α)} {s s':σ} (h:f s=some (.inl s')) {r:α} (h2:Lp f s'=some r):Lp f s=some r:=by
 obtain⟨n,hn⟩:=Lp.of_some h2
 exact Lp.eq_of (n:=n+1) (by simp only[Lp.iter,h,hn])
theorem Lp_exit {σ α:Type} {f:σ→Option (σ ⊕ α)} {s:σ} {r:α} (h:f s=some (.inr r)):Lp f s=some r:=Lp.eq_of (n:=1) (by simp only[Lp.iter,h])
def sub:List Nat→Code→Code
 |[],c=>c
 |i::p,c=>match c with
  |.seq a b=>match i with|0=>sub p a|_=>sub p b
  |.cond _ a b=>match i with|0=>sub p a|_=>sub p b
  |.block _ b=>sub p b
  |.loop b=>sub p b
  |c=>c
def body (fn:Func):Code:=match fn.body with|some c=>c|none=>.skip
def Env.add (E:Env) (f:FuncId) (io:Nat→Bool) (c:{β:Type}→List TV→(List TV→List TV→Option β)→Option β):Env:=
 ⟨fun g args k=>match Nat.beq g f with|true=>c args k|false=>E.c g args k,fun g=>match Nat.beq g f with|true=>io|false=>E.io g⟩
def Env.none:Env:=⟨fun _ _ _=>Option.none,fun _ _=>false⟩
theorem EnvOk.none {gl:Gl} {P:Program}:EnvOk gl P Env.none:=fun _ _ _ _ _ h=>by simp[Env.none]at h
theorem EnvOk.add {gl:Gl} {P:Program} {E:Env} {f:FuncId} {io:Nat→Bool} {c:{β:Type}→List TV→(List TV→List TV→Option β)→Option β} (h:EnvOk gl P E)
  (hc:∀(β:Type) (args:List TV) (k:List TV→List TV→Option β) (r:β),c args k=some r→∃res outs,k res outs=some r∧Valid gl P f args res outs):EnvOk gl P (E.add f io c):=by
 intro β g args k r hr
 simp only[Env.add]at hr
 split at hr
 ·rename_i e
  rw[beq_true]at e
  subst e
  exact hc β args k r hr
 ·exact h β g args k r hr
end
end Go.Cm
namespace Go.Sc
open Go
abbrev T8:=List UInt8
def B (l:T8):ByteArray:=⟨l.toArray⟩
theorem B_of (s:ByteArray):s=B s.data.toList:=by cases s;simp[B]
theorem B_size (l:T8):(B l).size=l.length:=by simp[B,ByteArray.size]
theorem B_get (l:T8) (i:Nat):(B l)[i]? =l[i]? :=by
 by_cases h:i<l.length
 ·rw[ByteArray.getElem?_lt' _ _ (by rw[B_size];exact h)]
  rw[List.getElem?_eq_getElem h]
  rfl
 ·rw[ByteArray.getElem?_ge' _ _ (by rw[B_size];exact h)]
  rw[List.getElem?_eq_none (by omega)]
theorem B_list (l:T8):(B l).toList=l:=ByteArray.toList_mk l
theorem B_cut (l:T8) (a b:Nat):(B l).extract a b=B ((l.drop a).take (b - a)):=ByteArray.extract_mk l a b
def kindI (c:Int):Int:=
 if 97≤c∧c≤122∨65≤c∧c≤90∨c=95 then 1
 else if 48≤c∧c≤57 then 2
 else if c=34 then 3
 else if c∈[45,60,62,33,61,46,91,93,40,41,58,59,44,43,42,38,124,63,39]then 4
 else -1
theorem indexByte_mem (l:T8) (c:UInt8):(0≤Lib.indexByte l c)↔c∈l:=by
 induction l with
 |nil=>simp[Lib.indexByte]
 |cons b l ih=>
  have hg:=Lib.indexByte_ge l c
  unfold Lib.indexByte
  by_cases hb:b=c
  ·simp[hb]
  ·rw[if_neg (by simpa using hb)]
   by_cases h:Lib.indexByte l c= -1
   ·rw[if_pos (by simpa using h)]
    rw[h]at ih
    simp only[List.mem_cons,(Ne.symm hb:c≠b),false_or, ←ih]
   ·rw[if_neg (by simpa using h)]
    simp only[List.mem_cons,(Ne.symm hb:c≠b),false_or, ←ih]
    omega
theorem firstIdx_eq (l:T8) (c:UInt8):firstIdx (B l) c=Lib.indexByte l c:=by
 rw[←Lib.find_range l c 0]
 unfold firstIdx
 have e:(List.range l.length).map (· +0)=List.range l.length:=by simp
 rw[e,B_size]
 have:(List.range l.length).find? (fun i=>(B l)[i]! ==c)=(List.range l.length).find? (fun i=>l.getD (i - 0) 0==c):=by
  apply Lib.find_congr
  intro i hi
  have hi:=List.mem_range.1 hi
  have h1:(B l)[i]! =l[i]:=by
   simp only[B]
   rw[getElem!_pos _ i (by simpa[ByteArray.size]using hi)]
   rfl
  rw[h1,Nat.sub_zero]
  simp[hi]
 rw[this]
 cases (List.range l.length).find? (fun i=>l.getD (i - 0) 0==c)<;>simp
end Go.Sc
namespace Go.Sc
open Go
def idxS (s:ByteArray) (c:Int):Int:=firstIdx s c.toNat.toUInt8
def hasP (s p:ByteArray):Bool:=p.toList.isPrefixOf s.toList
def indexS (s:ByteArray) (c:UInt8):Int:=Lib.indexByte s.toList c
def valI:T8→Int→Option Int
 |[],n=>some n
 |c::r,n=>if n>(9223372036854775807 - ((c.toNat:Int) - 48)).tdiv 10 then none else valI r (10*n+((c.toNat:Int) - 48))
def runL (p:Int→Bool) (l:T8):Nat:=(l.takeWhile fun c=>p (kindI c.toNat)).length
def quotedL (l:T8):Nat:=
 match l with
 |[]=>0
 |_::r=>
  let n:=(r.takeWhile fun c=>c != 34).length
  if r.length≤n then 0 else
  if n<1∨32<n then 0 else
  if(r.take n).all (fun c=>32≤c.toNat&&c.toNat≤126)then n+2 else 0
def small (s:ByteArray):Prop:=s.size≤1152921504606846976
instance (s:ByteArray):Decidable (small s):=by unfold small;infer_instance
def inS (s:ByteArray) (at':Int):Prop:=small s∧0≤at'∧at'≤s.size
instance (s:ByteArray) (a:Int):Decidable (inS s a):=by unfold inS;infer_instance
def digitsL (l:T8):Prop:=∀c∈l,48≤c.toNat∧c.toNat≤57
instance (l:T8):Decidable (digitsL l):=by unfold digitsL;infer_instance
def may1 (k:Int):Bool:=k==1||k==2
def may2 (k:Int):Bool:=k==2
def marks:List T8:=[[45,62],[60,61],[62,61],[33,61],[61,62],[46,46]]
def markL (l:T8):Nat:=if marks.any (·.isPrefixOf l)then 2 else if l.head? =some 46 then 0 else 1
def isWs (c:UInt8):Bool:=c==32||c==9||c==10||c==13
def blankL (l:T8):Nat:=
 match l with
 |[]=>0
 |c::r=>
  if isWs c then 1+blankL r
  else match c,r with
   |47,47::q=>let n:=(q.takeWhile fun c=>c != 10).length;2+n+blankL (q.drop n)
   |_,_=>0
  termination_by l.length
  decreasing_by
 ·simp
 ·simp;omega
def oneL (l:T8):Int ⊕ (Int×T8×Nat):=
 match l with
 |[]=>.inl 20
 |c::_=>
  let t:=kindI c.toNat
  if t=1 then let n:=runL (fun k=>k==1||k==2) l;.inr (1,l.take n,n)
  else if t=2 then let n:=runL (fun k=>k==2) l;if(valI (l.take n) 0).isSome then .inr (2,l.take n,n)else .inl 10
  else if t=3 then let n:=quotedL l;if 0<n then .inr (3,(l.drop 1).take (n - 2),n)else .inl 20
  else if t=4 then let n:=markL l;if n=0 then .inl 20 else .inr (4,l.take n,n)
  else .inl 20
abbrev Tok:=Int×T8×Nat
def toksL (n:Nat) (l:T8) (p:Nat):(Int×Nat) ⊕ List Tok:=
 match n with
 |0=>.inl (20,p)
 |n+1=>match l with
  |[]=>.inr [(0,[],p)]
  |_=>match oneL l with
   |.inl e=>.inl (e,p)
   |.inr (k,t,m)=>
    let b:=blankL (l.drop m)
    match toksL n ((l.drop m).drop b) (p+m+b)with
    |.inl e=>.inl e
    |.inr r=>.inr ((k,t,p)::r)
def tokS (l:T8):(Int×Nat) ⊕ List Tok:=toksL (l.length+1) (l.drop (blankL l)) (blankL l)
def tokT (x:Tok):Cm.D:=.ag [.int .i64 x.1,.str (B x.2.1),.int .i64 x.2.2]
def signs:List T8:=[[45,62],[60,61],[62,61],[33,61],[61,62],[46,46],[91],[93],[40],[41],[58],[59],[44],[43],[45],[42],[38],[124],[33],[61],[60],[62],[63],[39]]
end Go.Sc
namespace Go.Cm
section
variable {gl:Gl} {P:Program} {E:Env}
inductive Atom:D→Value→Prop where
 |int (k:IntKind) (n:Int):Atom (.int k n) (.int k n)
 |bool (b:Bool):Atom (.bool b) (.bool b)
 |str (s:ByteArray):Atom (.str s) (.string s)
inductive Atoms:List TV→List Value→Prop where
 |nil:Atoms [] []
 |cons {t:Bool} {x:D} {u:Value} {xs:List TV} {us:List Value}:Atom x u→Atoms xs us→Atoms (.d t 0 x::xs) (u::us)
theorem Atom.ra {x:D} {u:Value} (h:Atom x u) {H:Hp} {F:Nat→Prop}:RA H F x u∧x.shape=0:=by cases h<;>simp[RA,D.shape]
theorem Atom.eq {x:D} {u v:Value} (h:Atom x u) {H:Hp} {F:Nat→Prop} (k:RA H F x v):v=u:=by cases h<;>simpa[RA]using k
theorem Atoms.rt {xs:List TV} {us:List Value} (h:Atoms xs us) {H:Hp} {F:Fr}:RTs H F xs us []:=by
 induction h with
 |nil=>simp[RTs]
 |cons h _ ih=>simp only[RTs];exact⟨_,_,[],[],rfl,rfl,by simp only[RT];exact⟨trivial,(h.ra (H:=H) (F:=F true)).2,h.ra.1⟩,ih⟩
theorem Atoms.eq {xs:List TV} {us:List Value} (h:Atoms xs us) {H:Hp} {F:Fr} {vs:List Value} {M:List Nat} (k:RTs H F xs vs M):vs=us∧M=[]:=by
 induction h generalizing vs M with
 |nil=>simpa only[RTs]using k
 |cons h _ ih=>
  simp only[RTs]at k
  obtain⟨u,rest,M1,M2,rfl,rfl,h1,h2⟩:=k
  obtain⟨rfl,rfl⟩:=ih h2
  simp only[RT]at h1
  exact⟨by rw[h.eq h1.2.2],by simp[h1.1]⟩
theorem Atoms.io {xs:List TV} {us:List Value} (h:Atoms xs us):ioVals xs us=[]:=by
 induction h with
 |nil=>rfl
 |cons _ _ ih=>simpa[ioVals]using ih
theorem valid_set {f:FuncId} {args res:List TV} {us rs:List Value} (ha:Atoms args us) (hr:Atoms res rs) (h:∀w,(callFunc f us.toArray).run P w=.ok (.value (outVal rs)) w):Valid gl P f args res []:=by
 intro w vs M g hG hrt _ hM
 obtain⟨rfl,rfl⟩:=ha.eq hrt
 unfold Runs
 rw[h w]
 refine⟨rs,[],rfl,⟨RTs.length (hr.rt (H:=hp w) (F:=Fin w [] g)),?_,List.nodup_nil,by simp,Nat.le_refl _,fun _ _ _=>rfl,rfl,rfl,rfl⟩⟩
 rw[List.append_nil,ha.io,List.append_nil]
 exact hr.rt
theorem EnvOk.fn {f:FuncId} {fn:Func} {io:Nat→Bool} {c:{β:Type}→List TV→(List TV→List TV→Option β)→Option β} (h:EnvOk gl P E)
  (hm:P.follows .mixedOrders=true) (hf:P.funcs[f]? =some fn) (hn:(fn.name== "runtime.NumGoroutine")=false)
  (hc:∀(β:Type) (args:List TV) (k:List TV→List TV→Option β) (r:β),c args k=some r→∃res outs,k res outs=some r∧∀{γ:Type} (q:List TV→List TV→Option γ),evalF P E fn args q=q res outs):
  EnvOk gl P (E.add f io c):=
 h.add fun β args k r hr=>by
  obtain⟨res,outs,h1,h2⟩:=hc β args k r hr
  exact⟨res,outs,h1,valid_of h hm hf hn (h2 _)⟩
end
end Go.Cm
namespace Go.Sd
open Go Go.Cm Go.Proofs Go.Sc
set_option maxRecDepth 100000
theorem mixed:Tryz.prog.follows .mixedOrders=true:=by kernel_rfl
theorem idx_set (s:ByteArray) (c:Int) (w:World):(callFunc 143 #[.string s,.int .u8 c]).run Tryz.prog w=.ok (.value (.int .i64 (firstIdx s c.toNat.toUInt8))) w:=by
 rw[run_callFunc_extern (e:=Extern.BytealgIndexByte.indexByte) Tryz.func143 (by kernel_rfl) (by kernel_rfl) (by kernel_rfl) (by kernel_rfl),run_indexByte_string]
 rfl
def cIdx {β:Type} (args:List TV) (k:List TV→List TV→Option β):Option β:=
 match args with
 |[.d true 0 (.str s),.d true 0 (.int .u8 c)]=>k [.d false 0 (.int .i64 (idxS s c))] []
 |_=>none
def cHas {β:Type} (args:List TV) (k:List TV→List TV→Option β):Option β:=
 match args with
 |[.d true 0 (.str s),.d true 0 (.str p)]=>k [.d false 0 (.bool (hasP s p))] []
 |_=>none
def cIndex {β:Type} (args:List TV) (k:List TV→List TV→Option β):Option β:=
 match args with
 |[.d true 0 (.str s),.d true 0 (.str p)]=>match p.toList with
  |[c]=>k [.d false 0 (.int .i64 (indexS s c))] []
  |_=>none
 |_=>none
def cCut {β:Type} (args:List TV) (k:List TV→List TV→Option β):Option β:=
 match args with
 |[.d true 0 (.str s),.d true 0 (.str p)]=>match p.toList with
  |[c]=>chkK (small s) (match Nat.ble s.size (indexS s c).toNat||decide (indexS s c<0)with
   |true=>k [.d false 0 (.str s),.d false 0 (.str ⟨#[]⟩),.d false 0 (.bool false)] []
   |false=>k [.d false 0 (.str (s.extract 0 (indexS s c).toNat)),.d false 0 (.str (s.extract ((indexS s c).toNat+1) s.size)),.d false 0 (.bool true)] [])
  |_=>none
 |_=>none
def cKind {β:Type} (args:List TV) (k:List TV→List TV→Option β):Option β:=
 match args with
 |[.d true 0 (.int .u8 c)]=>chkK (0≤c∧c<256) (k [.d false 0 (.int .i64 (kindI c))] [])
 |_=>none
def cMay {β:Type} (p:Int→Bool) (args:List TV) (k:List TV→List TV→Option β):Option β:=
 match args with
 |[.d true 0 (.int .i64 c)]=>k [.d false 0 (.bool (p c))] []
 |_=>none
def cRun {β:Type} (args:List TV) (k:List TV→List TV→Option β):Option β:=
 match args with
 |[.d true 0 (.str s),.d true 0 (.int .i64 a),.d true 0 (.fn g [])]=>chkK (inS s a) (match Nat.beq g 128 with
  |true=>k [.d false 0 (.int .i64 (runL may1 (s.toList.drop a.toNat)))] []
  |false=>match Nat.beq g 129 with
   |true=>k [.d false 0 (.int .i64 (runL may2 (s.toList.drop a.toNat)))] []
   |false=>none)
 |_=>none
def cDigits {β:Type} (args:List TV) (k:List TV→List TV→Option β):Option β:=
 match args with
 |[.d true 0 (.str s)]=>chkK (small s∧digitsL s.toList) (match valI s.toList 0 with
  |some n=>k [.d false 0 (.int .i64 n),.d false 0 (.bool true)] []
  |none=>k [.d false 0 (.int .i64 0),.d false 0 (.bool false)] [])
 |_=>none
def cQuoted {β:Type} (args:List TV) (k:List TV→List TV→Option β):Option β:=
 match args with
 |[.d true 0 (.str s)]=>chkK (small s∧0<s.size) (k [.d false 0 (.int .i64 (quotedL s.toList))] [])
 |_=>none
def cMark {β:Type} (args:List TV) (k:List TV→List TV→Option β):Option β:=
 match args with
 |[.d true 0 (.str s)]=>chkK (0<s.size) (k [.d false 0 (.int .i64 (markL s.toList))] [])
 |_=>none
def cBlank {β:Type} (args:List TV) (k:List TV→List TV→Option β):Option β:=
 match args with
 |[.d true 0 (.str s),.d true 0 (.int .i64 a)]=>chkK (inS s a) (k [.d false 0 (.int .i64 (blankL (s.toList.drop a.toNat)))] [])
 |_=>none
def atD (p:Int) (e:D):D:=.ifc 114 (.pt 3 (.ag [.int .i64 p,e]))
def noD (n:Int):D:=.ifc 84 (.int .i64 n)
def cWrong {β:Type} (args:List TV) (k:List TV→List TV→Option β):Option β:=
 match args with
 |[.d true 0 (.int .i64 p),.d true 0 (.ifc 84 (.int .i64 n))]=>k [.d true 0 (atD p (noD n))] []
 |_=>none
def zTok:D:=.ag [.int .i64 0,.str ⟨#[]⟩,.int .i64 0]
def tokD (k:Int) (t:ByteArray) (p:Int):D:=.ag [.int .i64 k,.str t,.int .i64 p]
def cOne {β:Type} (args:List TV) (k:List TV→List TV→Option β):Option β:=
 match args with
 |[.d true 0 (.str s),.d true 0 (.int .i64 a)]=>chkK (inS s a∧a<s.size) (match oneL (s.toList.drop a.toNat)with
  |.inl n=>k [.d false 4 zTok,.d false 0 (.int .i64 0),.d false 0 (atD a (noD n))] []
  |.inr (c,t,n)=>k [.d true 4 (tokD c (B t) a),.d false 0 (.int .i64 n),.d false 0 .nili] [])
 |_=>none
def cTokens {β:Type} (args:List TV) (k:List TV→List TV→Option β):Option β:=
 match args with
 |[.d true 0 (.str s)]=>match Nat.ble s.size 65536 with
  |false=>k [.own false 4 [],.d false 0 (noD 2)] []
  |true=>match tokS s.toList with
   |.inl (n,p)=>k [.own false 4 [],.d false 0 (atD p (noD n))] []
   |.inr l=>k [.own false 4 (l.map tokT),.d false 0 .nili] []
 |_=>none
def cNew {β:Type} (args:List TV) (k:List TV→List TV→Option β):Option β:=
 match args with
 |[.d true 0 (.str s)]=>match Nat.ble s.size 65536 with
  |false=>k [.d false 0 .nilp,.d false 0 (noD 2)] []
  |true=>match tokS s.toList with
   |.inl (n,p)=>k [.d false 0 .nilp,.d false 0 (atD p (noD n))] []
   |.inr l=>k [.ob true [.own false 4 (l.map tokT),.d false 0 (.int .i64 0)],.d false 0 .nili] []
 |_=>none
def rdT (xs:List D) (a:Int):TV:=.ob true [.own true 4 xs,.d false 0 (.int .i64 a)]
def cPeek {β:Type} (args:List TV) (k:List TV→List TV→Option β):Option β:=
 match args with
 |[.ob true [.own true 4 xs,.d false 0 (.int .i64 a)]]=>chkK (0≤a) (match xs[a.toNat]? with
  |some (.ag [.int .i64 c,.str t,.int .i64 p])=>k [.d true 4 (tokD c t p)] [rdT xs a]
  |_=>none)
 |_=>none
def cTake {β:Type} (args:List TV) (k:List TV→List TV→Option β):Option β:=
 match args with
 |[.ob true [.own true 4 xs,.d false 0 (.int .i64 a)]]=>chkK (0≤a∧a<34359738368) (match xs[a.toNat]? with
  |some (.ag [.int .i64 c,.str t,.int .i64 p])=>if(!(c==0))=true then k [.d true 4 (tokD c t p)] [rdT xs (a+1)]else k [.d true 4 (tokD c t p)] [rdT xs a]
  |_=>none)
 |_=>none
def isB (c:Int) (t s:ByteArray):Bool:=(c==1||c==4)&&t.toList==s.toList
def cIs {β:Type} (args:List TV) (k:List TV→List TV→Option β):Option β:=
 match args with
 |[.ob true [.own true 4 xs,.d false 0 (.int .i64 a)],.d true 0 (.str s)]=>chkK (0≤a) (match xs[a.toNat]? with
  |some (.ag [.int .i64 c,.str t,.int .i64 _])=>k [.d false 0 (.bool (isB c t s))] [rdT xs a]
  |_=>none)
 |_=>none
def cSkip {β:Type} (args:List TV) (k:List TV→List TV→Option β):Option β:=
 match args with
 |[.ob true [.own true 4 xs,.d false 0 (.int .i64 a)],.d true 0 (.str s)]=>chkK (0≤a∧a<34359738368) (match xs[a.toNat]? with
  |some (.ag [.int .i64 c,.str t,.int .i64 _])=>if isB c t s=true then k [.d false 0 (.bool true)] [rdT xs (a+1)]else k [.d false 0 (.bool false)] [rdT xs a]
  |_=>none)
 |_=>none
def cBad {β:Type} (args:List TV) (k:List TV→List TV→Option β):Option β:=
 match args with
 |[.ob true [.own true 4 xs,.d false 0 (.int .i64 a)]]=>chkK (0≤a) (match xs[a.toNat]? with
  |some (.ag [.int .i64 _,.str _,.int .i64 p])=>k [.d false 0 (atD p (noD 20))] [rdT xs a]
  |_=>none)
 |_=>none
def cWant {β:Type} (args:List TV) (k:List TV→List TV→Option β):Option β:=
 match args with
 |[.ob true [.own true 4 xs,.d false 0 (.int .i64 a)],.d true 0 (.str s)]=>chkK (0≤a∧a<34359738368) (match xs[a.toNat]? with
  |some (.ag [.int .i64 c,.str t,.int .i64 p])=>if isB c t s=true then k [.d false 0 .nili] [rdT xs (a+1)]else k [.d false 0 (atD p (noD 20))] [rdT xs a]
  |_=>none)
 |_=>none
def cNum {β:Type} (args:List TV) (k:List TV→List TV→Option β):Option β:=
 match args with
 |[.d true 0 .nili]=>k [.d false 0 (.int .i64 0)] []
 |[.d true 0 (.ifc 84 (.int .i64 n))]=>k [.d false 0 (.int .i64 n)] []
 |[.d true 0 (.ifc 114 (.pt 3 (.ag [.int .i64 _,.ifc 84 (.int .i64 n)])))]=>k [.d false 0 (.int .i64 n)] []
 |_=>none
def io0:Nat→Bool:=fun _=>false
def E0:Env:=Env.none.add 143 io0 cIdx
def E1:Env:=E0.add 139 io0 cIdx
def E2:Env:=E1.add 137 io0 cIdx
def E3:Env:=E2.add 135 io0 cHas
def E4:Env:=E3.add 124 io0 cHas
def E5:Env:=E4.add 138 io0 cIndex
def E6:Env:=E5.add 136 io0 cCut
def E7:Env:=E6.add 125 io0 cCut
def E8:Env:=E7.add 126 io0 cKind
def E8b:Env:=E8.add 128 io0 (cMay may1)
def E9:Env:=E8b.add 129 io0 (cMay may2)
def E10:Env:=E9.add 127 io0 cRun
def E11:Env:=E10.add 130 io0 cDigits
def E12:Env:=E11.add 132 io0 cQuoted
def E13:Env:=E12.add 133 io0 cMark
def E14:Env:=E13.add 115 io0 cBlank
def E15:Env:=E14.add 131 io0 cWrong
def E16:Env:=E15.add 116 io0 cOne
def E17:Env:=E16.add 92 io0 cTokens
def E18:Env:=E17.add 61 io0 cNew
def io1:Nat→Bool:=fun j=>Nat.beq j 0
def E19:Env:=E18.add 41 io1 cPeek
def E20:Env:=E19.add 118 io1 cTake
def E21:Env:=E20.add 117 io1 cIs
def E22:Env:=E21.add 93 io1 cSkip
def E23:Env:=E22.add 134 io1 cBad
def E24:Env:=E23.add 119 io1 cWant
end Go.Sd
namespace Go.Sd
open Go Go.Proofs Go.RowKit Go.Extern.Stop Go.Stop Go.Extern Go.Cm
set_option maxRecDepth 100000
theorem num_nil (w:World):Calls Tryz.prog 16 #[.nilIface] w fun ev w'=>ev=.returned (.int .i64 0)∧w'=w:=by
 go_enter Tryz.func16,Tryz.ntmps16
 go_wp2
 go_ret
 exact⟨rfl,rfl⟩
theorem grows_alloc (w:World) (o:Obj):Grows w (w.alloc o):=Grows.push w o
theorem grows1 {w w1:World} (o:Obj) (h:Grows w w1):Grows w (w1.alloc o):=h.trans (grows_alloc _ _)
abbrev GG (w:World):Prop:=w.cell? ⟨0,0,none⟩=some (.iface 156 (.agg #[.pointer (some ⟨2,29,none⟩)]))
theorem gg_alloc {w:World} (o:Obj) (hg:GG w):GG (w.alloc o):=by
 have hlt:0<w.heap.size:=by
  rcases Nat.eq_zero_or_pos w.heap.size with h0|h
  ·simp[GG,World.cell?,h0]at hg
  ·exact h
 unfold GG
 rw[World.cell?_alloc_lt _ _ ⟨0,0,none⟩ hlt];exact hg
set_option maxHeartbeats 4000000 in
theorem num_no (n:Int) (w:World) (hg:GG w):
  Calls Tryz.prog 16 #[.iface 84 (.int .i64 n)] w fun ev w'=>ev=.returned (.int .i64 n)∧Grows w w':=by
 have hgA:=gg_alloc (.cells #[.int .i64 0] 84) hg
 have htA:(w.alloc (.cells #[.int .i64 0] 84)).cell? ⟨w.heap.size,0,none⟩=some (.int .i64 0):=by simp
 have hfA:(w.alloc (.cells #[.int .i64 0] 84)).frozen? ⟨w.heap.size,0,none⟩=false:=by simp
 go_enter Tryz.func16,Tryz.ntmps16
 go_wp2_with (first|(go_at_call 48;refine(as_hit55 n _ (.int .i64 0) _ hgA htA hfA).mono ?_;rintro e w' ⟨rfl,rfl⟩))
 go_ret
 exact⟨rfl,grows1 _ (grows1 _ (grows1 _ (grows1 _ (grows_alloc _ _))))⟩
set_option maxHeartbeats 4000000 in
theorem num_at (n:Int) (e o:Nat) (w:World) (hg:GG w) (he:w.cell? ⟨e,o+1,none⟩=some (.iface 84 (.int .i64 n))):
  Calls Tryz.prog 16 #[.iface 114 (.pointer (some ⟨e,o,none⟩))] w fun ev w'=>ev=.returned (.int .i64 n)∧Grows w w':=by
 have hgA:=gg_alloc (.cells #[.int .i64 0] 84) hg
 have htA:(w.alloc (.cells #[.int .i64 0] 84)).cell? ⟨w.heap.size,0,none⟩=some (.int .i64 0):=by simp
 have hfA:(w.alloc (.cells #[.int .i64 0] 84)).frozen? ⟨w.heap.size,0,none⟩=false:=by simp
 have heA:(w.alloc (.cells #[.int .i64 0] 84)).cell? ⟨e,o+1,none⟩=some (.iface 84 (.int .i64 n)):=by
  have hel:e<w.heap.size:=by
   rcases Nat.lt_or_ge e w.heap.size with h|h
   ·exact h
   ·simp[World.cell?,Array.getElem?_eq_none h]at he
  rw[World.cell?_alloc_lt _ _ _ (by simpa using hel)];exact he
 go_enter Tryz.func16,Tryz.ntmps16
 go_wp2_with (first|(go_at_call 48;refine(as_next n e o _ (.int .i64 0) _ hgA htA hfA heA).mono ?_;rintro e w' ⟨rfl,rfl⟩))
 go_ret
 exact⟨rfl,grows1 _ (grows1 _ (grows1 _ (grows1 _ (grows_alloc _ _))))⟩
def glS:Gl where
 G:=GG
 bs:=fun b=>b=0
 lt:=fun w b hg hb=>by
  subst hb
  rcases Nat.eq_zero_or_pos w.heap.size with h0|h
  ·simp[GG,World.cell?,h0]at hg
  ·exact h
 stays:=fun w w' h hg=>by
  have h0:=h 0 rfl
  simp only[GG,World.cell?]at hg ⊢
  rw[h0];exact hg
theorem valid_grow {f:FuncId} {fn:Func} {args:List TV} {x:D} {u:Value} (hf:Tryz.prog.funcs[f]? =some fn) (hn:(fn.name== "runtime.NumGoroutine")=false) (hb:fn.body.isSome=true) (ha:Atom x u)
  (hd:∀a∈args,∃t sh y,a=.d t sh y)
  (h:∀(w:World) (us:List Value) (M:List Nat) (F:Fr),GG w→RTs (hp w) F args us M→Calls Tryz.prog f us.toArray w fun ev w'=>ev=.returned u∧Grows w w'):Valid glS Tryz.prog f args [.d false 0 x] []:=by
 intro w us M g hG hr _ hM
 refine Runs.of_calls hf hn hb ((h w us M _ hG.1 hr).mono fun e w'=>?_)
 rintro⟨rfl,hw⟩
 have hio:∀(args:List TV) (us:List Value),(∀a∈args,∃t sh y,a=.d t sh y)→ioVals args us=[]:=by
  intro args
  induction args with
  |nil=>intro us _;rfl
  |cons a args ih=>
   intro us h
   cases us with
   |nil=>rfl
   |cons u us=>
    obtain⟨t,sh,y,rfl⟩:=h a (.head _)
    simp only[ioVals]
    exact ih us fun a ha=>h a (.tail _ ha)
 refine⟨[u],[],rfl,⟨rfl,?_,List.nodup_nil,by simp,hw.size,fun b hb _=>hw.old b hb,hw.os,hw.tape,hw.output⟩⟩
 rw[hio args us hd,List.append_nil,List.append_nil]
 exact(Atoms.cons ha .nil).rt
theorem env_num {E:Env} (h:EnvOk glS Tryz.prog E):EnvOk glS Tryz.prog (E.add 16 io0 cNum):=by
 refine h.add fun β args k r hr=>?_
 unfold cNum at hr
 split at hr
 ·refine⟨_,_,hr,valid_grow Tryz.func16 (by kernel_rfl) (by kernel_rfl) (.int .i64 0) (by simp) fun w us M F hg hrt=>?_⟩
  simp only[RTs,RT,RA]at hrt
  obtain⟨u,rest,M1,M2,rfl,_,⟨_,_,rfl⟩,rfl,_⟩:=hrt
  exact(num_nil w).mono fun e w' ⟨h1,h2⟩=>⟨h1,h2▸Grows.refl w⟩
 ·rename_i n
  refine⟨_,_,hr,valid_grow Tryz.func16 (by kernel_rfl) (by kernel_rfl) (.int .i64 n) (by simp) fun w us M F hg hrt=>?_⟩
  simp only[RTs,RT,RA]at hrt
  obtain⟨u,rest,M1,M2,rfl,_,⟨_,_,v,rfl,rfl⟩,rfl,_⟩:=hrt
  exact num_no n w hg
 ·rename_i p n
  refine⟨_,_,hr,valid_grow Tryz.func16 (by kernel_rfl) (by kernel_rfl) (.int .i64 n) (by simp) fun w us M F hg hrt=>?_⟩
  simp only[RTs,RT,RA,RL]at hrt
  obtain⟨u,rest,M1,M2,rfl,_,⟨_,_,v,rfl,ad,u2,rfl,_,⟨us2,rfl,⟨u3,r3,rfl,rfl,u4,r4,rfl,⟨u5,rfl,rfl⟩,rfl⟩,_⟩,_,hl⟩,rfl,_⟩:=hrt
  obtain⟨h0,cs,e,fr,h1,h2⟩:=hl
  obtain⟨b,o,sp⟩:=ad
  simp only at h0 h1 h2
  subst h0
  exact num_at n b o w hg (by simp only[World.cell?,h1];have:=h2 1 _ rfl;simpa using this)
 ·cases hr
end Go.Sd

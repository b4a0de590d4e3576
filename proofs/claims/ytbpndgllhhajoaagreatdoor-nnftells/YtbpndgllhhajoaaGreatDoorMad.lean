/- The clean machine, part 23: what a call answers and hands back is set down. -/
import Derived.Test.YtbpndgllhhajoaaGreatDoorMac
import Derived.Orders
set_option linter.unusedVariables false
set_option linter.unusedSimpArgs false
namespace Go.Cm
section
variable {w0:World} {M0:Io} {L L':Lay} {s s':S} {tmps tmps':List Value} {w w':World} {β:Type} {P:Program}
def outVal (rs:List Value):Value:=match rs with|[v]=>v|vs=>.tuple vs.toArray
def putT (tmps:List Value) (dst:Option Tmp) (u:Value):List Value:=match dst with|some t=>tmps.set t u|none=>tmps
theorem uAt_ps {i o:Nat} (h:PS≤i):uAt L tmps w i o=(L.ps i)[o]? :=by
 cases i with
 |zero=>simp[PS]at h
 |succ i=>simp only[uAt];rw[if_neg (by omega)]
theorem RV.mono' {H:Hp} {F F':Fr} {i o:Nat} {v:V} {u:Value} (hF:∀t b,F t b→F' t b) (h:RV L H F i o v u):RV L H F' i o v u:=
 RV.mono (B:=fun _=>False) (fun _ _=>rfl) (fun t b hb=>⟨hF t b hb,rfl⟩) v.off_none (fun _ _ _ _=>⟨id,fun _ _=>rfl⟩) h
theorem obsOf_mem:∀{ks:List Key} {i:Nat},i∈obsOf ks↔Key.ob i∈ks
 |[],i=>by simp[obsOf]
 |.ob j::ks,i=>by simp[obsOf,obsOf_mem (ks:=ks)]
 |.pl a b::ks,i=>by simp[obsOf,obsOf_mem (ks:=ks)]
theorem swapKeys_of {tops gone:List Nat} {k:Key} (h:k.row∈tops∨k.row∈gone) (hn:∀i∈tops,k≠.ob i):swapKeys tops gone k:=by
 cases k with
 |pl i o=>
  rcases h with h|h
  ·exact .inr ⟨i,h,o,rfl⟩
  ·exact .inl ⟨i,h,.inr ⟨o,rfl⟩⟩
 |ob i=>
  rcases h with h|h
  ·exact(hn i h rfl).elim
  ·exact .inl ⟨i,h,.inl rfl⟩
theorem borrow_not_own (i o:Nat) (v:V):∀t sh xs,borrow i o v≠.own t sh xs:=by
 intro t sh xs;cases v<;>simp[borrow]
theorem answer_rw {t:Nat} {vs:List V} {rs:List Value} {H:Hp} {F:Fr} (hl:vs.length=rs.length) (h:∀(j:Nat) v,vs[j]? =some v→∃u,rs[j]? =some u∧RV L H F (PS+t) j v u):
  RW L H F (answerV t vs) (outVal rs)∧∀b sh xs,answerV t vs≠.own b sh xs:=by
 have many:(∀v,vs≠[v])→RW L H F (answerV t vs) (outVal rs)∧∀b sh xs,answerV t vs≠.own b sh xs:=by
  intro hne
  have e1:answerV t vs=.tup (vs.mapIdx fun o v=>borrow (PS+t) o v):=by
   unfold answerV;split
   ·exact(hne _ rfl).elim
   ·rfl
  have e2:outVal rs=.tuple rs.toArray:=by
   unfold outVal;split
   ·cases vs with
    |nil=>simp at hl
    |cons v vs=>
     cases vs with
     |nil=>exact(hne v rfl).elim
     |cons=>simp at hl
   ·rfl
  rw[e1,e2]
  refine⟨?_,fun _ _ _ e=>by cases e⟩
  simp only[RW]
  refine⟨rs,rfl,RWL.mk (by simp[hl]) fun j v u hv hu=>?_⟩
  rw[List.getElem?_mapIdx]at hv
  cases hc:vs[j]? with
  |none=>rw[hc]at hv;cases hv
  |some v0=>
   rw[hc]at hv;cases hv
   obtain⟨u',h1,h2⟩:=h j v0 hc
   rw[hu]at h1;cases h1
   exact borrow_rw h2
 cases vs with
 |nil=>exact many (fun v e=>by cases e)
 |cons v vs=>
  cases vs with
  |cons=>exact many (fun v e=>by cases e)
  |nil=>
   cases rs with
   |nil=>simp at hl
   |cons u rs=>
    have:rs=[]:=by cases rs with|nil=>rfl|cons=>simp at hl
    subst this
    obtain⟨u',h1,h2⟩:=h 0 v rfl
    cases h1
    exact⟨borrow_rw h2,borrow_not_own _ _ v⟩
theorem backAll_sets:∀{es:List (Bool×V×TypeId)} {outs:List TV} {tops:List Nat} {rows:Rows} {sets:List (Nat×Nat×V)},backAll s es outs=some (tops,rows,sets)→∀i o v,(i,o,v)∈sets→∃t sh xs,s.cell i o=some (.own t sh xs)
 |[],[],tops,rows,sets,h=>by simp only[backAll]at h;cases h;simp
 |[],_::_,tops,rows,sets,h=>by simp[backAll]at h
 |(false,v,T)::es,outs,tops,rows,sets,h=>by
  simp only[backAll]at h
  exact backAll_sets h
 |(true,v,T)::es,[],tops,rows,sets,h=>by simp[backAll]at h
 |(true,v,T)::es,x::outs,tops,rows,sets,h=>by
  simp only[backAll]at h
  split at h
  ·rename_i tops' rows' sets' hb
   have ih:=backAll_sets hb
   split at h
   ·split at h
    ·cases h;exact ih
    ·cases h
   ·split at h
    ·rename_i hc
     split at h
     ·cases h
      intro i o v hm
      rcases List.mem_cons.1 hm with e|hm
      ·cases e;exact⟨_,_,_,hc⟩
      ·exact ih i o v hm
     ·cases h
    ·cases h
   ·cases h;exact ih
   ·split at h
    ·cases h;exact ih
    ·cases h
   ·cases h
  ·cases h
structure Came (w0:World) (M0:Io) (L:Lay) (w w':World) (ks:List Key) (M':List Nat) (tvs:List TV) (us:List Value):Prop where
 rt:RTs (hp w') (Gz w0 M0 L w w' (blks L ks) M') tvs us M'
 nodup:M'.Nodup
 mem:∀b∈M',b∈blks L ks∨(w.heap.size≤b∧b<w'.heap.size)
 size:w.heap.size≤w'.heap.size
 old:∀b,b<w.heap.size→b∉blks L ks→w'.heap[b]? =w.heap[b]?
 os:w'.os=w.os
 tape:w'.tape=w.tape
 output:w'.output=w.output
theorem afterK_ok (R:Rel w0 M0 L s tmps w) {es:List (Bool×V×TypeId)} {us:List Value} (hl:us.length=es.length) (ht:Trues L (hp w) (Fz w0 M0 L w) es us) {ks:List Key}
  (hk0:∀j,Key.ob j∈ks→j≠0) (hk1:∀j o,Key.pl j o∈ks→(∃e∈es,e.1=true∧e.2.1=.bf j o)∨Key.ob j∈ks)
  {M':List Nat} {res outs:List TV} {rs:List Value} (hrs:rs.length=res.length) (C:Came w0 M0 L w w' ks M' (res++outs) (rs++pick es us)) {dst:Option Tmp} {k:S→Option β} {r:β}
  (h:afterK es ks dst res outs s k=some r):∃s' L',Rel w0 M0 L' s' (putT tmps dst (outVal rs)) w'∧k s'=some r:=by
 obtain⟨as1,bs,M1,M2,e1,rfl,r1,r2⟩:=RTs.split C.rt
 have hlen:as1.length=res.length:=RTs.length r1
 obtain⟨rfl,rfl⟩:=List.append_inj e1 (by omega)
 clear e1
 have hHold:∀t b,Fz w0 M0 L w t b→hp w' b=hp w b:=fun t b hb=>C.old b hb.1 fun hm=>by
  obtain⟨k',_,h',e1,e2⟩:=mem_blks.1 hm
  exact hb.2.1 k' h' e1 e2
 have main:∀(tops:List Nat) (rows0 below:Rows) (sets:List (Nat×Nat×V)) (KH1 KH2:List (Key×Hdr)) (TB:List Nat) (px:List Nat) (pj:Nat) (pv:List Value) (prow:Rows) (gone:List Nat),
   M2.Perm (TB++KH2.map (·.2.block))→(KH1.map (·.2.block)).Sublist M1→
   (∀i∈tops,i∈ids rows0∧∃h,L.k (.ob i)=some h∧h.block∈TB)→
   (∀i o v,(i,o,v)∈sets→∀h,L.k (.pl i o)=some h→h.block∈TB)→
   (∀e∈es,e.1=true→∀i o,e.2.1=.bf i o→∃v,(i,o,v)∈sets)→
   gone=(obsOf ks++(px++ids (below++rows0))).filter (fun i=> !memb i tops)→
   (ids (below++rows0)).Nodup→(∀i∈ids (below++rows0),i≠0∧i<PS)→(∀i∈px,PS≤i)→
   (∀x∈sets,x.1∉tops∧x.1∉gone)→
   (KH2.map (·.1)).Nodup→(∀kh∈KH2,kh.1.row∈ids rows0∧∀i∈tops,kh.1≠.ob i)→
   (KH1.map (·.1)).Nodup→(∀kh∈KH1,kh.1.row∈px∨kh.1.row∈ids below)→
   (∀r∈prow,r.1=pj)→(∀r∈prow,r.1∈px)→(∀j,j∉px→j≠pj∨pv=L.ps j)→(PR≤pj→pv=L.ps pj)→
   (∀L':Lay,(∀kh∈KH1++KH2,L'.k kh.1=some kh.2)→(∀k:Key,(k.row∈px∨k.row∈ids below∨k.row∈ids rows0)→(∀i∈tops,k≠.ob i)→(∀kh∈KH1++KH2,kh.1≠k)→L'.k k=none)→
    (∀i∈tops,L'.k (.ob i)=L.k (.ob i))→(∀i o v,(i,o,v)∈sets→L'.k (.pl i o)=L.k (.pl i o))→
    (∀r∈below++rows0,RowFact L' (hp w') (Gz w0 M0 L w w' (blks L ks) (M1++M2)) r)∧
    (∀i o v,(i,o,v)∈sets→∃u,RW L (hp w) (Fz w0 M0 L w) (.bf i o) u∧RV L' (hp w') (Gz w0 M0 L w w' (blks L ks) (M1++M2)) i o v u∧∃t sh xs,s.cell i o=some (.own t sh xs))∧
    (∀r∈prow,∀o v,r.2.2[o]? =some v→∃u,pv[o]? =some u∧RV L' (hp w') (Gz w0 M0 L w w' (blks L ks) (M1++M2)) pj o v u))→
   Rel w0 M0 (Lnew L tops gone (KH1++KH2) pj pv) (s.swap tops gone (prow++(below++rows0)) sets) tmps w'∧
    ∀r∈prow,∀o v,r.2.2[o]? =some v→∃u,pv[o]? =some u∧RV (Lnew L tops gone (KH1++KH2) pj pv) (hp w') (Fz w0 M0 (Lnew L tops gone (KH1++KH2) pj pv) w') pj o v u:=by
  intro tops rows0 below sets KH1 KH2 TB px pj pv prow gone hp2 hp1 htops hsets hes hgone hnd hids hpx hsg hk2 hr2 hk1n hr1 hprow hprow2 hps hpp facts
  have hg:∀i,i∈gone↔(Key.ob i∈ks∨i∈px∨i∈ids (below++rows0))∧i∉tops:=by
   intro i
   rw[hgone]
   simp only[List.mem_filter,List.mem_append,obsOf_mem,Bool.not_eq_true',memb_false]
  have hidsA:∀i,i∈ids (below++rows0)↔i∈ids below∨i∈ids rows0:=fun i=>by simp[ids]
  have hnd':(ids below).Nodup∧(ids rows0).Nodup∧∀a∈ids below,∀b∈ids rows0,a≠b:=by
   have:ids (below++rows0)=ids below++ids rows0:=by simp[ids]
   rw[this]at hnd
   exact List.nodup_append.1 hnd
  have htopsI:∀i∈tops,i≠0∧i<PS:=fun i hi=>hids i ((hidsA i).2 (.inr (htops i hi).1))
  have hsw:∀kh∈KH1++KH2,swapKeys tops gone kh.1:=by
   intro kh hkh
   rcases List.mem_append.1 hkh with hm|hm
   ·have hnt:kh.1.row∉tops:=by
     intro hi
     rcases hr1 kh hm with h1|h1
     ·have:=hpx _ h1;have:=(htopsI _ hi).2;omega
     ·exact hnd'.2.2 _ h1 _ (htops _ hi).1 rfl
    refine swapKeys_of (.inr ((hg _).2 ⟨?_,hnt⟩)) (fun i hi e=>hnt (by rw[e];exact hi))
    rcases hr1 kh hm with h1|h1
    ·exact .inr (.inl h1)
    ·exact .inr (.inr ((hidsA _).2 (.inl h1)))
   ·obtain⟨h1,h2⟩:=hr2 kh hm
    refine swapKeys_of ?_ h2
    by_cases hi:kh.1.row∈tops
    ·exact .inl hi
    ·exact .inr ((hg _).2 ⟨.inr (.inr ((hidsA _).2 (.inr h1))),hi⟩)
  have hperm:(TB++(KH1++KH2).map (·.2.block)).Nodup∧∀b∈TB++(KH1++KH2).map (·.2.block),b∈M1++M2:=by
   have p1:(KH1.map (·.2.block)++M2).Nodup:=(List.Sublist.append_right hp1 M2).nodup C.nodup
   have p2:(KH1.map (·.2.block)++M2).Perm (TB++(KH1++KH2).map (·.2.block)):=by
    rw[List.map_append]
    refine(List.Perm.append_left _ hp2).trans ?_
    rw[←List.append_assoc, ←List.append_assoc]
    exact List.Perm.append_right _ List.perm_append_comm
   refine⟨p2.nodup_iff.1 p1,fun b hb=>?_⟩
   have:=p2.mem_iff.2 hb
   rcases List.mem_append.1 this with h|h
   ·exact List.mem_append_left _ (hp1.subset h)
   ·exact List.mem_append_right _ h
  have I:Inst L w w' ks tops gone sets (KH1++KH2) TB (M1++M2):=by
   refine⟨hperm.1,hperm.2,C.mem,?_,hsw,fun i hi=>(htops i hi).2,hsets,?_⟩
   ·rw[List.map_append,List.nodup_append]
    refine⟨hk1n,hk2,fun a ha b hb e=>?_⟩
    subst e
    obtain⟨kh,m1,e1⟩:=List.mem_map.1 ha
    obtain⟨kh',m2,e2⟩:=List.mem_map.1 hb
    have q1:=hr1 kh m1
    have q2:=(hr2 kh' m2).1
    rw[e1]at q1;rw[e2]at q2
    rcases q1 with q1|q1
    ·have:=hpx _ q1;have:=(hids _ ((hidsA _).2 (.inr q2))).2;omega
    ·exact hnd'.2.2 _ q1 _ q2 rfl
   ·intro k hk
    cases k with
    |ob i=>
     by_cases hi:i∈tops
     ·exact .inr (.inl ⟨i,hi,rfl⟩)
     ·exact .inl (.inl ⟨i,(hg i).2 ⟨.inl hk,hi⟩,.inl rfl⟩)
    |pl i o=>
     rcases hk1 i o hk with⟨e,he,h1,h2⟩|hob
     ·obtain⟨v,hv⟩:=hes e he h1 i o h2
      exact .inr (.inr ⟨_,hv,rfl⟩)
     ·by_cases hi:i∈tops
      ·exact .inl (.inr ⟨i,hi,o,rfl⟩)
      ·exact .inl (.inl ⟨i,(hg i).2 ⟨.inl hob,hi⟩,.inr ⟨o,rfl⟩⟩)
  obtain⟨f1,f2,f3⟩:=facts (Lnew L tops gone (KH1++KH2) pj pv) (Lnew_has I.keys)
   (fun k hk hn1 hn2=>Lnew_no hn2 (swapKeys_of (by
    by_cases hi:k.row∈tops
    ·exact .inl hi
    ·refine .inr ((hg _).2 ⟨?_,hi⟩)
     rcases hk with h|h|h
     ·exact .inr (.inl h)
     ·exact .inr (.inr ((hidsA _).2 (.inl h)))
     ·exact .inr (.inr ((hidsA _).2 (.inr h)))) hn1))
   (fun i hi=>Lnew_old hsw (not_swap_ob.2 fun h=>((hg i).1 h).2 hi)) (fun i o v hm=>Lnew_old hsw (not_swap_pl.2 (hsg _ hm)))
  have hfz:∀t b,Gz w0 M0 L w w' (blks L ks) (M1++M2) t b→Fz w0 M0 (Lnew L tops gone (KH1++KH2) pj pv) w' t b:=fun t b hb=>I.fz R hb
  refine⟨R.swap (ks:=ks) ?_ (fun k hk=>Lnew_old hsw hk) ?_ (fun j hj=>by
   simp only[Lnew]
   by_cases e:j=pj
   ·rw[if_pos e,e];exact hpp (e▸hj)
   ·rw[if_neg e]) (I.inj R) I.ho C.size C.old C.os C.tape C.output I.ks ?_ ?_,fun r hr o v hv=>?_⟩
  ·refine⟨fun h0=>(htopsI 0 h0).1 rfl,fun h0=>?_⟩
   rcases((hg 0).1 h0).1 with h|h|h
   ·exact hk0 0 h rfl
   ·have:=hpx 0 h;simp[PS]at this
   ·exact(hids 0 h).1 rfl
  ·intro j hj
   simp only[Lnew]
   split
   ·rename_i e
    have hjp:j∉px:=fun hm=>hj ((hg j).2 ⟨.inr (.inl hm),fun hi=>by have:=hpx j hm;have:=(htopsI j hi).2;omega⟩)
    rcases hps j hjp with h|h
    ·exact(h e).elim
    ·exact h
   ·rfl
  ·intro i agg cells hm
   rcases List.mem_append.1 hm with hm|hm
   ·have hi:=hprow2 _ hm
    have hge:=hpx _ hi
    simp only at hge
    refine⟨.inr ((hg i).2 ⟨.inr (.inl hi),fun ht=>by have:=(htopsI i ht).2;omega⟩),by simp[PS]at hge;omega,fun hlt=>by omega,fun o v hv=>?_⟩
    obtain⟨u,h1,h2⟩:=f3 _ hm o v hv
    have hij:=hprow _ hm
    simp only at hij
    refine⟨u,?_,?_⟩
    ·rw[uAt_ps hge];simp only[Lnew,hij,if_true];exact h1
    ·rw[hij];exact h2.mono' hfz
   ·have hi:i∈ids (below++rows0):=List.mem_map.2 ⟨_,hm,rfl⟩
    obtain⟨hi0,hips⟩:=hids i hi
    obtain⟨hd,cs,ety,q1,q2,q3,q4⟩:=f1 _ hm
    refine⟨?_,hi0,fun _=>⟨hd,cs,ety,q1,q2,q3⟩,fun o v hv=>?_⟩
    ·by_cases ht:i∈tops
     ·exact .inl ht
     ·exact .inr ((hg i).2 ⟨.inr (.inr hi),ht⟩)
    ·obtain⟨u,h1,h2⟩:=q4 o v hv
     exact⟨u,by rw[uAt_obj hips hi0 q1 q2];exact h1,h2.mono' hfz⟩
  ·intro i o v hm
   obtain⟨u,h1,h2,t,sh,xs,hc⟩:=f2 i o v hm
   obtain⟨hn1,hn2⟩:=hsg _ hm
   simp only at hn1 hn2
   refine⟨hn1,hn2,u,?_,h2.mono' hfz⟩
   obtain⟨u0,hu0,hr0⟩:=R.val i o _ hc
   obtain rfl:=Rel.full hr0 h1
   rw[←hu0]
   cases i with
   |zero=>rfl
   |succ i=>
    simp only[uAt]
    have hnk:Key.ob (i+1)∉ks:=fun hm=>hn2 ((hg _).2 ⟨.inl hm,hn1⟩)
    rw[Lnew_old hsw (not_swap_ob.2 hn2)]
    split
    ·cases hk:L.k (.ob (i+1))with
     |none=>rfl
     |some hd=>
      simp only[objCell]
      rw[C.old _ (R.own _ _ hk).1 (fun hb=>by
       obtain⟨k',hk',h',e1,e2⟩:=mem_blks.1 hb
       have:=R.inj _ _ _ _ e1 hk e2
       subst this;exact hnk hk')]
    ·simp only[Lnew]
     split
     ·rename_i e
      have hjp:(i+1)∉px:=fun hm=>hn2 ((hg _).2 ⟨.inr (.inl hm),hn1⟩)
      rcases hps _ hjp with h|h
      ·exact(h e).elim
      ·rw[h]
     ·rfl
  ·obtain⟨u,h1,h2⟩:=f3 r hr o v hv
   exact⟨u,h1,h2.mono' hfz⟩
 unfold afterK at h
 split at h
 ·
  split at h
  ·rename_i tops rows sets hb
   obtain⟨KH,TB,a1,a3,a4,a5,a6⟩:=(backAll_ok R hHold es us outs M2 tops rows sets hl ht r2 hb).ex
   simp only at h
   split at h
   ·rename_i hok
    simp only[Bool.and_eq_true,List.all_eq_true,Nat.blt_eq,Bool.not_eq_true',Bool.or_eq_false_iff,memb_false]at hok
    obtain⟨⟨⟨n1,n2⟩,n3⟩,n4⟩:=hok
    have hnd:=nodupN_ok n1
    obtain⟨d1,d2,d3⟩:=a6 hnd
    obtain⟨RR,_⟩:=main tops rows [] sets [] KH TB [] PS (L.ps PS) [] _ a1 (List.nil_sublist _) a3 a4 (fun e he hf i o hi=>(a5 e he hf).2 i o hi) rfl hnd (fun i hi=>⟨by have:=n2 i hi;omega,n3 i hi⟩) (by simp)
     (fun x hx=>n4 x hx) d1 d2 (by simp) (by simp) (by simp) (by simp) (fun j _=>by by_cases e:j=PS;exact .inr (by rw[e]);exact .inl e) (fun _=>rfl)
     (fun L' h1 h2 h3 h4=>by
      obtain⟨q1,q2⟩:=d3 L' (fun kh hkh=>h1 kh hkh) (fun k hk hn1 hn2=>h2 k (.inr (.inr hk)) hn1 hn2) h3 h4
      exact⟨q1,fun i o v hm=>by
       obtain⟨u,g1,g2⟩:=q2 i o v hm
       exact⟨u,g1,g2,backAll_sets hb i o v hm⟩,by simp⟩)
    exact⟨_,_,RR,h⟩
   ·cases h
  ·cases h
 ·rename_i t
  split at h
  ·rename_i tops rows sets vs below hb htk
   obtain⟨KH,TB,a1,a3,a4,a5,a6⟩:=(backAll_ok R hHold es us outs M2 tops rows sets hl ht r2 hb).ex
   obtain⟨K1,e1,k1,l1,f1⟩:=(takes_ok deep).1 (PS+t) 0 res rs M1 vs below r1 htk
   simp only at h
   split at h
   ·rename_i hok
    simp only[Bool.and_eq_true,List.all_eq_true,Nat.blt_eq,Bool.not_eq_true',Bool.or_eq_false_iff,memb_false]at hok
    obtain⟨⟨⟨⟨n1,n2⟩,n3⟩,n4⟩,n5⟩:=hok
    have hnd:=nodupN_ok n1
    have hids:ids (below++rows)=ids below++ids rows:=by simp[ids]
    have hnd':=hnd
    change (ids (below++rows)).Nodup at hnd'
    rw[hids,List.nodup_append]at hnd'
    obtain⟨m1,m2,m3⟩:=hnd'
    have hlt:∀i∈ids below,i<PS:=fun i hi=>n3 i (by show i∈ids (below++rows);rw[hids];exact List.mem_append_left _ hi)
    have hlt2:∀i∈ids rows,i<PS:=fun i hi=>n3 i (by show i∈ids (below++rows);rw[hids];exact List.mem_append_right _ hi)
    have hnb:PS+t∉ids below:=fun hm=>by have:=hlt _ hm;omega
    obtain⟨d1,d2,d3⟩:=a6 m2
    obtain⟨c1,c2⟩:=f1 m1 hnb
    have krow:∀kh∈K1,kh.1.row∈[PS+t]∨kh.1.row∈ids below:=fun kh hkh=>by
     rcases keysIn_row (k1 kh hkh)with h|h
     ·rw[h];exact .inl (.head _)
     ·exact .inr h
    obtain⟨RR,hfz⟩:=main tops rows below sets K1 KH TB [PS+t] (PS+t) rs [(PS+t,true,vs)] _ a1 (by rw[e1];exact List.Sublist.refl _) a3 a4 (fun e he hf i o hi=>(a5 e he hf).2 i o hi) rfl hnd (fun i hi=>⟨by have:=n2 i hi;omega,n3 i hi⟩) (by simp)
     (fun x hx=>n4 x hx) d1 d2 c1 krow (by simp) (by simp) (fun j hj=>.inl (by simpa using hj)) (fun hle=>absurd hle (by have:=n5;simp[PS,PR]at this ⊢;omega))
     (fun L' h1 h2 h3 h4=>by
      obtain⟨q1,q2⟩:=d3 L' (fun kh hkh=>h1 kh (List.mem_append_right _ hkh)) (fun k hk hn1 hn2=>h2 k (.inr (.inr hk)) hn1 fun kh hkh e=>by
       rcases List.mem_append.1 hkh with hm|hm
       ·have:=krow kh hm
        rw[e]at this
        rcases this with this|this
        ·have h7:=hlt2 _ hk;simp only[List.mem_singleton]at this;omega
        ·exact m3 _ this _ hk rfl
       ·exact hn2 kh hm e) h3 h4
      obtain⟨q3,q4⟩:=c2 L' ⟨fun kh hkh=>h1 kh (List.mem_append_left _ hkh),fun k hk hn=>by
       have hkr:=keysIn_row hk
       refine h2 k ?_ ?_ ?_
       ·rcases hkr with h|h
        ·rw[h];exact .inl (.head _)
        ·exact .inr (.inl h)
       ·intro i hi e
        rw[e]at hkr
        have hi':=(a3 i hi).1
        rcases hkr with h|h
        ·have:=hlt2 _ hi';simp only[Key.row]at h;omega
        ·exact m3 _ h _ hi' rfl
       ·intro kh hkh e
        rcases List.mem_append.1 hkh with hm|hm
        ·exact hn kh hm e
        ·have:=(d2 kh hm).1
         rw[e]at this
         rcases hkr with h|h
         ·have:=hlt2 _ this;omega
         ·exact m3 _ h _ this rfl⟩
      refine⟨fun r hr=>?_,fun i o v hm=>?_,fun r hr o v hv=>?_⟩
      ·rcases List.mem_append.1 hr with h|h
       ·exact q4 r h
       ·exact q1 r h
      ·obtain⟨u,g1,g2⟩:=q2 i o v hm
       exact⟨u,g1,g2,backAll_sets hb i o v hm⟩
      ·simp only[List.mem_singleton]at hr
       subst hr
       obtain⟨u,g1,g2⟩:=q3 o v hv
       rw[Nat.zero_add]at g2
       exact⟨u,g1,g2⟩)
    have hans:=answer_rw (t:=t) (vs:=vs) (rs:=rs) (by omega) (fun j v hv=>hfz _ (.head _) j v hv)
    have hput:∀s':S,s'.put (some t) (answerV t vs)=s'.putRow 0 t (answerV t vs):=fun s'=>lay_else hans.2
    rw[hput]at h
    exact⟨_,_,RR.put (t:=t) hans.1,h⟩
   ·cases h
  ·cases h
end
end Go.Cm
namespace Go.Cm
section
variable {w0:World} {M0:Io} {L L':Lay} {s s':S} {tmps tmps':List Value} {w w':World} {β:Type} {P:Program}
def Fin (w:World) (M:List Nat) (g:Nat→Prop):Fr:=fun t b=>b<w.heap.size∧b∉M∧t=true∧g b
def Fout (w w':World) (M M':List Nat) (g:Nat→Prop):Fr:=fun t b=>b<w'.heap.size∧b∉M'∧((t=true∧g b)∨w.heap.size≤b∨b∈M)
structure Back (w w':World) (M:List Nat) (g:Nat→Prop) (args:List TV) (us:List Value) (res outs:List TV) (rs:List Value) (M':List Nat):Prop where
 len:rs.length=res.length
 rt:RTs (hp w') (Fout w w' M M' g) (res++outs) (rs++ioVals args us) M'
 nodup:M'.Nodup
 mem:∀b∈M',b∈M∨(w.heap.size≤b∧b<w'.heap.size)
 size:w.heap.size≤w'.heap.size
 old:∀b,b<w.heap.size→b∉M→w'.heap[b]? =w.heap[b]?
 os:w'.os=w.os
 tape:w'.tape=w.tape
 output:w'.output=w.output
def Runs (P:Program) (f:FuncId) (args:Array Value) (w:World) (R:Ending→World→Prop):Prop:=
 match(callFunc f args).run P w with
 |.ok (.enter g as1) w'=>Calls P g as1 w' R
 |.ok (.value v) w'=>R (.returned v) w'
 |_=>False
theorem Runs.mono {f:FuncId} {args:Array Value} {R R':Ending→World→Prop} (h:Runs P f args w R) (hr:∀e w',R e w'→R' e w'):Runs P f args w R':=by
 unfold Runs at*
 split at h
 ·exact Calls.mono h hr
 ·exact hr _ _ h
 ·exact h.elim
theorem Runs.of_calls {f:FuncId} {fn:Func} {args:Array Value} {R:Ending→World→Prop} (hf:P.funcs[f]? =some fn) (hn:(fn.name== "runtime.NumGoroutine")=false) (hb:fn.body.isSome=true)
  (h:Calls P f args w R):Runs P f args w R:=by
 have hb':fn.body.isNone=false:=by cases hx:fn.body<;>simp[hx]at hb ⊢
 have:(callFunc f args).run P w=.ok (.enter f args) w:=by
  simp only[callFunc,Sem.run_bind,run_program,Result.andThen,hf,hn,hb',Bool.false_eq_true,if_false,Sem.run_pure]
 unfold Runs
 rw[this]
 exact h
structure Gl where
 G:World→Prop
 bs:Nat→Prop
 lt:∀w b,G w→bs b→b<w.heap.size
 stays:∀w w',(∀b,bs b→w'.heap[b]? =w.heap[b]?)→G w→G w'
def GlOk (gl:Gl) (w:World) (m:Nat→Prop):Prop:=gl.G w∧∀b,gl.bs b→¬m b
def Valid (gl:Gl) (P:Program) (f:FuncId) (args res outs:List TV):Prop:=
 ∀(w:World) (us:List Value) (M:List Nat) (g:Nat→Prop),GlOk gl w (fun b=>b∈M)→RTs (hp w) (Fin w M g) args us M→Als (hp w) (Fin w M g) args us→M.Nodup→
  Runs P f us.toArray w fun e w'=>∃rs M',e=.returned (outVal rs)∧Back w w' M g args us res outs rs M'
def EnvOk (gl:Gl) (P:Program) (E:Env):Prop:=
 ∀(β:Type) (f:FuncId) (args:List TV) (k:List TV→List TV→Option β) (r:β),E.c f args k=some r→∃res outs,k res outs=some r∧Valid gl P f args res outs
structure EnvAt (gl:Gl) (P:Program) (E:Env) (w0:World) (M0:Io):Prop where
 env:EnvOk gl P E
 glo:GlOk gl w0 M0.m
theorem Rel.glo {gl:Gl} (R:Rel w0 M0 L s tmps w) (h:GlOk gl w0 M0.m) (ks:List Key):GlOk gl w (fun b=>b∈blks L ks):=by
 refine⟨gl.stays w0 w (fun b hb=>R.old b (gl.lt _ _ h.1 hb) (h.2 b hb)) h.1,fun b hb hm=>?_⟩
 obtain⟨k,_,hd,e1,e2⟩:=mem_blks.1 hm
 have:=gl.lt _ _ h.1 hb
 have:=(R.own k hd e1).2
 rw[e2]at this
 rcases this with h1|h1
 ·exact h.2 b hb h1
 ·omega
theorem argEs_rws (io:Nat→Bool) {H:Hp} {F:Fr}:∀(j:Nat) (vs:List V) (Ts:List TypeId) (us:List Value),RWL L H F vs us→RWs L H F (argEs io j vs Ts) us
 |_,[],_,us,h=>by simpa[argEs,RWs,RWL]using h
 |j,v::vs,Ts,us,h=>by
  simp only[RWL]at h
  obtain⟨u,rest,rfl,h1,h2⟩:=h
  refine⟨u,rest,rfl,?_,argEs_rws io (j+1) vs Ts.tail rest h2⟩
  show RW L H F (argE io j v).2 u
  unfold argE
  split
  ·split
   ·simp only[RW]at h1;subst h1;simp[RW,RA,D.shape]
   ·exact h1
  ·exact h1
theorem anyTainted_append:∀(a b:List TV),anyTainted (a++b)=(anyTainted a||anyTainted b)
 |[],b=>by simp[anyTainted]
 |x::xs,b=>by simp[anyTainted,anyTainted_append xs b,Bool.or_assoc]
theorem withBitL_append (u:Bool):∀(a b:List TV),TV.withBitL u (a++b)=TV.withBitL u a++TV.withBitL u b
 |[],b=>by simp[TV.withBitL]
 |x::xs,b=>by simp[TV.withBitL,withBitL_append u xs b]
theorem withBitL_length (u:Bool):∀(a:List TV),(TV.withBitL u a).length=a.length
 |[]=>rfl
 |x::xs=>by simp[TV.withBitL,withBitL_length u xs]
theorem blks_congr {ks:List Key} (h:∀k∈ks,L'.k k=L.k k):blks L' ks=blks L ks:=by
 induction ks with
 |nil=>rfl
 |cons k ks ih=>
  simp only[blks,List.filterMap_cons,h k (.head _)]
  have:=ih fun k hk=>h k (.tail _ hk)
  simp only[blks]at this
  rw[this]
theorem handK_at {es:List (Bool×V×TypeId)} {k:Bool→List TV→List Key→S→Option β} {r:β} (h:handK P es s k=some r):
  ∃u tvs ks s1,handK P es s (fun a b c d=>some (a,b,c,d))=some (u,tvs,ks,s1)∧k u tvs ks s1=some r:=by
 unfold handK at h ⊢
 split at h
 ·rename_i u xs s1 hp
  split at h
  ·rename_i v ys ks hg
   split at h
   ·rename_i hn
    exact⟨_,_,_,_,rfl,h⟩
   ·cases h
  ·cases h
 ·cases h
theorem callK_frame {gl:Gl} {E:Env} (hE:EnvAt gl P E w0 M0) (R:Rel w0 M0 L s tmps w) {vs:List V} {us:List Value} (hv:RWL L (hp w) (Fz w0 M0 L w) vs us) {f:FuncId} {Ts:List TypeId} {dst:Option Tmp} {k:S→Option β} {r:β}
  (h:callK P E s dst f vs Ts k=some r):
  ∃u tvs ks s1,handK P (argEs (E.io f) 0 vs Ts) s (fun a b c d=>some (a,b,c,d))=some (u,tvs,ks,s1)∧
   Runs P f us.toArray w fun e w'=>(∃v L' s',e=.returned v∧Rel w0 M0 L' s' (putT tmps dst v) w'∧k s'=some r)∧∀b,b<w.heap.size→b∉blks L ks→w'.heap[b]? =w.heap[b]? :=by
 unfold callK at h
 have hrws:RWs L (hp w) (Fz w0 M0 L w) (argEs (E.io f) 0 vs Ts) us:=argEs_rws _ _ _ _ _ hv
 obtain⟨u0,tvs0,ks0,s10,hh,h1⟩:=handK_at h
 obtain⟨u,tvs,ks,s1,L1,Hd,he⟩:=hand_ok R hrws hh
 simp only[Option.some.injEq,Prod.mk.injEq]at he
 obtain⟨e1,e2,e3,e4⟩:=he
 subst e1;subst e2;subst e3;subst e4
 refine⟨_,_,_,_,hh,?_⟩
 obtain⟨res,outs,h2,hval⟩:=hE.env _ _ _ _ _ h1
 have hargs:RTs (hp w) (Fin w (blks L1 ks) (Fz w0 M0 L1 w u)) (tvs.map TV.arg) us (blks L1 ks)∧Als (hp w) (Fin w (blks L1 ks) (Fz w0 M0 L1 w u)) (tvs.map TV.arg) us:=by
  suffices hf:(∀c,Fz w0 M0 L1 w u c→Fin w (blks L1 ks) (Fz w0 M0 L1 w u) true c)∧∀t c,Fz w0 M0 L1 w t c→(t=true→u=true)→Fz w0 M0 L1 w u c from
   ⟨RTs.arg (F:=Fz w0 M0 L1 w) (b:=u) (G:=Fin w (blks L1 ks) (Fz w0 M0 L1 w u) true) hf.1 hf.2 rfl tvs us _ Hd.bits Hd.rt,Als.arg (F:=Fz w0 M0 L1 w) (b:=u) (G:=Fin w (blks L1 ks) (Fz w0 M0 L1 w u) true) hf.1 hf.2 rfl Hd.bits Hd.als⟩
  refine⟨fun c hc=>⟨hc.1,fun hm=>?_,rfl,hc⟩,fun t c hc ht=>?_⟩
  ·obtain⟨k',_,h',e1,e2⟩:=mem_blks.1 hm
   exact hc.2.1 k' h' e1 e2
  ·cases t with
   |true=>rw[ht rfl];exact hc
   |false=>simpa using hc.or u
 have hsame:=blks_congr Hd.same
 refine(hval w us (blks L1 ks) (Fz w0 M0 L1 w u) (Hd.rel.glo hE.glo ks) hargs.1 hargs.2 Hd.nodup).mono fun e w'=>?_
 rintro⟨rs,M',rfl,B⟩
 refine⟨?_,fun b hb hn=>B.old b hb (by rw[hsame];exact hn)⟩
 have hk0:∀j,Key.ob j∈ks→j≠0:=by
  intro j hj
  rcases Hd.keys _ hj with⟨j',agg,cells,e,hf,hlt⟩|⟨_,_,_,_,_,e,_⟩
  ·cases e;exact(Hd.rel.rows _ _ _ hf hlt).1
  ·cases e
 have hk1:∀j o,Key.pl j o∈ks→(∃e∈argEs (E.io f) 0 vs Ts,e.1=true∧e.2.1=.bf j o)∨Key.ob j∈ks:=by
  intro j o hj
  rcases Hd.keys _ hj with⟨_,_,_,e,_⟩|⟨_,_,_,_,_,e,_,h3⟩
  ·cases e
  ·cases e;exact h3
 have hio:=Hd.io
 cases ht:(anyTainted res||anyTainted outs)with
 |false=>
  rw[ht]at h2
  simp only at h2
  have C:Came w0 M0 L w w' ks M' (res++outs) (rs++pick (argEs (E.io f) 0 vs Ts) us):=by
   refine⟨?_,B.nodup,fun b hb=>by rw[←hsame];exact B.mem b hb,B.size,fun b hb hn=>B.old b hb (by rw[hsame];exact hn),B.os,B.tape,B.output⟩
   rw[←hio]
   refine RTs.untaint (F:=Fout w w' (blks L1 ks) M' (Fz w0 M0 L1 w u)) (fun c hc=>⟨hc.1,hc.2.1,?_⟩) _ _ _ (by rw[anyTainted_append];exact ht) B.rt
   rcases hc.2.2 with h|h|h
   ·cases h.1
   ·exact .inr (.inl h)
   ·exact .inr (.inr (hsame▸h))
  obtain⟨s',L',R',hk⟩:=afterK_ok R (RWs.length hrws) hrws.trues hk0 hk1 B.len C h2
  exact⟨_,L',s',rfl,R',hk⟩
 |true=>
  rw[ht]at h2
  simp only at h2
  have C:Came w0 M0 L1 w w' ks M' (TV.withBitL u res++TV.withBitL u outs) (rs++pick (argEs (E.io f) 0 vs Ts) us):=by
   refine⟨?_,B.nodup,B.mem,B.size,B.old,B.os,B.tape,B.output⟩
   rw[←hio, ←withBitL_append]
   refine RTs.withBit (F:=Fout w w' (blks L1 ks) M' (Fz w0 M0 L1 w u)) (fun t c hc=>⟨hc.1,hc.2.1,?_⟩) _ _ _ B.rt
   rcases hc.2.2 with h|h|h
   ·rw[h.1,Bool.true_and];exact .inl h.2
   ·exact .inr (.inl h)
   ·exact .inr (.inr h)
  obtain⟨s',L',R',hk⟩:=afterK_ok Hd.rel (RWs.length hrws) Hd.trues hk0 hk1 (by rw[withBitL_length];exact B.len) C h2
  exact⟨_,L',s',rfl,R',hk⟩
theorem callK_ok {gl:Gl} {E:Env} (hE:EnvAt gl P E w0 M0) (R:Rel w0 M0 L s tmps w) {vs:List V} {us:List Value} (hv:RWL L (hp w) (Fz w0 M0 L w) vs us) {f:FuncId} {Ts:List TypeId} {dst:Option Tmp} {k:S→Option β} {r:β}
  (h:callK P E s dst f vs Ts k=some r):
  Runs P f us.toArray w fun e w'=>∃v L' s',e=.returned v∧Rel w0 M0 L' s' (putT tmps dst v) w'∧k s'=some r:=by
 obtain⟨_,_,_,_,_,h⟩:=callK_frame hE R hv h
 exact h.mono fun _ _ h=>h.1
end
end Go.Cm
namespace Go.Cm
section
variable {w0:World} {M0:Io} {L L':Lay} {s s':S} {tmps tmps':List Value} {w w':World} {β:Type} {P:Program} {a:Act} {Q:Exit→Act→World→Prop}
theorem RW.not_own {H:Hp} {F:Fr} {v:V} {u:Value} (h:RW L H F v u):∀t sh xs,v≠.own t sh xs:=by
 rintro t sh xs rfl;simp[RW]at h
theorem Rel.putD (R:Rel w0 M0 L s tmps w) {dst:Option Tmp} {v:V} {u:Value} (h:RW L (hp w) (Fz w0 M0 L w) v u):Rel w0 M0 L (s.put dst v) (putT tmps dst u) w:=by
 cases dst with
 |none=>exact R
 |some t=>
  have:s.put (some t) v=s.putRow 0 t v:=lay_else h.not_own
  rw[this];exact R.put h
theorem put_tmps (a:Act) (dst:Option Tmp) (u:Value):(a.put dst u).tmps.toList=putT a.tmps.toList dst u:=by
 cases dst with
 |none=>rfl
 |some t=>simp[Act.put,putT]
theorem put_defers (a:Act) (dst:Option Tmp) (u:Value):(a.put dst u).defers=a.defers:=by cases dst<;>rfl
theorem openA_ok {T:TypeId} {x:D} {k:D→Option β} {r:β} (h:openA P T x k=some r):k x=some r:=by
 unfold openA at h
 split at h
 ·split at h
  ·split at h
   ·rename_i e;subst e;exact h
   ·cases h
  ·cases h
 ·split at h
  ·exact h
  ·cases h
 ·split at h
  ·exact h
  ·cases h
 ·split at h
  ·split at h
   ·split at h
    ·rename_i e;subst e;exact h
    ·cases h
   ·cases h
  ·exact h
 ·split at h
  ·split at h
   ·exact h
   ·split at h
    ·rename_i e;subst e;exact h
    ·cases h
   ·cases h
  ·exact h
 ·split at h
  ·exact h
  ·exact h
  ·cases h
 ·exact h
theorem openC_ok:∀{Ts:List TypeId} {xs:List D} {k:List D→Option β} {r:β},openC P Ts xs k=some r→k xs=some r
 |[],xs,k,r,h=>by
  simp only[openC]at h
  split at h
  ·exact h
  ·cases h
 |T::Ts,xs,k,r,h=>by
  simp only[openC]at h
  split at h
  ·rename_i x r'
   exact openC_ok (k:=fun ys=>k (x::ys)) (openA_ok h)
  ·cases h
theorem openK_ok {T:TypeId} {v:V} {k:V→Option β} {r:β} (h:openK P T v k=some r):k v=some r:=by
 unfold openK at h
 split at h
 ·split at h
  ·split at h
   ·exact openC_ok h
   ·cases h
  ·exact h
  ·exact openA_ok h
 ·exact h
theorem atoms_ok {H:Hp} {F:Fr}:∀{vs:List V} {us ws:List Value},RWL L H F vs us→vs.mapM atomOf=some ws→ws=us
 |[],us,ws,h,e=>by simp only[RWL]at h;subst h;simpa using e.symm
 |v::vs,us,ws,h,e=>by
  simp only[RWL]at h
  obtain⟨u,rest,rfl,h1,h2⟩:=h
  simp only[List.mapM_cons,Option.pure_def,Option.bind_eq_bind,Option.bind_eq_some_iff]at e
  obtain⟨x,hx,ys,hys,e⟩:=e
  cases e
  rw[atomOf_ok hx h1,atoms_ok h2 hys]
theorem minMaxK_ok {H:Hp} {F:Fr} {b:Builtin} {ats:List TypeId} {T:TypeId} {vs:List V} {us:List Value} (hv:RWL L H F vs us) {k:V→Option β} {r:β} (h:minMaxK P b ats T vs k=some r):
  ∃v u,RW L H F v u∧k v=some r∧∀w,(match b with|.min=>Builtin.min_ ats.toArray T us.toArray|.max=>Builtin.max_ ats.toArray T us.toArray|_=>stuck "").run P w=.ok u w:=by
 unfold minMaxK at h
 split at h
 ·rename_i ws hw
  have:=atoms_ok hv hw
  subst this
  split at h
  ·exact atomK_ok h
  ·exact atomK_ok h
  ·cases h
 ·cases h
theorem quiet_ok {E:Env} {o:Oper} (hq:quiet o.op=true) (R:Rel w0 M0 L s a.tmps.toList w) {k:S→Option β} {r:β} (h:stepK P E o s k=some r):
  ∃u s' L',(execOp a.eval o).run P w=.ok (.value u) w∧Rel w0 M0 L' s' (putT a.tmps.toList o.dst u) w∧k s'=some r:=by
 obtain⟨dst,op,type,pos,after,guard⟩:=o
 have done:∀{v:V} {u:Value},RW L (hp w) (Fz w0 M0 L w) v u→k (s.put dst v)=some r→(execOp a.eval ⟨dst,op,type,pos,after,guard⟩).run P w=.ok (.value u) w→
   ∃u s' L',(execOp a.eval ⟨dst,op,type,pos,after,guard⟩).run P w=.ok (.value u) w∧Rel w0 M0 L' s' (putT a.tmps.toList dst u) w∧k s'=some r:=
  fun hv hk hrun=>⟨_,_,L,hrun,R.putD hv,hk⟩
 have vrun:∀{x:Sem Value} {u:Value},x.run P w=.ok u w→(do pure (Next.value (←x)):Sem Next).run P w=.ok (.value u) w:=by
  intro x u hx
  simp only[Sem.run_bind,hx,Result.andThen,Sem.run_pure]
 cases op<;>simp only[quiet,Bool.false_eq_true]at hq<;>simp only[stepK]at h
 case move x=>
  obtain⟨v,hv,h⟩:=rdK_ok R rfl h
  exact done hv h rfl
 case assign x=>
  obtain⟨v,hv,h1⟩:=rdK_ok R rfl h
  clear h
  cases dst with
  |none=>simp at h1
  |some t=>
   simp only at h1
   split at h1
   ·rename_i v0 hv0
    obtain⟨v',s',hk,hs⟩:=sinkK_ok R hv h1
    obtain⟨L',R',_⟩:=hs _ w (.tm t (tm_lt R hv0))
    exact⟨_,_,L',rfl,R',hk⟩
   ·cases h1
 case pick c x y=>
  obtain⟨vc,hvc,h1⟩:=rdK_ok R rfl h
  obtain⟨vx,hvx,h2⟩:=rdK_ok R rfl h1
  obtain⟨vy,hvy,h3⟩:=rdK_ok R rfl h2
  clear h h1 h2
  have h:=h3
  clear h3
  split at h
  ·rename_i t sh b
   simp only[RW,RA]at hvc
   have hrun:(execOp a.eval ⟨dst,.pick c x y,type,pos,after,guard⟩).run P w=.ok (.value (if b=true then a.eval x else a.eval y)) w:=by
    simp only[execOp,hvc.2,asBool,Sem.run_bind,Sem.run_pure,Result.andThen]
   split at h
   ·rename_i ta sa ba tb sb bb
    simp only[RW,RA]at hvx hvy
    refine done (v:=.d (ta||tb) 0 (.bool (if b=true then ba else bb))) ?_ h hrun
    simp only[RW,RA,hvx.2,hvy.2]
    exact⟨rfl,by split<;>rfl⟩
   ·split at h
    ·rename_i hb
     refine done hvx h (hrun.trans ?_)
     rw[if_pos hb]
    ·rename_i hb
     refine done hvy h (hrun.trans ?_)
     rw[if_neg hb]
  ·cases h
 case load T x=>
  obtain⟨vx,hvx,h⟩:=rdK_ok R rfl h
  obtain⟨v,u,hv,hk,hrun⟩:=loadK_ok R hvx h
  have hk:=openK_ok hk
  exact done hv hk (vrun hrun)
 case nilCheck x=>
  obtain⟨vx,hvx,h⟩:=rdK_ok R rfl h
  split at h
  ·refine done hvx h ?_
   simp only[RW]at hvx
   obtain⟨hd,_,e⟩:=hvx
   simp only[execOp,e,Sem.run_pure]
  ·refine done hvx h ?_
   simp only[RW]at hvx
   obtain⟨hd,_,_,e⟩:=hvx
   simp only[execOp,e,Sem.run_pure]
  ·refine done hvx h ?_
   simp only[RW,RA]at hvx
   obtain⟨_,ad,_,e,_⟩:=hvx
   simp only[execOp,e,Sem.run_pure]
  ·cases h
 case binOp op T x y T2=>
  obtain⟨vx,hvx,h⟩:=rdK_ok R rfl h
  obtain⟨vy,hvy,h⟩:=rdK_ok R rfl h
  obtain⟨v,u,hv,hk,hrun⟩:=binK_ok R hvx hvy h
  exact done hv hk (vrun hrun)
 case unOp op T x=>
  obtain⟨vx,hvx,h⟩:=rdK_ok R rfl h
  split at h
  ·rename_i ux hux
   obtain⟨v,u,hv,hk,hrun⟩:=atomK_ok h
   have:=atomOf_ok hux hvx
   exact done hv hk (vrun (by rw[this];exact hrun w))
  ·cases h
 case convert S D x=>
  obtain⟨vx,hvx,h⟩:=rdK_ok R rfl h
  obtain⟨v,u,hv,hk,hrun⟩:=convK_ok R hvx h
  exact done hv hk (vrun hrun)
 case slice T x lo hi mx=>
  cases mx with
  |some m=>simp at h
  |none=>
   simp only at h
   obtain⟨vx,hvx,h⟩:=rdK_ok R rfl h
   cases lo with
   |none=>
    cases hi with
    |none=>
     obtain⟨v,u,hv,hk,hrun⟩:=sliceK_ok R hvx (lo:=none) (hi:=none) (ulo:=none) (uhi:=none) trivial trivial h
     exact done hv hk (vrun hrun)
    |some hi=>
     obtain⟨vh,hvh,h⟩:=rdK_ok R rfl h
     obtain⟨v,u,hv,hk,hrun⟩:=sliceK_ok R hvx (lo:=none) (hi:=some vh) (ulo:=none) (uhi:=some (a.eval hi)) trivial hvh h
     exact done hv hk (vrun hrun)
   |some lo=>
    cases hi with
    |none=>
     obtain⟨vl,hvl,h⟩:=rdK_ok R rfl h
     obtain⟨v,u,hv,hk,hrun⟩:=sliceK_ok R hvx (lo:=some vl) (hi:=none) (ulo:=some (a.eval lo)) (uhi:=none) hvl trivial h
     exact done hv hk (vrun hrun)
    |some hi=>
     obtain⟨vl,hvl,h⟩:=rdK_ok R rfl h
     obtain⟨vh,hvh,h⟩:=rdK_ok R rfl h
     obtain⟨v,u,hv,hk,hrun⟩:=sliceK_ok R hvx (lo:=some vl) (hi:=some vh) (ulo:=some (a.eval lo)) (uhi:=some (a.eval hi)) hvl hvh h
     exact done hv hk (vrun hrun)
 case fieldAddr T x f=>
  obtain⟨vx,hvx,h⟩:=rdK_ok R rfl h
  obtain⟨v,u,hv,hk,hrun⟩:=fieldAddrK_ok R hvx h
  exact done hv hk (vrun hrun)
 case field T x f=>
  obtain⟨vx,hvx,h⟩:=rdK_ok R rfl h
  obtain⟨v,u,hv,hk,hrun⟩:=fieldK_ok R hvx h
  have hk:=openK_ok hk
  exact done hv hk (vrun hrun)
 case indexAddr T x ix=>
  obtain⟨vx,hvx,h⟩:=rdK_ok R rfl h
  obtain⟨vi,hvi,h⟩:=rdK_ok R rfl h
  obtain⟨v,u,hv,hk,hrun⟩:=indexAddrK_ok R hvx hvi h
  exact done hv hk (vrun hrun)
 case index T x ix=>
  obtain⟨vx,hvx,h⟩:=rdK_ok R rfl h
  obtain⟨vi,hvi,h⟩:=rdK_ok R rfl h
  obtain⟨v,u,hv,hk,hrun⟩:=indexK_ok R hvx hvi h
  have hk:=openK_ok hk
  exact done hv hk (vrun hrun)
 case extract x ix=>
  obtain⟨vx,hvx,h1⟩:=rdK_ok R rfl h
  clear h
  have h:=h1
  clear h1
  split at h
  ·rename_i vs
   simp only[RW]at hvx
   obtain⟨us,e,hr⟩:=hvx
   split at h
   ·rename_i v hv
    obtain⟨u,hu,hr'⟩:=RWL.get hr hv
    refine done hr' h (vrun ?_)
    rw[e]
    simp[Instr.extract,hu]
   ·cases h
  ·cases h
 case build T parts=>
  obtain⟨vs,hvs,h1⟩:=rdsK_ok R rfl h
  have hlen:=RWL.length hvs
  simp only[List.length_map]at hlen
  obtain⟨v,u,hv,hk,hrun⟩:=buildK_ok R (T:=T) (parts:=(parts.toList.map (·.1)).zip vs) (ps:=parts.toList.map fun p=>(p.1,a.eval p.2))
   (by rw[List.map_fst_zip (by simp[hlen]),List.map_map];rfl)
   (by rw[List.map_snd_zip (by simp[hlen]),List.map_map];rw[List.map_map]at hvs;exact hvs) h1
  refine done hv hk (vrun ?_)
  rw[←hrun]
  congr 2
  apply Array.ext'
  simp
 case makeFunc fn first captured=>
  cases fn with
  |func f=>
   simp only at h
   split at h
   ·rename_i hf
    obtain⟨vs,hvs,h1⟩:=rdsK_ok R rfl h
    have:first= #[]:=by apply Array.ext';simpa using hf
    subst this
    refine done (v:=.fn f vs) (u:=.func (.func f) #[] (captured.map a.eval)) ?_ h1 (vrun (by simp[Instr.makeFunc]))
    simp only[RW]
    exact⟨captured.toList.map a.eval,by congr 1;apply Array.ext';simp,hvs⟩
   ·rename_i x xs hf
    split at h
    ·rename_i hcp
     obtain⟨vs,hvs,h1⟩:=rdsK_ok R rfl h
     have:captured= #[]:=by apply Array.ext';simpa using hcp
     subst this
     refine done (v:=.fb f vs) (u:=.func (.func f) (first.map a.eval) #[]) ?_ h1 (vrun (by simp[Instr.makeFunc]))
     simp only[RW]
     exact⟨(x::xs).map a.eval,by congr 1;apply Array.ext';simp[hf],hvs⟩
    ·cases h
  |_=>simp at h
 case call c=>
  obtain⟨callee,args,argTypes⟩:=c
  cases callee<;>simp only[Bool.false_eq_true]at hq
  rename_i b
  have ar:∀{α γ:Type} {f:α→γ} {xs:Array α} {l:List α},xs.toList=l→xs.map f=(l.map f).toArray:=by
   intro α γ f xs l hx;rw[←hx];apply Array.ext';simp
  cases b<;>simp only[Bool.false_eq_true]at hq<;>simp only at h
  case len=>
   split at h
   ·rename_i x hx
    split at h
    ·rename_i T hT
     obtain⟨vx,hvx,h1⟩:=rdK_ok R rfl h
     obtain⟨v,u,hv,hk,hrun⟩:=lenK_ok R hvx (ty:=type) h1
     have e2:argTypes= #[T]:=by apply Array.ext';simpa using hT
     subst e2
     refine done hv hk ?_
     simp only[execOp,resolve,invoke,builtin,Sem.run_bind,Sem.run_pure,Result.andThen,ar hx]
     have hl:(List.map a.eval [x]).toArray= #[a.eval x]:=rfl
     rw[hl,hrun]
    ·cases h
   ·cases h
  case min=>
   obtain⟨vs,hvs,h1⟩:=rdsK_ok R rfl h
   obtain⟨v,u,hv,hk,hrun⟩:=minMaxK_ok (L:=L) (H:=hp w) (F:=Fz w0 M0 L w) hvs h1
   refine done hv hk ?_
   simp only[execOp,resolve,invoke,builtin,Sem.run_bind,Sem.run_pure,Result.andThen,ar (f:=a.eval) (xs:=args) rfl]
   rw[hrun w]
  case max=>
   obtain⟨vs,hvs,h1⟩:=rdsK_ok R rfl h
   obtain⟨v,u,hv,hk,hrun⟩:=minMaxK_ok (L:=L) (H:=hp w) (F:=Fz w0 M0 L w) hvs h1
   refine done hv hk ?_
   simp only[execOp,resolve,invoke,builtin,Sem.run_bind,Sem.run_pure,Result.andThen,ar (f:=a.eval) (xs:=args) rfl]
   rw[hrun w]
end
end Go.Cm
namespace Go.Cm
section
variable {w0:World} {M0:Io} {L L':Lay} {s s':S} {tmps tmps':List Value} {w w':World} {β:Type} {P:Program}
theorem Rel.mapAt (R:Rel w0 M0 L s tmps w) {i o:Nat} {t:Bool} {sh:Nat} {xs:List D} (hc:s.cell i o=some (.own t sh xs)) (hms:sh=MS) {F:Fr} {u:Value} {L0:Lay} (hk0:L.k (.pl i o)=L0.k (.pl i o)) (hv:RW L0 (hp w) F (.bf i o) u):
  ∃hd es c,L.k (.pl i o)=some hd∧u=.map (some hd.block)∧w.heap[hd.block]? =some (.map es c)∧REs (hp w) (Fz w0 M0 L w t) xs es.toList:=by
 subst hms
 obtain⟨u0,hu0,hr⟩:=R.val i o _ hc
 have e:u=u0:=Rel.full (L:=L) hr (F':=F) (by simp only[RW]at hv ⊢;rw[hk0];exact hv)
 subst e
 obtain⟨_,h2⟩:=hr
 cases hk:L.k (.pl i o)with
 |none=>rw[hk]at h2;exact(h2.1 rfl).elim
 |some hd=>
  rw[hk]at h2
  obtain⟨e1,_,e3,e4⟩:=h2
  obtain⟨es,c,g1,g2⟩:=e4.map e3
  have hval:hd.val xs.length=.map (some hd.block):=by unfold Hdr.val;rw[e3,Nat.beq_refl]
  exact⟨hd,es,c,rfl,e1.trans hval,g1,g2⟩
theorem lookV_rw {H:Hp} {F:Fr} {v:V} {u:Value} (h:RW L H F v u) (ok b:Bool):RW L H F (lookV ok v b) (if ok then .tuple #[u,.bool b]else u):=by
 cases ok with
 |false=>exact h
 |true=>
  simp only[lookV,RW,if_true]
  exact⟨[u,.bool b],rfl,by simp only[RWL];exact⟨u,_,rfl,h,_,_,rfl,by simp[RW,RA,D.shape],rfl⟩⟩
theorem lookupK_ok (R:Rel w0 M0 L s tmps w) {T:TypeId} {m ix:V} {um ui:Value} (hm:RW L (hp w) (Fz w0 M0 L w) m um) (hi:RW L (hp w) (Fz w0 M0 L w) ix ui) {ok:Bool} {k:V→Option β} {r:β}
  (h:lookupK P s T m ix ok k=some r):∃v u,RW L (hp w) (Fz w0 M0 L w) v u∧k v=some r∧(Instr.lookup T um ui ok).run P w=.ok u w:=by
 unfold lookupK at h
 split at h
 ·rename_i K E hT
  have hu:=mapT_ok hT
  split at h
  ·rename_i ti shi kd esh z hE hz
   split at h
   ·rename_i i o
    split at h
    ·rename_i t sh xs hc
     split at h
     ·rename_i hb
      rw[Bool.and_eq_true,beq_true]at hb
      obtain⟨hd,es,c,hk,rfl,hheap,hre⟩:=R.mapAt hc hb.1 rfl hm
      simp only[RW]at hi
      obtain⟨d,hd1,hkey⟩:=keyD_ok hb.2 hi.2
      have hg:=MapKept.run_getObj_map (P:=P) hheap
      have hck:=fun e=>MapKept.run_checkKey (P:=P) (w:=w) hd1 hkey e 9999
      split at h
      ·rename_i j v hf
       obtain⟨u,e,n,q1,q2,_⟩:=findM_ok hd1 hi.2 xs es.toList 0 _ hre hf
       obtain⟨hsh,h⟩:=chkK_ok h
       have h:=openK_ok h
       refine⟨_,_,lookV_rw (v:=.d t esh v) (u:=u) (by simp only[RW];exact⟨hsh,q2⟩) ok true,h,?_⟩
       have hfk:=MapKept.run_findKey (P:=P) (w:=w) hd1 q1
       cases ok<;>simp[Instr.lookup,run_underlying hu,Result.andThen,hg,hck,hfk]
      ·rename_i hf
       have q1:=findM_ok hd1 hi.2 xs es.toList 0 _ hre hf
       obtain⟨i2,zv,g1,g2,g3,g4,g5⟩:=zeroD_ok hz hE
       refine⟨_,_,lookV_rw (v:=.d false esh z) (u:=zv) (by simp only[RW];exact⟨g3,g5 _ _⟩) ok false,h,?_⟩
       have hfk:=MapKept.run_findKey (P:=P) (w:=w) hd1 q1
       have hz0:=run_zero (P:=P) g1 g2 w
       cases ok<;>simp[Instr.lookup,run_underlying hu,Result.andThen,hg,hck,hfk,hz0]
      ·cases h
     ·cases h
    ·cases h
   ·cases h
  ·cases h
 ·cases h
theorem mapUpdateK_ok (R:Rel w0 M0 L s tmps w) {T:TypeId} {m ky v:V} {um uk uv:Value} (hm:RW L (hp w) (Fz w0 M0 L w) m um) (hky:RW L (hp w) (Fz w0 M0 L w) ky uk) (hv:RW L (hp w) (Fz w0 M0 L w) v uv)
  {k:S→Option β} {r:β} (h:mapUpdateK P s T m ky v k=some r):∃s' L' w',Rel w0 M0 L' s' tmps w'∧k s'=some r∧(Instr.mapUpdate T um uk uv).run P w=.ok () w':=by
 unfold mapUpdateK at h
 split at h
 ·rename_i K E hT
  have hu:=mapT_ok hT
  split at h
  ·rename_i tk shk kd esh hE
   obtain⟨t',vsh,x,s1,L1,R1,S1,K1,le1,hsx,hrx,h⟩:=packK_ok R (retype_rw hv) h
   split at h
   ·split at h
    ·rename_i i o
     split at h
     ·rename_i t sh xs hc
      split at h
      ·rename_i hb
       rw[Bool.and_eq_true,beq_true]at hb
       obtain⟨hd,es,c,hk,rfl,hheap,hre⟩:=R1.mapAt hc hb.1 (S1.own _ _ _ _ _ hc) hm
       simp only[RW]at hky
       obtain⟨d,hd1,hkey⟩:=keyD_ok hb.2 hky.2
       have hg:=MapKept.run_getObj_map (P:=P) hheap
       have hck:=fun e=>MapKept.run_checkKey (P:=P) (w:=w) hd1 hkey e 9999
       have hkr:∀(H:Hp) (F:Nat→Prop),RA H F kd uk:=fun H F=>by
        have:=hb.2
        unfold keyD at this
        split at this
        ·split at this
         ·have h3:=hky.2;simp only[RA]at h3 ⊢;exact h3
         ·cases this
        ·split at this
         ·have h3:=hky.2;simp only[RA]at h3 ⊢;exact h3
         ·cases this
        ·split at this
         ·have h3:=hky.2;simp only[RA]at h3 ⊢;exact h3
         ·cases this
        ·cases this
       split at h
       ·rename_i res hf
        have hms:=hb.1
        subst hms
        have hre':REs (hp w) (Fz w0 M0 L1 w (t||t')) xs es.toList:=REs.mono (fun b hb=>⟨hb.or t',rfl⟩) xs _ hre
        have hrx':RA (hp w) (Fz w0 M0 L1 w (t||t')) x uv:=RA.mono (fun b hb=>⟨hb.or' t,rfl⟩) x uv hrx
        have hfm:=findM_ok hd1 hky.2 xs es.toList 0 _ hre hf
        cases res with
        |none=>
         simp only at hfm
         have hfk:=MapKept.run_findKey (P:=P) (w:=w) hd1 hfm
         refine⟨_,L1,_,R1.setMap (t':=t||t') (es:=es.push {key:=uk,val:=uv,born:=c }) (c:=c+1) hc hk ?_,h,?_⟩
         ·rw[Array.toList_push]
          exact REs.append (hkr _ _) hrx' hre'
         ·simp only[Instr.mapUpdate,Sem.run_bind,run_underlying hu,Result.andThen,hg,hck,hfk]
          exact MapKept.run_setObj_map _ hheap
        |some p=>
         obtain⟨j,v'⟩:=p
         simp only at hfm
         obtain⟨u,e,n,q1,q2,q3,q4,q5⟩:=hfm
         have hfk:=MapKept.run_findKey (P:=P) (w:=w) hd1 q1
         have hnj:n=j:=by omega
         subst hnj
         have hge:es[n]? =some e:=by rw[←Array.getElem?_toList];exact q4
         refine⟨_,L1,_,R1.setMap (t':=t||t') (es:=es.modify n fun e=>{e with key:=uk,val:=uv }) (c:=c) hc hk ?_,h,?_⟩
         ·rw[Array.toList_modify]
          exact REs.set (f:=fun e=>{e with key:=uk,val:=uv }) (fun e=>hkr _ _) (fun e=>hrx') n hre'
         ·simp only[Instr.mapUpdate,Sem.run_bind,run_underlying hu,Result.andThen,hg,hck,hfk,hge,Option.map_some,Option.getD_some,q5,MapKept.run_keyThatStays hkey]
          exact MapKept.run_setObj_map _ hheap
       ·cases h
      ·cases h
     ·cases h
    ·cases h
   ·cases h
  ·cases h
 ·cases h
theorem makeMapK_ok (R:Rel w0 M0 L s tmps w) {dst:Option Tmp} {T:TypeId} {k:S→Option β} {r:β} (h:makeMapK P s dst T k=some r):
  ∃t u s' L' w',dst=some t∧Rel w0 M0 L' s' (tmps.set t u) w'∧k s'=some r∧(Instr.makeMap T none).run P w=.ok u w':=by
 unfold makeMapK at h
 split at h
 ·rename_i t KE hT
  split at h
  ·rename_i v hv
   have ht:=tm_lt R hv
   refine⟨t,_,_,_,_,rfl,R.newMap ht,by rw[put_own]at h;exact h,?_⟩
   simp[Instr.makeMap,run_newObj]
  ·cases h
 ·cases h
end
end Go.Cm
namespace Go.Cm
section
variable {w0:World} {M0:Io} {L L':Lay} {s s':S} {tmps tmps':List Value} {w w':World} {β:Type} {P:Program} {a:Act} {Q:Exit→Act→World→Prop}
def Next' (w0:World) (M0:Io) (a:Act) (k:S→Option β) (r:β):Act→World→Prop:=
 fun a' w'=>∃s' L',Rel w0 M0 L' s' a'.tmps.toList w'∧a'.defers=a.defers∧k s'=some r
theorem wp_value {o:Oper} {u:Value} {k:S→Option β} {r:β} (hrun:(execOp a.eval o).run P w=.ok (.value u) w') {L'} (R:Rel w0 M0 L' s' (putT a.tmps.toList o.dst u) w') (hk:k s'=some r):
  o.wp P a w (Next' w0 M0 a k r) Q:=by
 unfold Oper.wp
 rw[hrun,Oper.upon_value]
 exact⟨s',L',by rw[put_tmps];exact R,put_defers a o.dst u,hk⟩
theorem stepK_ok {gl:Gl} {E:Env} (hE:EnvAt gl P E w0 M0) {o:Oper} (R:Rel w0 M0 L s a.tmps.toList w) {k:S→Option β} {r:β} (h:stepK P E o s k=some r):
  o.wp P a w (Next' w0 M0 a k r) Q:=by
 cases hq:quiet o.op with
 |true=>
  obtain⟨u,s',L',hrun,R',hk⟩:=quiet_ok hq R h
  exact wp_value hrun R' hk
 |false=>
  obtain⟨dst,op,type,pos,after,guard⟩:=o
  have vrun:∀{x:Sem Value} {u:Value} {w':World},x.run P w=.ok u w'→(do pure (Next.value (←x)):Sem Next).run P w=.ok (.value u) w':=by
   intro x u w' hx
   simp only[Sem.run_bind,hx,Result.andThen,Sem.run_pure]
  cases op<;>simp only[quiet,Bool.true_eq_false]at hq<;>simp only[stepK]at h<;>try (exact absurd h (by simp))
  case alloc T=>
   obtain⟨t,z,s1,L',hd,hlt,hzs,R',hk,hz,_⟩:=allocK_ok R h
   subst hd
   refine wp_value (u:=.pointer (some ⟨w.heap.size,0,none⟩)) (vrun ?_) R' hk
   simp only[Instr.alloc,Sem.run_bind,hz,Result.andThen,newVar,newRow,run_newObj,Sem.run_pure]
  case box T x=>
   obtain⟨v,hv,h1⟩:=rdK_ok R rfl h
   obtain⟨t,s',L',w',hd,R',hk,hrun⟩:=boxK_ok R hv h1
   subst hd
   exact wp_value (vrun hrun) R' hk
  case buildSlice T len parts=>
   obtain⟨vs,hvs,h1⟩:=rdsK_ok R rfl h
   have hlen:=RWL.length hvs
   simp only[List.length_map]at hlen
   obtain⟨t,u,s',L',w',hd,R',hk,hrun⟩:=buildSliceK_ok R (T:=T) (len:=len) (parts:=(parts.toList.map (·.1)).zip vs) (ps:=parts.toList.map fun p=>(p.1,a.eval p.2))
    (by rw[List.map_fst_zip (by simp[hlen]),List.map_map];rfl)
    (by rw[List.map_snd_zip (by simp[hlen]),List.map_map];rw[List.map_map]at hvs;exact hvs) h1
   subst hd
   refine wp_value (vrun ?_) R' hk
   rw[←hrun]
   congr 2
   apply Array.ext'
   simp
  case store T x y=>
   obtain⟨vx,hvx,h1⟩:=rdK_ok R rfl h
   obtain⟨vy,hvy,h2⟩:=rdK_ok R rfl h1
   obtain⟨s',L',w',R',hk,hrun⟩:=storeK_ok R hvx hvy h2
   have hrun2:(execOp a.eval ⟨dst,.store T x y,type,pos,after,guard⟩).run P w=.ok .skip w':=by
    simp only[execOp,Sem.run_bind,hrun,Result.andThen,Sem.run_pure]
   unfold Oper.wp
   rw[hrun2,Oper.upon_skip]
   have hu:RW L' (hp w') (Fz w0 M0 L' w') (.tup []) undef:=by
    simp only[RW]
    exact⟨[],rfl,by simp[RWL]⟩
   exact⟨_,L',by rw[put_tmps];exact R'.putD hu,put_defers a dst undef,hk⟩
  case makeMap T res=>
   split at h
   ·obtain⟨t,u,s',L',w',hd,R',hk,hrun⟩:=makeMapK_ok R h
    subst hd
    exact wp_value (vrun hrun) R' hk
   ·cases h
  case lookup T x ix ok=>
   obtain⟨vm,hvm,h1⟩:=rdK_ok R rfl h
   obtain⟨vi,hvi,h2⟩:=rdK_ok R rfl h1
   obtain⟨v,u,hvu,hk,hrun⟩:=lookupK_ok R hvm hvi h2
   exact wp_value (vrun hrun) (R.putD hvu) hk
  case mapUpdate T m ky x=>
   obtain⟨vm,hvm,h1⟩:=rdK_ok R rfl h
   obtain⟨vk,hvk,h2⟩:=rdK_ok R rfl h1
   obtain⟨vx,hvx,h3⟩:=rdK_ok R rfl h2
   obtain⟨s',L',w',R',hk,hrun⟩:=mapUpdateK_ok R hvm hvk hvx h3
   have hrun2:(execOp a.eval ⟨dst,.mapUpdate T m ky x,type,pos,after,guard⟩).run P w=.ok .skip w':=by
    simp only[execOp,Sem.run_bind,hrun,Result.andThen,Sem.run_pure]
   unfold Oper.wp
   rw[hrun2,Oper.upon_skip]
   have hu:RW L' (hp w') (Fz w0 M0 L' w') (.tup []) undef:=by
    simp only[RW]
    exact⟨[],rfl,by simp[RWL]⟩
   exact⟨_,L',by rw[put_tmps];exact R'.putD hu,put_defers a dst undef,hk⟩
  case makeInterface T x=>
   obtain⟨v,hv,h1⟩:=rdK_ok R rfl h
   clear h
   split at h1
   ·cases h1
   ·rename_i desc hno hu
    obtain⟨t,sh,y,s1,L1,R1,S1,K1,le1,hsh,hra,hk⟩:=packK_ok R (retype_rw hv) h1
    refine wp_value (u:=.iface T (a.eval x)) (vrun ?_) (R1.putD ?_) hk
    ·simp only[Instr.makeInterface,Sem.run_bind,run_underlying hu,Result.andThen]
     first|rfl|(split;exact(hno _ rfl).elim;rfl)
    ·simp only[RW,RA]
     exact⟨rfl,_,rfl,hra⟩
   ·cases h1
  case makeSlice T l c=>
   obtain⟨vl,hvl,h1⟩:=rdK_ok R rfl h
   obtain⟨vc,hvc,h2⟩:=rdK_ok R rfl h1
   obtain⟨t,u,s',L',w',hd,R',hk,hrun⟩:=makeSliceK_ok R hvl hvc h2
   subst hd
   exact wp_value (vrun hrun) R' hk
  case call c=>
   obtain⟨callee,args,argTypes⟩:=c
   cases callee with
   |invoke recv name=>simp at h
   |builtin b=>
    cases b<;>simp only[Bool.true_eq_false]at hq<;>simp only at h<;>try (exact absurd h (by simp))
    case cap=>
     split at h
     ·rename_i x hxy
      split at h
      ·rename_i T hT
       obtain⟨vx,hvx,h1⟩:=rdK_ok R rfl h
       have e1:args= #[x]:=by apply Array.ext';simpa using hxy
       have e2:argTypes= #[T]:=by apply Array.ext';simpa using hT
       subst e1;subst e2
       unfold capK at h1
       split at h1
       ·rename_i e hu
        split at h1
        ·simp only[RW]at hvx
         refine wp_value (u:=.int .i64 0) ?_ (R.putD (by simp[RW,RA,D.shape])) h1
         simp only[execOp,resolve,invoke,builtin,Sem.run_bind,Sem.run_pure,Result.andThen]
         have hl:Array.map a.eval #[x]= #[a.eval x]:=by simp
         rw[hl,hvx]
         simp[Builtin.cap_,run_underlying hu,Result.andThen,goInt]
        ·cases h1
       ·cases h1
      ·cases h
     ·cases h
    split at h
    ·rename_i x y hxy
     split at h
     ·rename_i T U hT
      split at h
      ·rename_i hTU
       rw[beq_true]at hTU
       subst hTU
       obtain⟨vx,hvx,h1⟩:=rdK_ok R rfl h
       obtain⟨vy,hvy,h2⟩:=rdK_ok R rfl h1
       obtain⟨t,u,s',L',w',hd,R',hk,hrun,_⟩:=appendK_ok (ty:=type) R hvx hvy h2
       subst hd
       have e1:args= #[x,y]:=by apply Array.ext';simpa using hxy
       have e2:argTypes= #[T,T]:=by apply Array.ext';simpa using hT
       subst e1;subst e2
       refine wp_value ?_ R' hk
       simp only[execOp,resolve,invoke,builtin,Sem.run_bind,Sem.run_pure,Result.andThen]
       have hl:Array.map a.eval #[x,y]= #[a.eval x,a.eval y]:=by simp
       rw[hl,hrun]
      ·obtain⟨vx,hvx,h1⟩:=rdK_ok R rfl h
       obtain⟨vy,hvy,h2⟩:=rdK_ok R rfl h1
       obtain⟨t,u,s',L',w',hd,R',hk,hrun⟩:=appendMakeK_ok (ty:=type) R hvx hvy h2
       subst hd
       have e1:args= #[x,y]:=by apply Array.ext';simpa using hxy
       have e2:argTypes= #[T,U]:=by apply Array.ext';simpa using hT
       subst e1;subst e2
       refine wp_value ?_ R' hk
       simp only[execOp,resolve,invoke,builtin,Sem.run_bind,Sem.run_pure,Result.andThen]
       have hl:Array.map a.eval #[x,y]= #[a.eval x,a.eval y]:=by simp
       rw[hl,hrun]
     ·cases h
    ·cases h
   |value f=>
    obtain⟨vf,hvf,h1⟩:=rdK_ok R rfl h
    obtain⟨vs,hvs,h2⟩:=rdsK_ok R rfl h1
    clear h h1
    have fin:∀(g:FuncId) (fs caps:List V) (ufs us:List Value) (Ts:List TypeId),a.eval f=.func (.func g) ufs.toArray us.toArray→RWL L (hp w) (Fz w0 M0 L w) fs ufs→RWL L (hp w) (Fz w0 M0 L w) caps us→callK P E s dst g (fs++vs++caps) Ts k=some r→
      Oper.wp P ⟨dst,.call ⟨.value f,args,argTypes⟩,type,pos,after,guard⟩ a w (Next' w0 M0 a k r) Q:=by
     intro g fs caps ufs us Ts he hfs hcaps hcall
     have hr:=callK_ok hE R (RWL.append (RWL.append hfs hvs) hcaps) hcall
     have hex:(execOp a.eval ⟨dst,.call ⟨.value f,args,argTypes⟩,type,pos,after,guard⟩).run P w=(callFunc g (ufs++args.toList.map a.eval++us).toArray).run P w:=by
      simp only[execOp,resolve,Deferred.ofValue,he,invoke,Sem.run_bind,Sem.run_pure,Result.andThen]
      congr 2
      apply Array.ext'
      simp
     unfold Oper.wp
     rw[hex]
     unfold Runs at hr
     generalize (callFunc g (ufs++args.toList.map a.eval++us).toArray).run P w=res at hr
     split at hr
     ·rw[Oper.upon_enter]
      refine Calls.mono hr fun e w'=>?_
      rintro⟨v,L',s',rfl,R',hk⟩
      exact⟨s',L',by rw[put_tmps];exact R',put_defers a dst v,hk⟩
     ·obtain⟨v,L',s',e,R',hk⟩:=hr
      cases e
      rw[Oper.upon_value]
      exact⟨s',L',by rw[put_tmps];exact R',put_defers a dst _,hk⟩
     ·exact hr.elim
    split at h2
    ·rename_i g caps
     simp only[RW]at hvf
     obtain⟨us,e,hr⟩:=hvf
     exact fin g [] caps [] us _ e (by simp only[RWL]) hr h2
    ·rename_i t sh g caps
     simp only[RW,RA]at hvf
     obtain⟨_,us,e,hr⟩:=hvf
     refine fin g [] _ [] us _ e (by simp only[RWL]) (RWL.mk (by simp[RL.length hr]) fun i x u hx hu=>?_) h2
     simp only[List.getElem?_map,Option.map_eq_some_iff]at hx
     obtain⟨y,hy,rfl⟩:=hx
     obtain⟨u',hu',hra⟩:=RL.get hr hy
     rw[hu]at hu';cases hu'
     simp only[RW]
     exact⟨trivial,hra⟩
    ·rename_i g fs
     simp only[RW]at hvf
     obtain⟨us,e,hr⟩:=hvf
     exact fin g fs [] us [] _ e hr (by simp only[RWL]) (by rw[List.append_nil];exact h2)
    ·cases h2
end
end Go.Cm
namespace Go.Cm
section
variable {w0:World} {M0:Io} {L L':Lay} {s s':S} {tmps tmps':List Value} {w w':World} {β:Type} {P:Program} {a:Act} {Q:Exit→Act→World→Prop}
theorem Rel.retell (R:Rel w0 M0 L s tmps w) {t:Nat} {v:V} {u:Value} (hu:tmps[t]? =some u) (h:RW L (hp w) (Fz w0 M0 L w) v u):Rel w0 M0 L (s.put (some t) v) tmps w:=by
 have:=R.putD (dst:=some t) h
 simp only[putT]at this
 have e:tmps.set t u=tmps:=by
  apply List.ext_getElem?
  intro j
  rw[List.getElem?_set]
  split
  ·rename_i e;subst e
   split
   ·exact hu.symm
   ·rename_i hlt;rw[List.getElem?_eq_none (by omega)]at hu;cases hu
  ·rfl
 rw[e]at this
 exact this
theorem undef_rw {H:Hp} {F:Fr}:RW L H F (.tup []) undef:=by simp only[RW];exact⟨[],rfl,by simp[RWL]⟩
theorem guard_ok {ops:Array Oper} {E:Env} {o:Oper} (R:Rel w0 M0 L s a.tmps.toList w) {K:S→Option β} {r:β}
  (h:(match o.guard with
   |none=>stepK P E o s K
   |some (j,want)=>match dstOf ops j with
    |some t=>match s.tm.get t with
     |some (.d _ _ (.bool b))=>match want with
      |true=>if b=true then stepK P E o (s.put (some t) (.d false 0 (.bool true))) K
        else K ((s.put (some t) (.d false 0 (.bool false))).put o.dst (.tup []))
      |false=>if b=true then K ((s.put (some t) (.d false 0 (.bool true))).put o.dst (.tup []))
        else stepK P E o (s.put (some t) (.d false 0 (.bool false))) K
     |some (.tup [])=>K (s.put o.dst (.tup []))
     |_=>none
    |none=>none)=some r):
  (Region.wanted o (yielded ops a.tmps)=true∧∃s1 L1,Rel w0 M0 L1 s1 a.tmps.toList w∧stepK P E o s1 K=some r)∨
  (Region.wanted o (yielded ops a.tmps)=false∧∃s1 L1,Rel w0 M0 L1 s1 (putT a.tmps.toList o.dst undef) w∧K s1=some r):=by
 split at h
 ·rename_i hg
  exact .inl ⟨by simp[Region.wanted,hg],s,L,R,h⟩
 ·rename_i j want hg
  split at h
  ·rename_i t ht
   have hy:∀v,s.tm.get t=some v→∃u,a.tmps.toList[t]? =some u∧RV L (hp w) (Fz w0 M0 L w) 0 t v u∧yielded ops a.tmps j=(match u with|.bool b=>some b|_=>none):=by
    intro v hv
    obtain⟨u,hu,hr⟩:=R.val 0 t v hv
    have hu':a.tmps.toList[t]? =some u:=hu
    refine⟨u,hu',hr,?_⟩
    have h1:(ops[j]?).bind (·.dst)=some t:=ht
    have h2:a.tmps[t]? =some u:=by simpa using hu'
    simp only[yielded,h1,Option.bind_some,h2]
    cases u<;>rfl
   have skip:∀{s1:S},Rel w0 M0 L s1 a.tmps.toList w→Rel w0 M0 L (s1.put o.dst (.tup [])) (putT a.tmps.toList o.dst undef) w:=fun R1=>R1.putD undef_rw
   split at h
   ·rename_i t0 sh0 b hv
    obtain⟨u,hu,hr,hyl⟩:=hy _ hv
    simp only[RV,RW,RA]at hr
    obtain⟨_,rfl⟩:=hr
    have hrw:∀c,b=c→RW L (hp w) (Fz w0 M0 L w) (.d false 0 (.bool c)) (.bool b):=fun c e=>by subst e;simp only[RW,RA];exact⟨rfl,trivial⟩
    have hw:Region.wanted o (yielded ops a.tmps)=(b==want):=by
     simp only[Region.wanted,hg,hyl]
     cases b<;>cases want<;>rfl
    split at h
    ·split at h
     ·rename_i hb
      exact .inl ⟨by rw[hw,hb];rfl,_,L,R.retell hu (hrw true hb),h⟩
     ·rename_i hb
      have hb':b=false:=by simpa using hb
      exact .inr ⟨by rw[hw,hb'];rfl,_,L,skip (R.retell hu (hrw false hb')),h⟩
    ·split at h
     ·rename_i hb
      exact .inr ⟨by rw[hw,hb];rfl,_,L,skip (R.retell hu (hrw true hb)),h⟩
     ·rename_i hb
      have hb':b=false:=by simpa using hb
      exact .inl ⟨by rw[hw,hb'];rfl,_,L,R.retell hu (hrw false hb'),h⟩
   ·rename_i hv
    obtain⟨u,hu,hr,hyl⟩:=hy _ hv
    simp only[RV,RW]at hr
    obtain⟨us,rfl,hus⟩:=hr
    have hw:Region.wanted o (yielded ops a.tmps)=false:=by
     simp only[Region.wanted,hg,hyl];rfl
    exact .inr ⟨hw,_,L,skip R,h⟩
   ·cases h
  ·cases h
theorem opsK_eq {E:Env} {ops:Array Oper} {o:Oper} {rest:List Oper} {s:S} {k:S→Option β}:
  opsK P E ops (o::rest) s k=(match o.guard with
   |none=>stepK P E o s (fun s=>opsK P E ops rest s k)
   |some (j,want)=>match dstOf ops j with
    |some t=>match s.tm.get t with
     |some (.d _ _ (.bool b))=>match want with
      |true=>if b=true then stepK P E o (s.put (some t) (.d false 0 (.bool true))) (fun s=>opsK P E ops rest s k)
        else(fun s=>opsK P E ops rest s k) ((s.put (some t) (.d false 0 (.bool false))).put o.dst (.tup []))
      |false=>if b=true then(fun s=>opsK P E ops rest s k) ((s.put (some t) (.d false 0 (.bool true))).put o.dst (.tup []))
        else stepK P E o (s.put (some t) (.d false 0 (.bool false))) (fun s=>opsK P E ops rest s k)
     |some (.tup [])=>(fun s=>opsK P E ops rest s k) (s.put o.dst (.tup []))
     |_=>none
    |none=>none):=rfl
theorem opsK_ok {gl:Gl} {E:Env} (hE:EnvAt gl P E w0 M0) {ops:Array Oper} {k:S→Option β} {r:β}:∀(l:List Oper) (n:Nat) (a:Act) (L:Lay) (s:S) (w:World),ops.toList.drop n=l→Rel w0 M0 L s a.tmps.toList w→opsK P E ops l s k=some r→
  (∀a' w',Next' w0 M0 a k r a' w'→Q .normal a' w')→wpOps P ops Q (List.range' n l.length) a w
 |[],n,a,L,s,w,hl,R,h,hQ=>hQ a w ⟨s,L,R,rfl,h⟩
 |o::rest,n,a,L,s,w,hl,R,h,hQ=>by
  have hlt:n<ops.toList.length:=by
   by_cases hlt:n<ops.toList.length
   ·exact hlt
   ·rw[List.drop_eq_nil_of_le (by omega)]at hl;cases hl
  rw[List.drop_eq_getElem_cons hlt]at hl
  injection hl with h1 h2
  have ho:ops[n]? =some o:=by rw[←h1];simp at hlt;simp[hlt]
  rw[opsK_eq]at h
  simp only[List.length_cons,List.range'_succ,wpOps,ho]
  rcases guard_ok R h with⟨hw,s1,L1,R1,hs⟩|⟨hw,s1,L1,R1,hs⟩
  ·rw[hw,if_pos rfl]
   refine .inl (Oper.wp_mono (fun a' w'=>?_) (stepK_ok hE (Q:=Q) R1 hs))
   rintro⟨s',L',R',hd,hk⟩
   refine opsK_ok hE rest (n+1) a' L' s' w' h2 R' hk fun a'' w''=>?_
   rintro⟨s2,L2,R2,hd2,hk2⟩
   exact hQ a'' w'' ⟨s2,L2,R2,hd2.trans hd,hk2⟩
  ·rw[hw,if_neg (by simp)]
   refine opsK_ok hE rest (n+1) _ L1 s1 w h2 (by rw[put_tmps];exact R1) hs fun a'' w''=>?_
   rintro⟨s2,L2,R2,hd2,hk2⟩
   exact hQ a'' w'' ⟨s2,L2,R2,hd2.trans (put_defers _ _ _),hk2⟩
end
end Go.Cm
namespace Go.Cm
section
variable {w0:World} {M0:Io} {L L':Lay} {s s':S} {w w':World} {β:Type} {P:Program} {a:Act} {Q:Exit→Act→World→Prop} {ops:Array Oper}
def cnt (l:Array Bool):Nat:=l.toList.count false
theorem count_set:∀(l:List Bool) (i:Nat),l[i]? =some false→(l.set i true).count false+1=l.count false
 |[],i,h=>by simp at h
 |x::xs,0,h=>by simp at h;subst h;simp
 |x::xs,i+1,h=>by
  have:=count_set xs i (by simpa using h)
  simp only[List.set_cons_succ,List.count_cons]
  omega
theorem cnt_set {l:Array Bool} {i:Nat} (h:l[i]? =some false):cnt (l.setIfInBounds i true)+1=cnt l:=by
 unfold cnt
 rw[Array.toList_setIfInBounds]
 exact count_set _ i (by simpa using h)
def firstN (N n:Nat):Array Bool:=((List.range N).map fun i=>decide (i<n)).toArray
theorem firstN_get {N n i:Nat} (h:i<N):(firstN N n)[i]? =some (decide (i<n)):=by simp[firstN,h]
theorem firstN_size (N n:Nat):(firstN N n).size=N:=by simp[firstN]
theorem firstN_zero (N:Nat):Array.replicate N false=firstN N 0:=by
 apply Array.ext'
 apply List.ext_getElem?
 intro i
 by_cases h:i<N
 ·rw[Array.getElem?_toList,Array.getElem?_toList,firstN_get h];simp[h]
 ·simp[firstN,h]
def runFrom (ops:Array Oper) (U:Nat→Value):Nat→Nat→Act→Act
 |_,0,a=>a
 |n,c+1,a=>runFrom ops U (n+1) c (a.put (dstOf ops n) (U n))
theorem put_size (a:Act) (d:Option Tmp) (u:Value):(a.put d u).tmps.size=a.tmps.size:=by cases d<;>simp[Act.put]
theorem runFrom_size (U:Nat→Value):∀(c n:Nat) (a:Act),(runFrom ops U n c a).tmps.size=a.tmps.size∧(runFrom ops U n c a).defers=a.defers
 |0,n,a=>⟨rfl,rfl⟩
 |c+1,n,a=>by
  simp only[runFrom]
  obtain⟨h1,h2⟩:=runFrom_size U c (n+1) (a.put (dstOf ops n) (U n))
  exact⟨h1.trans (put_size _ _ _),h2.trans (put_defers _ _ _)⟩
theorem put_get_ne {a:Act} {d:Option Tmp} {u:Value} {t:Tmp} (h:d≠some t):(a.put d u).tmps[t]? =a.tmps[t]? :=by
 cases d with
 |none=>rfl
 |some e=>
  have:e≠t:=fun h'=>h (by rw[h'])
  simp[Act.put,Array.getElem?_setIfInBounds_ne this]
theorem put_get_eq {a:Act} {u:Value} {t:Tmp} (h:t<a.tmps.size):(a.put (some t) u).tmps[t]? =some u:=by simp[Act.put,h]
theorem runFrom_other (U:Nat→Value) {t:Tmp}:∀(c n:Nat) (a:Act),(∀i,n≤i→i<n+c→dstOf ops i≠some t)→(runFrom ops U n c a).tmps[t]? =a.tmps[t]?
 |0,n,a,_=>rfl
 |c+1,n,a,h=>by
  simp only[runFrom]
  rw[runFrom_other U c (n+1) _ (fun i h1 h2=>h i (by omega) (by omega)),put_get_ne (h n (Nat.le_refl _) (by omega))]
theorem runFrom_dst (U:Nat→Value) {t:Tmp} {i:Nat} (hd:dstOf ops i=some t):∀(c n:Nat) (a:Act),n≤i→i<n+c→(∀j,i<j→j<n+c→dstOf ops j≠some t)→t<a.tmps.size→(runFrom ops U n c a).tmps[t]? =some (U i)
 |0,n,a,h1,h2,_,_=>by omega
 |c+1,n,a,h1,h2,h3,h4=>by
  simp only[runFrom]
  by_cases he:i=n
  ·subst he
   rw[runFrom_other U c (i+1) _ (fun j g1 g2=>h3 j (by omega) (by omega)),hd,put_get_eq h4]
  ·exact runFrom_dst U hd c (n+1) _ (by omega) (by omega) (fun j g1 g2=>h3 j g1 (by omega)) (by rw[put_size];exact h4)
def Fact (P:Program) (ops:Array Oper) (w:World) (o:Oper) (a:Act) (u:Value):Prop:=
 (Region.wanted o (yielded ops a.tmps)=true∧(execOp a.eval o).run P w=.ok (.value u) w)∨(Region.wanted o (yielded ops a.tmps)=false∧u=undef)
theorem Fact.wp {i:Nat} {o:Oper} {u:Value} (hi:ops[i]? =some o) (h:Fact P ops w o a u) {K:Act→World→Prop} (hk:K (a.put (dstOf ops i) u) w):wpOp P ops Q i K a w:=by
 have hd:dstOf ops i=o.dst:=by simp[dstOf,hi]
 rw[hd]at hk
 unfold wpOp
 simp only[hi]
 rcases h with⟨hw,hr⟩|⟨hw,rfl⟩
 ·rw[hw,if_pos rfl]
  refine .inl ?_
  unfold Oper.wp
  rw[hr,Oper.upon_value]
  exact hk
 ·rw[hw,if_neg (by simp)];exact hk
theorem Fact.congr {o:Oper} {a a':Act} {u:Value} (hs:∀cs b,o.op≠.select cs b) (h:∀t∈looks ops o,a'.tmps[t]? =a.tmps[t]?) (f:Fact P ops w o a u):Fact P ops w o a' u:=by
 have he:execOp a'.eval o=execOp a.eval o:=execOp_congr o hs fun x hx=>by
  cases x with
  |tmp t=>
   have:=h t (by
    unfold looks
    refine List.mem_append_left _ (List.mem_filterMap.2 ⟨.tmp t,by simpa using hx,rfl⟩))
   simp only[Act.eval,Array.getD_eq_getD_getElem?,this]
  |_=>rfl
 have hw:Region.wanted o (yielded ops a'.tmps)=Region.wanted o (yielded ops a.tmps):=by
  unfold Region.wanted
  cases hg:o.guard with
  |none=>rfl
  |some gw=>
   obtain⟨g,want⟩:=gw
   have hy:yielded ops a'.tmps g=yielded ops a.tmps g:=by
    unfold yielded
    cases ht:(ops[g]?).bind (·.dst)with
    |none=>rfl
    |some t=>
     have:=h t (by
      unfold looks dstOf
      refine List.mem_append_right _ ?_
      simp[hg,ht])
     simp only[Option.bind_some,this]
   simp only[hy]
 unfold Fact
 rw[he,hw]
 exact f
theorem quietRun {E:Env} {k:S→Option β} {r:β} {rest:List Oper}:∀(l:List Oper) (n:Nat) (a:Act) (L:Lay) (s:S),ops.toList.drop n=l++rest→(∀o∈l,quiet o.op=true)→Rel w0 M0 L s a.tmps.toList w→
  opsK P E ops (l++rest) s k=some r→∃U:Nat→Value,(∀j o,n≤j→j<n+l.length→ops[j]? =some o→Fact P ops w o (runFrom ops U n (j - n) a) (U j))∧
   ∃s' L',Rel w0 M0 L' s' (runFrom ops U n l.length a).tmps.toList w∧opsK P E ops rest s' k=some r
 |[],n,a,L,s,hl,hq,R,h=>⟨fun _=>undef,fun j o h1 h2=>by simp at h2;omega,s,L,R,h⟩
 |o::l,n,a,L,s,hl,hq,R,h=>by
  have hlt:n<ops.toList.length:=by
   by_cases hlt:n<ops.toList.length
   ·exact hlt
   ·rw[List.drop_eq_nil_of_le (by omega)]at hl;cases hl
  rw[List.drop_eq_getElem_cons hlt]at hl
  simp only[List.cons_append]at hl h
  injection hl with h1 h2
  have ho:ops[n]? =some o:=by rw[←h1];simp at hlt;simp[hlt]
  have hd:dstOf ops n=o.dst:=by simp[dstOf,ho]
  rw[opsK_eq]at h
  have main:∃u s1 L1,Fact P ops w o a u∧Rel w0 M0 L1 s1 (putT a.tmps.toList o.dst u) w∧opsK P E ops (l++rest) s1 k=some r:=by
   rcases guard_ok R h with⟨hw,s1,L1,R1,hs⟩|⟨hw,s1,L1,R1,hs⟩
   ·obtain⟨u,s2,L2,hrun,R2,hk⟩:=quiet_ok (hq o (.head _)) R1 hs
    exact⟨u,s2,L2,.inl ⟨hw,hrun⟩,R2,hk⟩
   ·exact⟨undef,s1,L1,.inr ⟨hw,rfl⟩,R1,hs⟩
  obtain⟨u,s1,L1,hf,R1,hk⟩:=main
  rw[←put_tmps, ←hd]at R1
  obtain⟨U,hU,s',L',R',hk'⟩:=quietRun l (n+1) (a.put (dstOf ops n) u) L1 s1 h2 (fun x hx=>hq x (.tail _ hx)) R1 hk
  have hcongr:∀(c n':Nat) (b:Act),n<n'→runFrom ops (fun j=>if j=n then u else U j) n' c b=runFrom ops U n' c b:=by
   intro c
   induction c with
   |zero=>intro n' b _;rfl
   |succ c ih=>intro n' b hn;simp only[runFrom];rw[ih (n'+1) _ (by omega),if_neg (by omega)]
  refine⟨fun j=>if j=n then u else U j,fun j o' g1 g2 g3=>?_,s',L',?_,hk'⟩
  ·by_cases he:j=n
   ·subst he
    rw[ho]at g3;cases g3
    simp only[Nat.sub_self,runFrom,if_true];exact hf
   ·obtain⟨c,rfl⟩:∃c,j=n+1+c:=⟨j - (n+1),by omega⟩
    have:=hU (n+1+c) o' (by omega) (by simp only[List.length_cons]at g2;omega) g3
    rw[show n+1+c - n=c+1 by omega]
    simp only[runFrom,if_true,if_neg he]
    rw[hcongr c (n+1) _ (by omega)]
    rwa [show n+1+c - (n+1)=c by omega]at this
  ·simp only[List.length_cons,runFrom,if_true]
   rw[hcongr _ _ _ (by omega)]
   exact R'
end
end Go.Cm
namespace Go.Cm
section
variable {w0:World} {M0:Io} {L L':Lay} {s s':S} {w w':World} {β:Type} {P:Program} {a:Act} {Q:Exit→Act→World→Prop} {ops:Array Oper}
theorem boundTo_spec {o:Oper} {i:Nat} (h:boundTo o i=true):∃e∈o.after,Region.binds .any e=true∧e.on=i:=by
 simp only[boundTo,List.any_eq_true,Bool.and_eq_true,beq_true]at h
 obtain⟨e,he,h1,h2⟩:=h
 exact⟨e,by simpa using he,h1,h2⟩
theorem getD_of {l:Array Bool} {i:Nat} {b d:Bool} (h:l[i]? =some b):l.getD i d=b:=by simp[Array.getD_eq_getD_getElem?,h]
structure Inv (ops:Array Oper) (U:Nat→Value) (n m:Nat) (a:Act) (l:Array Bool) (a':Act):Prop where
 size:l.size=ops.size
 lo:∀i,i<n→i<ops.size→l[i]? =some true
 hi:∀i,m≤i→i<ops.size→l[i]? =some false
 defers:a'.defers=a.defers
 tsize:a'.tmps.size=a.tmps.size
 yes:∀i t,n≤i→i<m→dstOf ops i=some t→l[i]? =some true→t<a.tmps.size→a'.tmps[t]? =some (U i)
 no:∀t,(∀i,n≤i→i<m→dstOf ops i=some t→l[i]? =some false)→a'.tmps[t]? =a.tmps[t]?
structure SegOk (ops:Array Oper) (n m:Nat):Prop where
 le:n≤m
 top:m≤ops.size
 dst:∀i j t,n≤i→i<m→n≤j→j<m→dstOf ops i=some t→dstOf ops j=some t→i=j
 look:∀i j o t,n≤i→i<m→n≤j→j<m→ops[j]? =some o→dstOf ops i=some t→t∈looks ops o→(i<j∧boundTo o i=true)∨i=j
 edge:∀j o,n≤j→j<m→ops[j]? =some o→∀e∈o.after,Region.binds .any e=true→e.on<j
 bar:∀j o,m≤j→j<ops.size→ops[j]? =some o→(∀i,n≤i→i<m→boundTo o i=true)∨∃i,m≤i∧i<j∧boundTo o i=true
 sel:∀j o,n≤j→j<m→ops[j]? =some o→∀cs b,o.op≠.select cs b
theorem segDone {n m:Nat} {U:Nat→Value} (G:SegOk ops n m) {l:Array Bool} {a':Act} (I:Inv ops U n m a l a') (hall:∀i,n≤i→i<m→l[i]? =some true):
  l=firstN ops.size m∧a'=runFrom ops U n (m - n) a:=by
 have hle:=G.le
 have htop:=G.top
 constructor
 ·apply Array.ext'
  apply List.ext_getElem?
  intro i
  rw[Array.getElem?_toList,Array.getElem?_toList]
  by_cases hi:i<ops.size
  ·rw[firstN_get hi]
   by_cases h1:i<n
   ·rw[I.lo i h1 hi];simp;omega
   ·by_cases h2:i<m
    ·rw[hall i (by omega) h2];simp[h2]
    ·rw[I.hi i (by omega) hi];simp[h2]
  ·rw[Array.getElem?_eq_none (by rw[I.size];omega),Array.getElem?_eq_none (by rw[firstN_size];omega)]
 ·have hs:=runFrom_size (ops:=ops) U (m - n) n a
  obtain⟨t1,d1⟩:=a'
  have ht:(Act.mk t1 d1).tmps=(runFrom ops U n (m - n) a).tmps:=by
   apply Array.ext'
   apply List.ext_getElem?
   intro t
   rw[Array.getElem?_toList,Array.getElem?_toList]
   by_cases hlt:t<a.tmps.size
   ·by_cases hx:∃i,n≤i∧i<m∧dstOf ops i=some t
    ·obtain⟨i,h1,h2,h3⟩:=hx
     rw[I.yes i t h1 h2 h3 (hall i h1 h2) hlt]
     exact(runFrom_dst U h3 (m - n) n a h1 (by omega) (fun j g1 g2 e=>by have:=G.dst i j t h1 h2 (by omega) (by omega) h3 e;omega) hlt).symm
    ·have hx':∀i,n≤i→i<m→dstOf ops i≠some t:=fun i h1 h2 e=>hx ⟨i,h1,h2,e⟩
     rw[I.no t (fun i h1 h2 e=>(hx' i h1 h2 e).elim)]
     exact(runFrom_other U (m - n) n a (fun i h1 h2=>hx' i h1 (by omega))).symm
   ·rw[Array.getElem?_eq_none (by rw[I.tsize];omega),Array.getElem?_eq_none (by rw[hs.1];omega)]
  have hd:d1=(runFrom ops U n (m - n) a).defers:=I.defers.trans hs.2.symm
  generalize runFrom ops U n (m - n) a=b at*
  obtain⟨t2,d2⟩:=b
  simp only at ht hd
  rw[ht,hd]
theorem segAny {n m:Nat} {U:Nat→Value} (G:SegOk ops n m) (hf:∀j o,n≤j→j<m→ops[j]? =some o→Fact P ops w o (runFrom ops U n (j - n) a) (U j))
  (K:wpAny P .any ops Q (cnt (firstN ops.size m)) (firstN ops.size m) (runFrom ops U n (m - n) a) w):
  ∀(c:Nat) (l:Array Bool) (a':Act),Inv ops U n m a l a'→cnt l=c→wpAny P .any ops Q c l a' w:=by
 intro c
 induction c with
 |zero=>
  intro l a' I hc
  have htop:=G.top
  have hall:∀i,n≤i→i<m→l[i]? =some true:=by
   intro i h1 h2
   have hlt:i<l.size:=by rw[I.size];omega
   cases hb:l[i]? with
   |none=>rw[Array.getElem?_eq_none_iff]at hb;omega
   |some b=>
    cases b with
    |true=>rfl
    |false=>have:=cnt_set hb;omega
  obtain⟨rfl,rfl⟩:=segDone G I hall
  rw[hc]at K
  exact K
 |succ c ih=>
  intro l a' I hc
  have htop:=G.top
  by_cases hall:∀i,n≤i→i<m→l[i]? =some true
  ·obtain⟨rfl,rfl⟩:=segDone G I hall
   rw[hc]at K
   exact K
  ·
   have hex:∃i,n≤i∧i<m∧l[i]? =some false:=by
    apply Classical.byContradiction
    intro hno
    refine hall fun i h1 h2=>?_
    have hlt:i<l.size:=by rw[I.size];omega
    cases hb:l[i]? with
    |none=>rw[Array.getElem?_eq_none_iff]at hb;omega
    |some b=>
     cases b with
     |true=>rfl
     |false=>exact(hno ⟨i,h1,h2,hb⟩).elim
   have hleast:∃i,(n≤i∧i<m∧l[i]? =some false)∧∀j,j<i→n≤j→l[j]? =some true:=by
    obtain⟨i,hi⟩:=hex
    induction i using Nat.strongRecOn with
    |_ i ih2=>
     by_cases h:∃j,j<i∧n≤j∧l[j]? =some false
     ·obtain⟨j,h1,h2,h3⟩:=h
      exact ih2 j h1 ⟨h2,by omega,h3⟩
     ·refine⟨i,hi,fun j h1 h2=>?_⟩
      have hlt:j<l.size:=by rw[I.size];omega
      cases hb:l[j]? with
      |none=>rw[Array.getElem?_eq_none_iff]at hb;omega
      |some b=>
       cases b with
       |true=>rfl
       |false=>exact(h ⟨j,h1,h2,hb⟩).elim
   obtain⟨i0,⟨g1,g2,g3⟩,g4⟩:=hleast
   obtain⟨o0,ho0⟩:∃o,ops[i0]? =some o:=⟨_,Array.getElem?_eq_getElem (by omega)⟩
   have hready:i0∈Region.ready .any ops l:=by
    rw[mem_ready]
    refine⟨getD_of g3,o0,ho0,fun e he hb=>?_⟩
    have hlt:=G.edge i0 o0 g1 g2 ho0 e he hb
    by_cases hn:e.on<n
    ·exact getD_of (I.lo _ hn (by omega))
    ·exact getD_of (g4 _ hlt (by omega))
   refine⟨fun h=>(by rw[h]at hready;cases hready),fun i hi=>?_⟩
   obtain⟨h0,o,ho,hafter⟩:=mem_ready.1 hi
   have hiN:i<ops.size:=(Array.getElem?_eq_some_iff.1 ho).1
   have hil:l[i]? =some false:=by
    have hlt:i<l.size:=by rw[I.size];exact hiN
    rw[Array.getElem?_eq_getElem hlt]
    simp only[Array.getD_eq_getD_getElem?,Array.getElem?_eq_getElem hlt,Option.getD_some]at h0
    rw[h0]
   have hlisted:∀j,boundTo o j=true→l[j]? =some true:=by
    intro j hb
    obtain⟨e,he,hbi,rfl⟩:=boundTo_spec hb
    have:=hafter e he hbi
    cases hx:l[e.on]? with
    |none=>simp[Array.getD_eq_getD_getElem?,hx]at this
    |some b=>simp[Array.getD_eq_getD_getElem?,hx]at this;rw[this]
   have hin:n≤i:=by
    apply Classical.byContradiction
    intro h
    have:=I.lo i (by omega) hiN
    rw[hil]at this;cases this
   have him:i<m:=by
    apply Classical.byContradiction
    intro h
    rcases G.bar i o (by omega) hiN ho with hb|⟨j,h1,h2,hb⟩
    ·have:=hlisted i0 (hb i0 g1 g2);rw[g3]at this;cases this
    ·have:=hlisted j hb;rw[I.hi j h1 (by omega)]at this;cases this
   have hsz:=runFrom_size (ops:=ops) U (i - n) n a
   have hfact:Fact P ops w o a' (U i):=by
    refine Fact.congr (G.sel i o hin him ho) (fun t ht=>?_) (hf i o hin him ho)
    by_cases hlt:t<a.tmps.size
    ·by_cases hx:∃j,n≤j∧j<m∧dstOf ops j=some t
     ·obtain⟨j,j1,j2,j3⟩:=hx
      rcases G.look j i o t j1 j2 hin him ho j3 ht with⟨hji,hb⟩|hji
      ·rw[I.yes j t j1 j2 j3 (hlisted j hb) hlt]
       exact(runFrom_dst U j3 (i - n) n a j1 (by omega) (fun q q1 q2 e=>by have:=G.dst j q t j1 j2 (by omega) (by omega) j3 e;omega) hlt).symm
      ·rw[I.no t (fun q q1 q2 e=>by have:=G.dst j q t j1 j2 q1 q2 j3 e;rw[←this,hji];exact hil)]
       exact(runFrom_other U (i - n) n a (fun q q1 q2 e=>by have:=G.dst j q t j1 j2 q1 (by omega) j3 e;omega)).symm
     ·rw[I.no t (fun q q1 q2 e=>(hx ⟨q,q1,q2,e⟩).elim)]
      exact(runFrom_other U (i - n) n a (fun q q1 q2 e=>hx ⟨q,q1,by omega,e⟩)).symm
    ·rw[Array.getElem?_eq_none (by rw[I.tsize];exact Nat.le_of_not_lt hlt),Array.getElem?_eq_none (by rw[hsz.1];exact Nat.le_of_not_lt hlt)]
   refine hfact.wp ho ?_
   refine ih _ _ ⟨?_,?_,?_,?_,?_,?_,?_⟩ (by have:=cnt_set hil;omega)
   ·simp[I.size]
   ·intro j h1 h2;rw[Array.getElem?_setIfInBounds_ne (by omega)];exact I.lo j h1 h2
   ·intro j h1 h2;rw[Array.getElem?_setIfInBounds_ne (by omega)];exact I.hi j h1 h2
   ·rw[put_defers];exact I.defers
   ·rw[put_size];exact I.tsize
   ·intro j t h1 h2 h3 h4 h5
    by_cases he:i=j
    ·subst he;rw[h3,put_get_eq (by rw[I.tsize];exact h5)]
    ·rw[Array.getElem?_setIfInBounds_ne he]at h4
     rw[put_get_ne (fun e=>he (G.dst i j t hin him h1 h2 e h3))]
     exact I.yes j t h1 h2 h3 h4 h5
   ·intro t h
    have hne:dstOf ops i≠some t:=fun e=>by
     have:=h i hin him e
     have hlt:i<l.size:=by rw[I.size];exact hiN
     simp[hlt]at this
    rw[put_get_ne hne]
    refine I.no t fun j h1 h2 h3=>?_
    have:=h j h1 h2 h3
    by_cases he:i=j
    ·subst he;exact(hne h3).elim
    ·rwa [Array.getElem?_setIfInBounds_ne he]at this
end
end Go.Cm
namespace Go.Cm
section
variable {w0:World} {M0:Io} {L L':Lay} {s s':S} {w w':World} {β:Type} {P:Program} {a:Act} {Q:Exit→Act→World→Prop} {ops:Array Oper}
theorem any_beq {d:Nat} {l:List Tmp}:(l.any (Nat.beq d))=true↔d∈l:=memb_iff (i:=d) (l:=l)
theorem okFrom_spec {qf:Op→Bool} {i:Nat} {x:Oper}:∀(l:List Oper) (j:Nat),okFrom qf ops i x j l=true→∀q y,l[q]? =some y→okPair qf ops i x (j+q) y=true
 |[],j,h,q,y,hy=>by simp at hy
 |z::l,j,h,q,y,hy=>by
  simp only[okFrom,Bool.and_eq_true]at h
  cases q with
  |zero=>simp at hy;subst hy;exact h.1
  |succ q=>
   have:=okFrom_spec l (j+1) h.2 q y (by simpa using hy)
   rwa [show j+(q+1)=j+1+q by omega]
theorem okDraw_spec {qf:Op→Bool}:∀(l:List Oper) (i:Nat),okDrawQ qf ops i l=true→(∀q x,l[q]? =some x→∀e∈x.after,Region.binds .any e=true→e.on<i+q)∧∀q p x y,l[q]? =some x→l[p]? =some y→q<p→okPair qf ops (i+q) x (i+p) y=true
 |[],i,h=>⟨fun q x hx=>by simp at hx,fun q p x y hx=>by simp at hx⟩
 |z::l,i,h=>by
  simp only[okDrawQ,Bool.and_eq_true,List.all_eq_true,Bool.or_eq_true,Bool.not_eq_true',Nat.blt_eq]at h
  obtain⟨⟨h1,h2⟩,h3⟩:=h
  obtain⟨k1,k2⟩:=okDraw_spec l (i+1) h3
  refine⟨fun q x hx e he hb=>?_,fun q p x y hx hy hqp=>?_⟩
  ·cases q with
   |zero=>
    simp at hx;subst hx
    rcases h1 e (by simpa using he)with h|h
    ·rw[h]at hb;cases hb
    ·simpa using h
   |succ q=>have:=k1 q x (by simpa using hx) e he hb;omega
  ·cases p with
   |zero=>omega
   |succ p=>
    cases q with
    |zero=>
     simp at hx;subst hx
     have:=okFrom_spec l (i+1) h2 p y (by simpa using hy)
     rwa [show i+1+p=i+(p+1)by omega]at this
    |succ q=>
     have:=k2 q p x y (by simpa using hx) (by simpa using hy) (by omega)
     rwa [show i+1+q=i+(q+1)by omega,show i+1+p=i+(p+1)by omega]at this
structure PairOk (qf:Op→Bool) (ops:Array Oper) (i:Nat) (x y:Oper):Prop where
 dst:qf x.op=true→qf y.op=true→∀t,x.dst=some t→y.dst≠some t
 back:qf x.op=true→qf y.op=true→∀t,y.dst=some t→t∉looks ops x
 ord:boundTo y i=true∨(qf x.op=true∧qf y.op=true∧∀t,x.dst=some t→t∉looks ops y)
theorem okPair_spec {qf:Op→Bool} {i j:Nat} {x y:Oper} (h:okPair qf ops i x j y=true):PairOk qf ops i x y:=by
 simp only[okPair,Bool.and_eq_true,Bool.or_eq_true]at h
 obtain⟨h3,h12⟩:=h
 have both:qf x.op=true→qf y.op=true→_:=fun hx hy=>h12.resolve_left (by simp[hx,hy])
 refine⟨fun qx qy t ht hy=>?_,fun qx qy t ht hm=>?_,h3.imp id fun h=>⟨h.1.1,h.1.2,fun t ht hm=>?_⟩⟩
 ·have h1:=(both qx qy).1
  rw[ht,hy]at h1;simp at h1
 ·have h2:=(both qx qy).2
  rw[ht]at h2
  simp only[Bool.not_eq_true']at h2
  rw[any_beq.2 hm]at h2;cases h2
 ·have h4:=h.2
  rw[ht]at h4
  simp only[Bool.not_eq_true']at h4
  rw[any_beq.2 hm]at h4;cases h4
theorem takeWhile_all {α:Type} (p:α→Bool):∀(l:List α),∀x∈l.takeWhile p,p x=true
 |[],x,h=>by simp at h
 |y::l,x,h=>by
  rw[List.takeWhile_cons]at h
  split at h
  ·rename_i hp
   rcases List.mem_cons.1 h with rfl|h
   ·exact hp
   ·exact takeWhile_all p l x h
  ·cases h
theorem quiet_sel {o:Oper} (h:quiet o.op=true):∀cs b,o.op≠.select cs b:=by
 intro cs b e;rw[e]at h;simp[quiet]at h
theorem firstN_set {N n:Nat} (h:n<N):(firstN N n).setIfInBounds n true=firstN N (n+1):=by
 apply Array.ext'
 apply List.ext_getElem?
 intro i
 rw[Array.getElem?_toList,Array.getElem?_toList]
 by_cases hi:i<N
 ·rw[firstN_get hi]
  by_cases e:n=i
  ·subst e;simp[firstN_size,h]
  ·rw[Array.getElem?_setIfInBounds_ne e,firstN_get hi]
   congr 1
   exact decide_eq_decide.2 (by omega)
 ·rw[Array.getElem?_eq_none (by simp[firstN_size];omega),Array.getElem?_eq_none (by rw[firstN_size];omega)]
theorem drawAnyQ {gl:Gl} {E:Env} {qf:Op→Bool} (hqf:∀o,qf o=true→quiet o=true) (hE:EnvAt gl P E w0 M0) {k:S→Option β} {r:β} (hok:okDrawQ qf ops 0 ops.toList=true):
  ∀(c n:Nat) (a:Act) (L:Lay) (s:S) (w:World),ops.size - n=c→n≤ops.size→Rel w0 M0 L s a.tmps.toList w→opsK P E ops (ops.toList.drop n) s k=some r→(∀a' w',Next' w0 M0 a k r a' w'→Q .normal a' w')→
   wpAny P .any ops Q (cnt (firstN ops.size n)) (firstN ops.size n) a w:=by
 obtain⟨hedge,hpair⟩:=okDraw_spec ops.toList 0 hok
 have edge:∀i o,ops[i]? =some o→∀e∈o.after,Region.binds .any e=true→e.on<i:=fun i o ho e he hb=>by
  have:=hedge i o (by simpa using ho) e he hb;omega
 have pair:∀i j x y,ops[i]? =some x→ops[j]? =some y→i<j→PairOk qf ops i x y:=fun i j x y hx hy hij=>by
  have:=hpair i j x y (by simpa using hx) (by simpa using hy) hij
  rw[Nat.zero_add,Nat.zero_add]at this
  exact okPair_spec this
 have dOf:∀i o t,ops[i]? =some o→dstOf ops i=some t→o.dst=some t:=fun i o t ho hd=>by simpa[dstOf,ho]using hd
 intro c
 induction c using Nat.strongRecOn with
 |_ c ih=>
  intro n a L s w hc hn R h hQ
  by_cases hN:n=ops.size
  ·
   subst hN
   have hnil:ops.toList.drop ops.size=[]:=List.drop_eq_nil_of_le (by simp)
   rw[hnil]at h
   refine wpAny_done ?_ (hQ a w ⟨s,L,R,rfl,h⟩) _
   rw[List.eq_nil_iff_forall_not_mem]
   intro i hi
   obtain⟨h0,o,ho,_⟩:=mem_ready.1 hi
   have hiN:=(Array.getElem?_eq_some_iff.1 ho).1
   rw[getD_of (firstN_get hiN)]at h0
   simp at h0;omega
  ·have hlt:n<ops.size:=by omega
   obtain⟨o,ho⟩:∃o,ops[n]? =some o:=⟨_,Array.getElem?_eq_getElem hlt⟩
   have hdrop:ops.toList.drop n=o::ops.toList.drop (n+1):=by
    rw[List.drop_eq_getElem_cons (by simpa using hlt)]
    congr 1
    have:=Array.getElem?_eq_getElem hlt
    rw[ho]at this
    simpa using(Option.some.inj this).symm
   cases hq:qf o.op with
   |false=>
    have hcnt:=cnt_set (l:=firstN ops.size n) (i:=n) (by rw[firstN_get hlt];simp)
    rw[firstN_set hlt]at hcnt
    rw[←hcnt]
    have hready:∀i,i∈Region.ready .any ops (firstN ops.size n)↔i=n:=by
     intro i
     rw[mem_ready]
     constructor
     ·rintro⟨h0,o',ho',hall⟩
      have hiN:=(Array.getElem?_eq_some_iff.1 ho').1
      rw[getD_of (firstN_get hiN)]at h0
      have hni:n≤i:=by simpa using h0
      apply Classical.byContradiction
      intro hne
      rcases(pair n i o o' ho ho' (by omega)).ord with hb|⟨hb,_⟩
      ·obtain⟨e,he,hbi,e1⟩:=boundTo_spec hb
       have:=hall e he hbi
       rw[e1,getD_of (firstN_get hlt)]at this
       simp at this
      ·rw[hq]at hb;cases hb
     ·rintro rfl
      refine⟨by rw[getD_of (firstN_get hlt)];simp,o,ho,fun e he hb=>?_⟩
      have h1:=edge i o ho e he hb
      rw[getD_of (firstN_get (by omega))];simpa using h1
    refine⟨fun h0=>?_,fun i hi=>?_⟩
    ·have:=(hready n).2 rfl;rw[h0]at this;cases this
    ·obtain rfl:=(hready i).1 hi
     rw[firstN_set hlt]
     rw[hdrop,opsK_eq]at h
     unfold wpOp
     simp only[ho]
     rcases guard_ok R h with⟨hw,s1,L1,R1,hs⟩|⟨hw,s1,L1,R1,hs⟩
     ·rw[hw,if_pos rfl]
      refine .inl (Oper.wp_mono (fun a' w'=>?_) (stepK_ok hE (Q:=Q) R1 hs))
      rintro⟨s',L',R',hd,hk⟩
      refine ih (ops.size - (i+1)) (by omega) (i+1) a' L' s' w' rfl (by omega) R' hk fun a'' w''=>?_
      rintro⟨s2,L2,R2,hd2,hk2⟩
      exact hQ a'' w'' ⟨s2,L2,R2,hd2.trans hd,hk2⟩
     ·rw[hw,if_neg (by simp)]
      refine ih (ops.size - (i+1)) (by omega) (i+1) _ L1 s1 w rfl (by omega) (by rw[put_tmps];exact R1) hs fun a'' w''=>?_
      rintro⟨s2,L2,R2,hd2,hk2⟩
      exact hQ a'' w'' ⟨s2,L2,R2,hd2.trans (put_defers _ _ _),hk2⟩
   |true=>
    have hsplit:(ops.toList.drop n).takeWhile (fun o=>qf o.op)++(ops.toList.drop n).dropWhile (fun o=>qf o.op)=ops.toList.drop n:=List.takeWhile_append_dropWhile
    generalize hl1:(ops.toList.drop n).takeWhile (fun o=>qf o.op)=l1 at hsplit
    generalize hl2:(ops.toList.drop n).dropWhile (fun o=>qf o.op)=l2 at hsplit
    have hpos:0<l1.length:=by rw[←hl1,hdrop,List.takeWhile_cons,hq];simp
    have hlen:l1.length+l2.length=ops.size - n:=by
     have:=congrArg List.length hsplit
     simpa using this
    have hquiet:∀x∈l1,qf x.op=true:=by
     intro x hx
     rw[←hl1]at hx
     exact takeWhile_all _ _ x hx
    have hget:∀j x,n≤j→j<n+l1.length→ops[j]? =some x→qf x.op=true:=by
     intro j x h1 h2 hx
     refine hquiet x (List.mem_of_getElem? (i:=j - n) ?_)
     have e:(ops.toList.drop n)[j - n]? =some x:=by
      rw[List.getElem?_drop,show n+(j - n)=j by omega];simpa using hx
     rw[←hsplit,List.getElem?_append_left (by omega)]at e
     exact e
    have hrest:ops.toList.drop (n+l1.length)=l2:=by
     rw[←List.drop_drop, ←hsplit,List.drop_left]
    have hloud:∀x,ops[n+l1.length]? =some x→qf x.op=false:=by
     intro x hx
     have hm:=(Array.getElem?_eq_some_iff.1 hx).1
     have e:l2[0]? =some x:=by
      rw[←hrest,List.getElem?_drop,Nat.add_zero];simpa using hx
     have:=List.head?_dropWhile_not (fun o:Oper=>qf o.op) (ops.toList.drop n)
     rw[hl2,List.head?_eq_getElem?,e]at this
     simpa using this
    rw[←hsplit]at h
    obtain⟨U,hU,s',L',R',hk⟩:=quietRun l1 n a L s hsplit.symm (fun x hx=>hqf _ (hquiet x hx)) R h
    have G:SegOk ops n (n+l1.length):=by
     refine⟨by omega,by omega,?_,?_,?_,?_,?_⟩
     ·intro i j t h1 h2 h3 h4 h5 h6
      obtain⟨x,hx⟩:∃o,ops[i]? =some o:=⟨_,Array.getElem?_eq_getElem (by omega)⟩
      obtain⟨y,hy⟩:∃o,ops[j]? =some o:=⟨_,Array.getElem?_eq_getElem (by omega)⟩
      rcases Nat.lt_trichotomy i j with h|h|h
      ·exact((pair i j x y hx hy h).dst (hget i x h1 h2 hx) (hget j y h3 h4 hy) t (dOf i x t hx h5) (dOf j y t hy h6)).elim
      ·exact h
      ·exact((pair j i y x hy hx h).dst (hget j y h3 h4 hy) (hget i x h1 h2 hx) t (dOf j y t hy h6) (dOf i x t hx h5)).elim
     ·intro i j y t h1 h2 h3 h4 hy h5 h6
      obtain⟨x,hx⟩:∃o,ops[i]? =some o:=⟨_,Array.getElem?_eq_getElem (by omega)⟩
      rcases Nat.lt_trichotomy i j with h|h|h
      ·rcases(pair i j x y hx hy h).ord with hb|⟨_,_,hb⟩
       ·exact .inl ⟨h,hb⟩
       ·exact(hb t (dOf i x t hx h5) h6).elim
      ·exact .inr h
      ·exact((pair j i y x hy hx h).back (hget j y h3 h4 hy) (hget i x h1 h2 hx) t (dOf i x t hx h5) h6).elim
     ·exact fun j o _ _ ho=>edge j o ho
     ·intro j y h1 h2 hy
      obtain⟨z,hz⟩:∃o,ops[n+l1.length]? =some o:=⟨_,Array.getElem?_eq_getElem (by omega)⟩
      have hzl:=hloud z hz
      by_cases he:j=n+l1.length
      ·subst he
       rw[hy]at hz;cases hz
       refine .inl fun i g1 g2=>?_
       obtain⟨x,hx⟩:∃o,ops[i]? =some o:=⟨_,Array.getElem?_eq_getElem (by omega)⟩
       rcases(pair i _ x y hx hy (by omega)).ord with hb|⟨_,hb,_⟩
       ·exact hb
       ·rw[hzl]at hb;cases hb
      ·refine .inr ⟨n+l1.length,Nat.le_refl _,by omega,?_⟩
       rcases(pair _ j z y hz hy (by omega)).ord with hb|⟨hb,_⟩
       ·exact hb
       ·rw[hzl]at hb;cases hb
     ·exact fun j o h1 h2 ho=>quiet_sel (hqf _ (hget j o h1 h2 ho))
    refine segAny G (fun j o h1 h2 ho=>hU j o h1 h2 ho) ?_ _ _ a ⟨firstN_size _ _,fun i h1 h2=>by rw[firstN_get h2];simp[h1],fun i h1 h2=>by rw[firstN_get h2];simp;omega,rfl,rfl,?_,fun _ _=>rfl⟩ rfl
    ·rw[show n+l1.length - n=l1.length by omega]
     refine ih (ops.size - (n+l1.length)) (by omega) (n+l1.length) _ L' s' w rfl (by omega) R' (by rw[hrest];exact hk) fun a'' w''=>?_
     rintro⟨s2,L2,R2,hd2,hk2⟩
     exact hQ a'' w'' ⟨s2,L2,R2,hd2.trans (runFrom_size U _ _ _).2,hk2⟩
    ·intro i t h1 h2 h3 h4 h5
     rw[firstN_get (by omega)]at h4
     simp at h4;omega
theorem quietNA_le:∀o,quietNA o=true→quiet o=true:=fun o h=>by cases o<;>first|exact h|rfl
theorem drawAny {gl:Gl} {E:Env} (hE:EnvAt gl P E w0 M0) {k:S→Option β} {r:β} (hok:okDraw ops 0 ops.toList=true):
  ∀(c n:Nat) (a:Act) (L:Lay) (s:S) (w:World),ops.size - n=c→n≤ops.size→Rel w0 M0 L s a.tmps.toList w→opsK P E ops (ops.toList.drop n) s k=some r→(∀a' w',Next' w0 M0 a k r a' w'→Q .normal a' w')→
   wpAny P .any ops Q (cnt (firstN ops.size n)) (firstN ops.size n) a w:=by
 rcases Bool.or_eq_true_iff.1 hok with h|h
 ·exact drawAnyQ (fun _ h=>h) hE h
 ·exact drawAnyQ quietNA_le hE h
end
end Go.Cm
namespace Go.Cm
section
variable {w0:World} {M0:Io} {L L':Lay} {s s':S} {tmps:List Value} {w w':World} {β:Type} {P:Program} {a:Act} {Q:Exit→Act→World→Prop}
theorem find_dropKey (t j:Nat):∀l:List (Nat×V),Tm.find j (l.filter fun q=> !Nat.beq q.1 t)=if j=t then .undef else Tm.find j l
 |[]=>by simp[Tm.find]
 |e::r=>by
  have ih:=find_dropKey t j r
  cases h:Nat.beq e.1 t with
  |true=>
   rw[beq_true]at h
   rw[List.filter_cons_of_neg (by simp[h]),ih]
   by_cases hj:j=t
   ·rw[if_pos hj,if_pos hj]
   ·rw[if_neg hj,if_neg hj,Tm.find,(beq_false e.1 j).2 (fun e'=>hj (e'.symm.trans h))]
  |false=>
   rw[List.filter_cons_of_pos (by simp[h]),Tm.find]
   rw[beq_false]at h
   cases h2:Nat.beq e.1 j with
   |true=>
    rw[beq_true]at h2
    rw[if_neg (fun e'=>h (h2.trans e')),Tm.find,h2,Nat.beq_refl]
   |false=>
    dsimp only
    rw[ih,Tm.find,h2]
theorem find_keepL (m j:Nat):∀l:List (Nat×V),Tm.find j (keepL m l)=Tm.find j l∨Tm.find j (keepL m l)=.undef
 |[]=>.inl rfl
 |e::r=>by
  have ih:=find_keepL m j r
  simp only[keepL]
  split
  ·simp only[Tm.find]
   cases Nat.beq e.1 j with
   |true=>exact .inl rfl
   |false=>exact ih
  ·rw[find_dropKey]
   by_cases hj:j=e.1
   ·rw[if_pos hj];exact .inr rfl
   ·rw[if_neg hj,Tm.find,(beq_false e.1 j).2 (fun e'=>hj e'.symm)]
    exact ih
theorem keepTm_get (m:Nat) (x:Tm) (j:Nat):(keepTm m x).get j=none∨∃v,x.get j=some v∧((keepTm m x).get j=some v∨(keepTm m x).get j=some .undef):=by
 simp only[Tm.get,keepTm]
 cases Nat.blt j x.n with
 |false=>exact .inl rfl
 |true=>
  refine .inr ⟨_,rfl,?_⟩
  rcases find_keepL m j x.m with h|h
  ·exact .inl (by rw[h])
  ·exact .inr (by rw[h])
theorem find_filterId (p:Nat→Bool) (a:Nat):∀l:List (Nat×Bool×List V),S.find a (l.filter fun r=>p r.1)=if p a=true then S.find a l else none
 |[]=>by simp[S.find]
 |r::rs=>by
  have ih:=find_filterId p a rs
  cases hp:p r.1 with
  |true=>
   rw[List.filter_cons_of_pos (by simp[hp]),S.find,ih]
   cases h:Nat.beq r.1 a with
   |true=>rw[beq_true]at h;subst h;simp only[S.find,Nat.beq_refl,hp,if_true]
   |false=>simp only[S.find,h]
  |false=>
   rw[List.filter_cons_of_neg (by simp[hp]),ih]
   by_cases ha:p a=true
   ·rw[if_pos ha,if_pos ha,S.find,(beq_false r.1 a).2 (fun e=>by rw[e,ha]at hp;cases hp)]
   ·rw[if_neg ha,if_neg ha]
theorem find_insRow (r:Nat×Bool×List V) (a:Nat):∀l:List (Nat×Bool×List V),S.find a (S.insRow r l)=S.find a (r::l)
 |[]=>rfl
 |q::rs=>by
  unfold S.insRow
  cases h:Nat.blt q.1 r.1 with
  |false=>rfl
  |true=>
   simp only[S.find]
   rw[find_insRow r a rs]
   rw[Nat.blt_eq]at h
   cases h2:Nat.beq q.1 a with
   |false=>simp only[S.find]
   |true=>
    rw[beq_true]at h2
    rw[(beq_false r.1 a).2 (by omega)]
theorem find_sortR (a:Nat):∀l:List (Nat×Bool×List V),S.find a (S.sortR l)=S.find a l
 |[]=>rfl
 |r::rs=>by
  unfold S.sortR
  rw[find_insRow,S.find,S.find,find_sortR a rs]
theorem Rel.keep (R:Rel w0 M0 L s tmps w) (pin m:Nat):Rel w0 M0 L (s.keep pin m) tmps w:=by
 have hf:∀i r,S.find i (s.keep pin m).ob=some r→S.find i s.ob=some r:=by
  intro i r h
  simp only[S.keep]at h
  rw[find_sortR]at h
  rw[find_filterId (fun j=>Nat.ble j pin||Nat.ble PR j||Tm.men j (keepTm m s.tm)||s.ob.any fun q=> !Nat.beq q.1 j&&V.menRL true j q.2.2)]at h
  split at h
  ·exact h
  ·cases h
 refine R.same (by simp only[S.keep,keepTm];exact R.tlen) (fun i o v hv=>?_) (fun i agg cells h=>⟨cells,hf i _ h,rfl⟩)
 cases i with
 |zero=>
  have hv':(keepTm m s.tm).get o=some v:=hv
  rcases keepTm_get m s.tm o with h|⟨v0,h1,h2⟩
  ·rw[h]at hv';cases hv'
  ·refine .inr ⟨v0,h1,?_,rfl⟩
   rcases h2 with h2|h2<;>rw[h2]at hv'<;>cases hv'
   ·exact .inl rfl
   ·exact .inr rfl
 |succ i=>
  obtain⟨agg,cells,h1,h2⟩:=S.find_of_cell hv
  have:=hf _ _ h1
  exact .inr ⟨v,by simp[S.cell,S.row,this,h2],.inl rfl,rfl⟩
theorem Lp.of_some {σ α:Type} {f:σ→Option (σ ⊕ α)} {s:σ} {r:α} (h:Lp f s=some r):∃n,Lp.iter f n s=some r:=by
 unfold Lp at h
 split at h
 ·rename_i hx
  cases h
  exact⟨_,Classical.choose_spec (Classical.choose_spec hx)⟩
 ·cases h
theorem Lp.iter_add {σ α:Type} {f:σ→Option (σ ⊕ α)}:∀(n m:Nat) (s:σ) (r:α),Lp.iter f n s=some r→Lp.iter f (n+m) s=some r
 |0,m,s,r,h=>by simp[Lp.iter]at h
 |n+1,m,s,r,h=>by
  rw[show n+1+m=(n+m)+1 by omega]
  simp only[Lp.iter]at h ⊢
  cases hf:f s with
  |none=>rw[hf]at h;cases h
  |some x=>
   rw[hf]at h
   cases x with
   |inl s'=>exact Lp.iter_add n m s' r h
   |inr r'=>exact h
theorem Lp.eq_of {σ α:Type} {f:σ→Option (σ ⊕ α)} {n:Nat} {s:σ} {r:α} (h:Lp.iter f n s=some r):Lp f s=some r:=by
 have hx:∃n r,Lp.iter f n s=some r:=⟨n,r,h⟩
 unfold Lp
 rw[dif_pos hx]
 have h2:=Classical.choose_spec (Classical.choose_spec hx)
 have a:=Lp.iter_add _ (Classical.choose hx) _ _ h
 have b:=Lp.iter_add _ n _ _ h2
 rw[Nat.add_comm]at b
 rw[a]at b
 exact b.symm▸rfl
theorem wp_rounds {c:Code} (I:Nat→Act→World→Prop) {n:Nat} (h0:I n a w)
  (round:∀n a w,I n a w→c.wp P (Exit.then (fun a' w'=>∃m,m<n∧I m a' w') Q) a w):(Code.loop c).wp P Q a w:=by
 have least:∀a w,(∃n,I n a w)→∃n,I n a w∧∀m,I m a w→n≤m:=by
  rintro a w ⟨n,hn⟩
  induction n using Nat.strongRecOn with
  |_ n ih=>
   by_cases h:∃m,m<n∧I m a w
   ·obtain⟨m,h1,h2⟩:=h;exact ih m h1 h2
   ·exact⟨n,hn,fun m hm=>Nat.le_of_not_lt fun hlt=>h ⟨m,hlt,hm⟩⟩
 open Classical in
 refine wp_loop (fun a w=>∃n,I n a w) (fun a w=>if h:∃n,I n a w then Classical.choose (least a w h)else 0) ⟨n,h0⟩ fun a w hI=>?_
 have hc:=Classical.choose_spec (least a w hI)
 refine wp_mono (round _ a w hc.1) fun e a' w'=>?_
 cases e with
 |normal=>
  rintro⟨m,hlt,hm⟩
  refine⟨⟨m,hm⟩,?_⟩
  rw[dif_pos hI,dif_pos ⟨m,hm⟩]
  have h2:=Classical.choose_spec (least a' w' ⟨m,hm⟩)
  exact Nat.lt_of_le_of_lt (h2.2 m hm) hlt
 |_=>exact id
end
end Go.Cm
namespace Go.Cm
section
variable {w w':World} {P:Program} {a a' ag:Act} {Q:Exit→Act→World→Prop} {ops:Array Oper} {l:Array Bool}
def Bnd (o:Oper) (p:Nat):Prop:=∃e∈o.after,Region.binds .any e=true∧e.on=p
inductive Anc (ops:Array Oper):Nat→Nat→Prop
 |one {j i:Nat} {o:Oper}:ops[j]? =some o→Bnd o i→Anc ops j i
 |more {j p i:Nat} {o:Oper}:ops[j]? =some o→Bnd o p→Anc ops p i→Anc ops j i
def Down (ops:Array Oper) (l:Array Bool):Prop:=∀(j:Nat) (o:Oper),ops[j]? =some o→l[j]? =some true→∀p:Nat,Bnd o p→l[p]? =some true
theorem Anc.done (hD:Down ops l) {j i:Nat} (h:Anc ops j i):(∀o,ops[j]? =some o→∀p:Nat,Bnd o p→l[p]? =some true)→l[i]? =some true:=by
 induction h with
 |one ho hb=>intro h;exact h _ ho _ hb
 |@more j p i o ho hb _ ih=>intro h;exact ih fun o' ho' q hq=>hD p o' ho' (h _ ho _ hb) q hq
theorem ready_bnd {i:Nat} (h:i∈Region.ready .any ops l):∃o,ops[i]? =some o∧(l[i]? =some false∨l[i]? =none)∧∀p:Nat,Bnd o p→l[p]? =some true:=by
 obtain⟨h0,o,ho,hall⟩:=mem_ready.1 h
 refine⟨o,ho,?_,?_⟩
 ·cases hx:l[i]? with
  |none=>exact .inr rfl
  |some b=>simp[Array.getD_eq_getD_getElem?,hx]at h0;rw[h0];exact .inl rfl
 ·rintro p ⟨e,he,hb,rfl⟩
  have:=hall e he hb
  cases hx:l[e.on]? with
  |none=>simp[Array.getD_eq_getD_getElem?,hx]at this
  |some b=>simp[Array.getD_eq_getD_getElem?,hx]at this;rw[this]
theorem Down.set (hD:Down ops l) {i:Nat} (h:i∈Region.ready .any ops l):Down ops (l.setIfInBounds i true):=by
 obtain⟨o,ho,_,hb⟩:=ready_bnd h
 have keep:∀p,l[p]? =some true→(l.setIfInBounds i true)[p]? =some true:=fun p hp=>by
  by_cases he:i=p
  ·subst he
   have hlt:=(Array.getElem?_eq_some_iff.1 hp).1
   rw[Array.getElem?_setIfInBounds_self];simp[hlt]
  ·rw[Array.getElem?_setIfInBounds_ne he];exact hp
 intro j o' ho' hj p hp
 by_cases he:i=j
 ·subst he
  rw[ho]at ho';cases ho'
  exact keep p (hb p hp)
 ·rw[Array.getElem?_setIfInBounds_ne he]at hj
  exact keep p (hD j o' ho' hj p hp)
structure Canon (ops:Array Oper) (C:List Nat):Prop where
 nodup:C.Nodup
 all:∀i,i∈C↔i<ops.size
 dst:∀i j t,i<ops.size→j<ops.size→dstOf ops i=some t→dstOf ops j=some t→i=j
 look:∀i j o t,i<ops.size→ops[j]? =some o→dstOf ops i=some t→t∈looks ops o→Anc ops j i
 edge:∀C1 j C2 o,C=C1++j::C2→ops[j]? =some o→∀p,Bnd o p→p∈C1
 loud:∀C1 i C2 o,C=C1++i::C2→ops[i]? =some o→quiet o.op=false→∀j∈C2,Anc ops j i
structure GInv (P:Program) (ops:Array Oper) (C1:List Nat) (w:World) (l:Array Bool) (a ag:Act):Prop where
 size:l.size=ops.size
 down:Down ops l
 rest:∀i,i<ops.size→i∉C1→l[i]? =some false
 loud:∀i o,i∈C1→ops[i]? =some o→quiet o.op=false→l[i]? =some true
 fact:∀i o,i∈C1→ops[i]? =some o→l[i]? =some false→∃u,Fact P ops w o ag u∧∀t,dstOf ops i=some t→t<ag.tmps.size→ag.tmps[t]? =some u
 tmp:∀t,(∀i,i∈C1→dstOf ops i=some t→l[i]? =some true)→a.tmps[t]? =ag.tmps[t]?
 defers:a.defers=ag.defers
 tsize:a.tmps.size=ag.tmps.size
theorem ginv_soft {C C1 C2:List Nat} (G:Canon ops C) (hC:C=C1++C2) (I:GInv P ops C1 w l a ag) {i:Nat} {o:Oper} (hi:i∈Region.ready .any ops l) (ho:ops[i]? =some o) (h1:i∈C1) (hq:quiet o.op=true)
  {K:Array Bool→Act→World→Prop} (hk:∀a',GInv P ops C1 w (l.setIfInBounds i true) a' ag→K (l.setIfInBounds i true) a' w):wpOp P ops Q i (K (l.setIfInBounds i true)) a w:=by
 have hiN:i<ops.size:=(Array.getElem?_eq_some_iff.1 ho).1
 obtain⟨o',ho',hl,hb⟩:=ready_bnd hi
 rw[ho]at ho';cases ho'
 have hil:l[i]? =some false:=by
  rcases hl with h|h
  ·exact h
  ·rw[Array.getElem?_eq_none_iff,I.size]at h;omega
 obtain⟨u,hf,hu⟩:=I.fact i o h1 ho hil
 have hready:∀o',ops[i]? =some o'→∀p,Bnd o' p→l[p]? =some true:=fun o' h p hp=>by rw[ho]at h;cases h;exact hb p hp
 have hreal:Fact P ops w o a u:=by
  refine Fact.congr (quiet_sel hq) (fun t ht=>I.tmp t fun j hj hd=>?_) hf
  have hjN:=(G.all j).1 (by rw[hC];exact List.mem_append_left _ hj)
  exact(G.look j i o t hjN ho hd ht).done I.down hready
 refine hreal.wp ho (hk _ ⟨?_,I.down.set hi,?_,?_,?_,?_,?_,?_⟩)
 ·simp[I.size]
 ·intro j hj hn
  have hne:i≠j:=fun e=>hn (e▸h1)
  rw[Array.getElem?_setIfInBounds_ne hne];exact I.rest j hj hn
 ·intro j o' hj ho' hq'
  by_cases he:i=j
  ·subst he;rw[ho]at ho';cases ho';rw[hq]at hq';cases hq'
  ·rw[Array.getElem?_setIfInBounds_ne he];exact I.loud j o' hj ho' hq'
 ·intro j o' hj ho' hjl
  by_cases he:i=j
  ·subst he
   have hlt:i<l.size:=by rw[I.size];exact hiN
   simp[hlt]at hjl
  ·rw[Array.getElem?_setIfInBounds_ne he]at hjl
   exact I.fact j o' hj ho' hjl
 ·intro t ht
  by_cases hd:dstOf ops i=some t
  ·rw[hd]
   by_cases hlt:t<a.tmps.size
   ·rw[put_get_eq hlt]
    exact(hu t hd (by rw[←I.tsize];exact hlt)).symm
   ·rw[Array.getElem?_eq_none (by rw[put_size];exact Nat.le_of_not_lt hlt),Array.getElem?_eq_none (by rw[←I.tsize];exact Nat.le_of_not_lt hlt)]
  ·rw[put_get_ne hd]
   refine I.tmp t fun j hj hdj=>?_
   have:=ht j hj hdj
   by_cases he:i=j
   ·subst he;exact(hd hdj).elim
   ·rwa [Array.getElem?_setIfInBounds_ne he]at this
 ·rw[put_defers];exact I.defers
 ·rw[put_size];exact I.tsize
theorem ginv_same {C1:List Nat} (I:GInv P ops C1 w l a ag) (h:∀i,i∈C1→l[i]? =some true):a=ag:=by
 have ht:a.tmps=ag.tmps:=by
  apply Array.ext'
  apply List.ext_getElem?
  intro t
  rw[Array.getElem?_toList,Array.getElem?_toList]
  exact I.tmp t fun i hi _=>h i hi
 have hd:=I.defers
 obtain⟨t1,d1⟩:=a
 obtain⟨t2,d2⟩:=ag
 simp only at ht hd
 rw[ht,hd]
end
end Go.Cm
namespace Go.Cm
section
variable {w w':World} {P:Program} {a a' ag:Act} {Q:Exit→Act→World→Prop} {ops:Array Oper} {l:Array Bool}
theorem wp_move {o:Oper} (he:execOp a.eval o=execOp ag.eval o) {K K':Act→World→Prop} (hl:LetsOut (fun _ _ _=>False)→LetsOut Q) (h:Oper.wp P o ag w K (fun _ _ _=>False))
  (hK:∀v w1,K (ag.put o.dst v) w1→K' (a.put o.dst v) w1) (hD:∀a1 w1,K a1 w1→a1.defers=ag.defers):Oper.wp P o a w K' Q:=by
 unfold Oper.wp at h ⊢
 rw[he]
 generalize (execOp ag.eval o).run P w=res at h
 unfold Oper.upon at h ⊢
 split at h
 ·exact hK _ _ h
 ·exact hK _ _ h
 ·have:=hD _ _ h
  rw[put_defers]at this
  have hlen:=congrArg List.length this
  simp at hlen
 ·refine Calls.mono h fun e w'' he=>?_
  cases e with
  |returned v=>exact hK _ _ he
  |panicked c=>exact he.elim
  |outgrown=>exact hl he
 ·exact Rows.mono h fun v w'' he=>hK _ _ he
 ·exact h.elim
 ·exact h.elim
theorem exec_eq {o:Oper} (hs:∀cs b,o.op≠.select cs b) (h:∀t∈looks ops o,a.tmps[t]? =ag.tmps[t]?):execOp a.eval o=execOp ag.eval o:=by
 refine execOp_congr o hs fun x hx=>?_
 cases x with
 |tmp t=>
  have:=h t (by
   unfold looks
   exact List.mem_append_left _ (List.mem_filterMap.2 ⟨.tmp t,by simpa using hx,rfl⟩))
  simp only[Act.eval,Array.getD_eq_getD_getElem?,this]
 |_=>rfl
theorem wanted_eq {o:Oper} (h:∀t∈looks ops o,a.tmps[t]? =ag.tmps[t]?):Region.wanted o (yielded ops a.tmps)=Region.wanted o (yielded ops ag.tmps):=by
 unfold Region.wanted
 cases hg:o.guard with
 |none=>rfl
 |some gw=>
  obtain⟨g,want⟩:=gw
  have hy:yielded ops a.tmps g=yielded ops ag.tmps g:=by
   unfold yielded
   cases ht:(ops[g]?).bind (·.dst)with
   |none=>rfl
   |some t=>
    have:=h t (by
     unfold looks dstOf
     refine List.mem_append_right _ ?_
     simp[hg,ht])
    simp only[Option.bind_some,this]
  simp only[hy]
end
end Go.Cm
namespace Go.Cm
section
variable {w w':World} {P:Program} {a a' ag:Act} {Q:Exit→Act→World→Prop} {ops:Array Oper} {l:Array Bool} {C:List Nat}
theorem first_false (l:Array Bool):∀(C:List Nat),(∀i∈C,i<l.size)→(∀i∈C,l[i]? =some true)∨∃A j B,C=A++j::B∧l[j]? =some false∧∀i∈A,l[i]? =some true
 |[],_=>.inl (by simp)
 |i::C,h=>by
  have hi:=h i (.head _)
  cases hb:l[i]? with
  |none=>rw[Array.getElem?_eq_none_iff]at hb;omega
  |some b=>
   cases b with
   |false=>exact .inr ⟨[],i,C,rfl,hb,by simp⟩
   |true=>
    rcases first_false l C (fun j hj=>h j (.tail _ hj))with h1|⟨A,j,B,rfl,h2,h3⟩
    ·refine .inl fun j hj=>?_
     rcases List.mem_cons.1 hj with rfl|hj
     ·exact hb
     ·exact h1 j hj
    ·refine .inr ⟨i::A,j,B,rfl,h2,fun k hk=>?_⟩
     rcases List.mem_cons.1 hk with rfl|hk
     ·exact hb
     ·exact h3 k hk
theorem some_ready (G:Canon ops C) (hs:l.size=ops.size) (h:Region.ready .any ops l=[]):∀i,i<ops.size→l[i]? =some true:=by
 rcases first_false l C (fun i hi=>by rw[hs];exact(G.all i).1 hi)with h1|⟨A,j,B,hC,h2,h3⟩
 ·exact fun i hi=>h1 i ((G.all i).2 hi)
 ·have hj:j<ops.size:=(G.all j).1 (by rw[hC];simp)
  have:j∈Region.ready .any ops l:=by
   rw[mem_ready]
   refine⟨by simp[Array.getD_eq_getD_getElem?,h2],ops[j],Array.getElem?_eq_getElem hj,fun e he hb=>?_⟩
   have:=h3 e.on (G.edge A j B ops[j] hC (Array.getElem?_eq_getElem hj) e.on ⟨e,he,hb,rfl⟩)
   simp[Array.getD_eq_getD_getElem?,this]
  rw[h]at this;cases this
def Behind (P:Program) (ops:Array Oper) (Gs:List Nat→List Nat→World→Act→Prop) (C1:List Nat) (y:Nat) (rest:List Nat) (ag ag1:Act) (w1:World):Prop:=
 ag1.defers=ag.defers∧∃block rest' ag',rest=block++rest'∧(∀i o,i∈block→ops[i]? =some o→quiet o.op=true)∧
  (∀i o,i∈C1++y::block→ops[i]? =some o→quiet o.op=true→(i∈C1→¬Anc ops y i)→∃u,Fact P ops w1 o ag' u∧∀t,dstOf ops i=some t→t<ag'.tmps.size→ag'.tmps[t]? =some u)∧
  (∀t,(∀i,i∈block→dstOf ops i≠some t)→ag'.tmps[t]? =ag1.tmps[t]?)∧ag'.defers=ag1.defers∧ag'.tmps.size=ag1.tmps.size∧Gs (C1++y::block) rest' w1 ag'
theorem ginv_loud {Gs:List Nat→List Nat→World→Act→Prop} (G:Canon ops C) {C1 rest:List Nat} {y:Nat} (hC:C=C1++y::rest) (I:GInv P ops C1 w l a ag) {o:Oper} (ho:ops[y]? =some o) (hq:quiet o.op=false)
  (hi:y∈Region.ready .any ops l) {v:Value} {w1:World} (h:Behind P ops Gs C1 y rest ag (ag.put o.dst v) w1):
  ∃block rest' ag',rest=block++rest'∧GInv P ops (C1++y::block) w1 (l.setIfInBounds y true) (a.put o.dst v) ag'∧Gs (C1++y::block) rest' w1 ag':=by
 obtain⟨_,block,rest',ag',rfl,hb,hf,ht,hd,hs,hg⟩:=h
 have hyN:y<ops.size:=(Array.getElem?_eq_some_iff.1 ho).1
 have hyl:y<l.size:=by rw[I.size];exact hyN
 have hdst:dstOf ops y=o.dst:=by simp[dstOf,ho]
 have hnd:=G.nodup
 rw[hC]at hnd
 have hnd2:=(List.nodup_append.1 hnd)
 have hy1:y∉C1:=fun h=>hnd2.2.2 y h y (.head _) rfl
 have hyb:y∉block:=fun h=>(List.nodup_cons.1 hnd2.2.1).1 (List.mem_append_left _ h)
 have hb1:∀i∈block,i∉C1:=fun i h h1=>hnd2.2.2 i h1 i (.tail _ (List.mem_append_left _ h)) rfl
 have hbN:∀i∈block,i<ops.size:=fun i h=>(G.all i).1 (by rw[hC];exact List.mem_append_right _ (.tail _ (List.mem_append_left _ h)))
 obtain⟨o',ho',_,hbn⟩:=ready_bnd hi
 rw[ho]at ho';cases ho'
 refine⟨block,rest',ag',rfl,⟨by simp[I.size],I.down.set hi,?_,?_,?_,?_,?_,?_⟩,hg⟩
 ·intro i hiN hn
  have hne:y≠i:=fun e=>hn (by rw[←e];simp)
  rw[Array.getElem?_setIfInBounds_ne hne]
  exact I.rest i hiN fun h=>hn (List.mem_append_left _ h)
 ·intro i oi hm hoi hqi
  by_cases he:y=i
  ·subst he;rw[Array.getElem?_setIfInBounds_self];simp[hyl]
  ·rw[Array.getElem?_setIfInBounds_ne he]
   rcases List.mem_append.1 hm with hm|hm
   ·exact I.loud i oi hm hoi hqi
   ·rcases List.mem_cons.1 hm with h|hm
    ·exact(he h.symm).elim
    ·rw[hb i oi hm hoi]at hqi;cases hqi
 ·intro i oi hm hoi hl
  by_cases he:y=i
  ·subst he;rw[Array.getElem?_setIfInBounds_self]at hl;simp[hyl]at hl
  ·rw[Array.getElem?_setIfInBounds_ne he]at hl
   cases hqi:quiet oi.op with
   |false=>
    rcases List.mem_append.1 hm with hm|hm
    ·rw[I.loud i oi hm hoi hqi]at hl;cases hl
    ·rcases List.mem_cons.1 hm with h|hm
     ·exact(he h.symm).elim
     ·rw[hb i oi hm hoi]at hqi;cases hqi
   |true=>
    refine hf i oi hm hoi hqi fun _ hanc=>?_
    have:=hanc.done I.down fun o' ho' p hp=>by rw[ho]at ho';cases ho';exact hbn p hp
    rw[this]at hl;cases hl
 ·intro t hx
  have hnb:∀i,i∈block→dstOf ops i≠some t:=fun i hib hdi=>by
   have:=hx i (List.mem_append_right _ (.tail _ hib)) hdi
   rw[Array.getElem?_setIfInBounds_ne (show y≠i from fun e=>hyb (by rw[e];exact hib)),I.rest i (hbN i hib) (hb1 i hib)]at this
   cases this
  rw[ht t hnb]
  by_cases hd:o.dst=some t
  ·rw[hd]
   by_cases hlt:t<a.tmps.size
   ·rw[put_get_eq hlt,put_get_eq (by rw[←I.tsize];exact hlt)]
   ·rw[Array.getElem?_eq_none (by rw[put_size];exact Nat.le_of_not_lt hlt),Array.getElem?_eq_none (by rw[put_size, ←I.tsize];exact Nat.le_of_not_lt hlt)]
  ·rw[put_get_ne hd,put_get_ne hd]
   refine I.tmp t fun i hi1 hdi=>?_
   have:=hx i (List.mem_append_left _ hi1) hdi
   rwa [Array.getElem?_setIfInBounds_ne (show y≠i from fun e=>hy1 (by rw[e];exact hi1))]at this
 ·rw[hd,put_defers,put_defers];exact I.defers
 ·rw[hs,put_size,put_size];exact I.tsize
end
end Go.Cm
namespace Go.Cm
section
variable {w w':World} {P:Program} {Q:Exit→Act→World→Prop} {ops:Array Oper} {C:List Nat}
theorem ghost_any {Gs:List Nat→List Nat→World→Act→Prop} (G:Canon ops C) (hend:∀w ag,Gs C [] w ag→Q .normal ag w)
  (hloud:∀C1 y rest w ag o,C=C1++y::rest→Gs C1 (y::rest) w ag→ops[y]? =some o→quiet o.op=false∧(∀cs b,o.op≠.select cs b)∧
   (Region.wanted o (yielded ops ag.tmps)=true→Oper.wp P o ag w (fun ag1 w1=>Behind P ops Gs C1 y rest ag ag1 w1) (fun _ _ _=>False))∧
   (Region.wanted o (yielded ops ag.tmps)=false→Behind P ops Gs C1 y rest ag (ag.put o.dst undef) w)):
  ∀(n:Nat) (l:Array Bool) (a ag:Act) (w:World) (C1 C2:List Nat),C=C1++C2→GInv P ops C1 w l a ag→Gs C1 C2 w ag→cnt l=n→wpAny P .any ops Q n l a w:=by
 have fin:∀(l:Array Bool) (a ag:Act) (w:World) (C1 C2:List Nat),C=C1++C2→GInv P ops C1 w l a ag→Gs C1 C2 w ag→(∀i,i<ops.size→l[i]? =some true)→Q .normal a w:=by
  intro l a ag w C1 C2 hC I hg hall
  cases C2 with
  |nil=>
   rw[List.append_nil]at hC
   subst hC
   rw[ginv_same I fun i hi=>hall i ((G.all i).1 hi)]
   exact hend w ag hg
  |cons y rest=>
   have hy:y<ops.size:=(G.all y).1 (by rw[hC];simp)
   have hnd:=G.nodup
   rw[hC]at hnd
   have hy1:y∉C1:=fun h=>(List.nodup_append.1 hnd).2.2 y h y (.head _) rfl
   have:=I.rest y hy hy1
   rw[hall y hy]at this;cases this
 intro n
 induction n with
 |zero=>
  intro l a ag w C1 C2 hC I hg hc
  have hall:∀i,i<ops.size→l[i]? =some true:=by
   intro i hi
   have hlt:i<l.size:=by rw[I.size];exact hi
   cases hb:l[i]? with
   |none=>rw[Array.getElem?_eq_none_iff]at hb;omega
   |some b=>
    cases b with
    |true=>rfl
    |false=>have:=cnt_set hb;omega
  refine⟨?_,fin l a ag w C1 C2 hC I hg hall⟩
  rw[List.eq_nil_iff_forall_not_mem]
  intro i hi
  obtain⟨o,ho,hl,_⟩:=ready_bnd hi
  have hiN:=(Array.getElem?_eq_some_iff.1 ho).1
  rw[hall i hiN]at hl
  rcases hl with h|h<;>cases h
 |succ n ih=>
  intro l a ag w C1 C2 hC I hg hc
  refine⟨fun h=>fin l a ag w C1 C2 hC I hg (some_ready G I.size h),fun i hi=>?_⟩
  obtain⟨o,ho,hl,hbn⟩:=ready_bnd hi
  have hiN:i<ops.size:=(Array.getElem?_eq_some_iff.1 ho).1
  have hil:l[i]? =some false:=by
   rcases hl with h|h
   ·exact h
   ·rw[Array.getElem?_eq_none_iff,I.size]at h;omega
  have hcnt:=cnt_set hil
  have hready:∀o',ops[i]? =some o'→∀p,Bnd o' p→l[p]? =some true:=fun o' h p hp=>by rw[ho]at h;cases h;exact hbn p hp
  have hmem:i∈C1++C2:=by rw[←hC];exact(G.all i).2 hiN
  rcases List.mem_append.1 hmem with h1|h2
  ·have hq:quiet o.op=true:=by
    cases hq:quiet o.op with
    |true=>rfl
    |false=>rw[I.loud i o h1 ho hq]at hil;cases hil
   exact ginv_soft G hC I hi ho h1 hq (K:=fun l a w=>wpAny P .any ops Q n l a w) fun a' I'=>ih _ a' ag w C1 C2 hC I' hg (by omega)
  ·cases C2 with
   |nil=>cases h2
   |cons y rest=>
    have hyN:y<ops.size:=(G.all y).1 (by rw[hC];simp)
    obtain⟨oy,hoy⟩:∃o,ops[y]? =some o:=⟨_,Array.getElem?_eq_getElem hyN⟩
    obtain⟨hq,hsel,ht,hf⟩:=hloud C1 y rest w ag oy hC hg hoy
    have hnd:=G.nodup
    rw[hC]at hnd
    have hy1:y∉C1:=fun h=>(List.nodup_append.1 hnd).2.2 y h y (.head _) rfl
    rcases List.mem_cons.1 h2 with rfl|h3
    ·rw[ho]at hoy;cases hoy
     have hlook:∀t∈looks ops o,a.tmps[t]? =ag.tmps[t]? :=fun t ht=>I.tmp t fun j hj hd=>by
      have hjN:=(G.all j).1 (by rw[hC];exact List.mem_append_left _ hj)
      exact(G.look j i o t hjN ho hd ht).done I.down hready
     have go:∀v w1,Behind P ops Gs C1 i rest ag (ag.put o.dst v) w1→wpAny P .any ops Q n (l.setIfInBounds i true) (a.put o.dst v) w1:=by
      intro v w1 hB
      obtain⟨block,rest',ag',e,I',hg'⟩:=ginv_loud G hC I ho hq hi hB
      exact ih _ _ ag' w1 (C1++i::block) rest' (by rw[hC,e];simp) I' hg' (by omega)
     unfold wpOp
     simp only[ho]
     rw[wanted_eq hlook]
     cases hw:Region.wanted o (yielded ops ag.tmps)with
     |true=>
      rw[if_pos rfl]
      exact .inl (wp_move (exec_eq hsel hlook) (fun⟨_,_,h⟩=>h.elim) (ht hw) go fun a1 w1 h=>h.1)
     |false=>
      rw[if_neg (by simp)]
      exact go undef w (hf hw)
    ·have hanc:=G.loud C1 y rest oy hC hoy hq i h3
     have:=hanc.done I.down hready
     rw[I.rest y hyN hy1]at this;cases this
end
end Go.Cm
namespace Go.Cm
section
variable {ops:Array Oper}
theorem bndL_mem {o:Oper} {p:Nat}:p∈bndL o↔Bnd o p:=by
 unfold bndL Bnd
 rw[List.mem_filterMap]
 constructor
 ·rintro⟨e,he,h⟩
  cases hb:Region.binds .any e with
  |true=>rw[hb]at h;exact⟨e,by simpa using he,hb,by simpa using h⟩
  |false=>rw[hb]at h;cases h
 ·rintro⟨e,he,hb,rfl⟩
  exact⟨e,by simpa using he,by rw[hb]⟩
theorem orAll_bit {acc:List Nat} {i:Nat}:∀{ps:List Nat},(orAll acc ps).testBit i=true→∃p∈ps,i=p∨(acc.getD p 0).testBit i=true
 |[],h=>by simp[orAll]at h
 |p::ps,h=>by
  simp only[orAll,Nat.testBit_or,Bool.or_eq_true,Nat.testBit_two_pow,decide_eq_true_eq]at h
  rcases h with(h|h)|h
  ·exact⟨p,.head _,.inl h.symm⟩
  ·exact⟨p,.head _,.inr h⟩
  ·obtain⟨q,hq,h⟩:=orAll_bit h
   exact⟨q,.tail _ hq,h⟩
theorem masks_spec:∀(r:List Oper) (acc:List Nat),ops.toList.drop acc.length=r→(∀j m,acc[j]? =some m→∀i,m.testBit i=true→Anc ops j i)→
  ∀j m,(masks r acc)[j]? =some m→∀i,m.testBit i=true→Anc ops j i
 |[],acc,_,h=>h
 |o::r,acc,hd,h=>by
  have hlt:acc.length<ops.toList.length:=by
   by_cases hlt:acc.length<ops.toList.length
   ·exact hlt
   ·rw[List.drop_eq_nil_of_le (by omega)]at hd;cases hd
  rw[List.drop_eq_getElem_cons hlt]at hd
  injection hd with h1 h2
  have ho:ops[acc.length]? =some o:=by rw[←h1];simp at hlt;simp[hlt]
  refine masks_spec r _ (by rw[List.length_append,List.length_singleton];exact h2) fun j m hj i hi=>?_
  rcases Nat.lt_or_ge j acc.length with hjl|hjl
  ·rw[List.getElem?_append_left hjl]at hj
   exact h j m hj i hi
  ·rw[List.getElem?_append_right hjl]at hj
   have e:j=acc.length:=by
    rcases Nat.eq_or_lt_of_le hjl with e|e
    ·exact e.symm
    ·rw[List.getElem?_eq_none (by simp;omega)]at hj;cases hj
   subst e
   rw[Nat.sub_self]at hj
   simp only[List.getElem?_cons_zero,Option.some.injEq]at hj
   subst hj
   obtain⟨p,hp,hpi⟩:=orAll_bit hi
   rcases hpi with rfl|hpi
   ·exact .one ho (bndL_mem.1 hp)
   ·refine .more ho (bndL_mem.1 hp) ?_
    cases hm:acc[p]? with
    |none=>simp[List.getD_eq_getElem?_getD,hm]at hpi
    |some m=>exact h p m hm i (by simpa[List.getD_eq_getElem?_getD,hm]using hpi)
theorem ancB_spec {j i:Nat} (h:ancB (masksOf ops) j i=true):Anc ops j i:=by
 unfold ancB at h
 cases hm:(masksOf ops)[j]? with
 |none=>simp[List.getD_eq_getElem?_getD,hm]at h
 |some m=>exact masks_spec ops.toList [] rfl (fun j m h=>by simp at h) j m hm i (by simpa[List.getD_eq_getElem?_getD,hm]using h)
end
end Go.Cm
namespace Go.Cm
section
variable {ops:Array Oper} {C:List Nat}
theorem mem_of_memb {i:Nat} {l:List Nat} (h:memb i l=true):i∈l:=by
 unfold memb at h
 obtain⟨j,hj,e⟩:=List.any_eq_true.1 h
 rw[Nat.beq_eq]at e
 exact e▸hj
theorem nodup_of:∀{l:List Nat},nodupN l=true→l.Nodup
 |[],_=>List.nodup_nil
 |k::ks,h=>by
  simp only[nodupN,Bool.and_eq_true,Bool.not_eq_true']at h
  refine List.nodup_cons.2 ⟨fun hm=>?_,nodup_of h.2⟩
  have:memb k ks=true:=List.any_eq_true.2 ⟨k,hm,by rw[Nat.beq_eq]⟩
  rw[this]at h;cases h.1
theorem edgesB_spec:∀(R A:List Nat),edgesB ops A R=true→∀R1 j R2 o,R=R1++j::R2→ops[j]? =some o→∀p,Bnd o p→p∈A++R1
 |[],A,_,R1,j,R2,o,e,_,_,_=>by simp at e
 |x::R,A,h,R1,j,R2,o,e,ho,p,hp=>by
  simp only[edgesB,Bool.and_eq_true]at h
  cases R1 with
  |nil=>
   injection e with e1 e2
   subst e1
   rw[ho]at h
   have:=List.all_eq_true.1 h.1 p (bndL_mem.2 hp)
   rw[List.append_nil];exact mem_of_memb this
  |cons y R1=>
   injection e with e1 e2
   subst e1
   have:=edgesB_spec R (A++[x]) h.2 R1 j R2 o e2 ho p hp
   simpa using this
theorem loudB_spec:∀(R:List Nat),loudB ops (masksOf ops) R=true→∀R1 i R2 o,R=R1++i::R2→ops[i]? =some o→quiet o.op=false→∀j∈R2,Anc ops j i
 |[],_,R1,i,R2,o,e,_,_,_,_=>by simp at e
 |x::R,h,R1,i,R2,o,e,ho,hq,j,hj=>by
  simp only[loudB,Bool.and_eq_true]at h
  cases R1 with
  |nil=>
   injection e with e1 e2
   subst e1;subst e2
   rw[ho]at h
   simp only[hq,Bool.false_or]at h
   exact ancB_spec (List.all_eq_true.1 h.1 j hj)
  |cons y R1=>
   injection e with e1 e2
   exact loudB_spec R h.2 R1 i R2 o e2 ho hq j hj
theorem canonOk_spec (h:canonOk ops C=true):Canon ops C:=by
 simp only[canonOk,Bool.and_eq_true]at h
 obtain⟨⟨⟨⟨⟨h1,h2⟩,h3⟩,h4⟩,h5⟩,h6⟩:=h
 have hall:∀i,i∈C↔i<ops.size:=fun i=>⟨fun hi=>by
   have:=List.all_eq_true.1 h3 i hi
   rwa [Nat.blt_eq]at this,fun hi=>mem_of_memb (List.all_eq_true.1 h2 i (List.mem_range.2 hi))⟩
 have pair:∀i j,i<ops.size→j<ops.size→pairB ops (masksOf ops) i j=true:=fun i j hi hj=>
  List.all_eq_true.1 (List.all_eq_true.1 h4 i ((hall i).2 hi)) j ((hall j).2 hj)
 refine⟨nodup_of h1,hall,?_,?_,?_,?_⟩
 ·intro i j t hi hj hd he
  have:=pair i j hi hj
  simp only[pairB,hd,he,Bool.and_eq_true,Bool.or_eq_true,Bool.not_eq_true',Nat.beq_eq]at this
  rcases this.1 with h|h
  ·simp at h
  ·exact h
 ·intro i j o t hi ho hd ht
  have hj:=(Array.getElem?_eq_some_iff.1 ho).1
  have:=pair i j hi hj
  simp only[pairB,hd,ho,Bool.and_eq_true,Bool.or_eq_true,Bool.not_eq_true']at this
  rcases this.2 with h|h
  ·have:(looks ops o).any (Nat.beq t)=true:=List.any_eq_true.2 ⟨t,ht,by rw[Nat.beq_eq]⟩
   rw[this]at h;cases h
  ·exact ancB_spec h
 ·intro C1 j C2 o e ho p hp
  simpa using edgesB_spec C [] h5 C1 j C2 o e ho p hp
 ·exact fun C1 i C2 o e ho hq=>loudB_spec C h6 C1 i C2 o e ho hq
end
end Go.Cm
namespace Go.Cm
section
variable {w0:World} {M0:Io} {w:World} {P:Program} {ops:Array Oper} {C:List Nat} {β:Type}
theorem anc_ahead (G:Canon ops C) {j i:Nat} (h:Anc ops j i):∀C1 C2,C=C1++j::C2→i∈C1:=by
 induction h with
 |one ho hb=>intro C1 C2 e;exact G.edge C1 _ C2 _ e ho _ hb
 |@more j p i o ho hb _ ih=>
  intro C1 C2 e
  have hp:=G.edge C1 j C2 o e ho p hb
  obtain⟨D1,D2,rfl⟩:=List.append_of_mem hp
  have:=ih D1 (D2++j::C2) (by rw[e];simp)
  exact List.mem_append_left _ this
end
end Go.Cm
namespace Go.Cm
section
variable {P:Program} {w w1:World}
def Like (P:Program) (w w1:World) {α:Type} (x:Sem α):Prop:=∀u w',x.run P w=.ok u w'→w'=w∧x.run P w1=.ok u w1
def Never (P:Program) {α:Type} (x:Sem α):Prop:=∀w u w',x.run P w≠.ok u w'
theorem Never.like {α:Type} {x:Sem α} (h:Never P x):Like P w w1 x:=fun u w' e=>(h w u w' e).elim
theorem Never.halt {α:Type} (h:Halt):Never P (.halt h:Sem α):=fun w u w' e=>by simp[Sem.run]at e
theorem Never.stuck {α:Type} (s:String):Never P (stuck s:Sem α):=Never.halt _
theorem Never.unsupported {α:Type} (s:Unsupported):Never P (unsupported s:Sem α):=Never.halt _
theorem Never.goPanic {α:Type} (v:Value):Never P (goPanic v:Sem α):=Never.halt _
theorem Never.bind {α γ:Type} {x:Sem α} {f:α→Sem γ} (h:∀a,Never P (f a)):Never P (x>>=f):=fun w u w' e=>by
 rw[Sem.run_bind]at e
 cases hx:x.run P w with
 |halt _ _=>rw[hx]at e;simp[Result.andThen]at e
 |ok a w2=>rw[hx]at e;simp only[Result.andThen]at e;exact h a _ _ _ e
theorem Never.left {α γ:Type} {x:Sem α} {f:α→Sem γ} (h:Never P x):Never P (x>>=f):=fun w u w' e=>by
 rw[Sem.run_bind]at e
 cases hx:x.run P w with
 |halt _ _=>rw[hx]at e;simp[Result.andThen]at e
 |ok a w2=>exact h _ _ _ hx
theorem Never.runtimePanic {α:Type} (e:RuntimeError):Never P (runtimePanic e:Sem α):=by
 unfold Go.runtimePanic
 refine Never.bind fun p=>?_
 cases e<;>first|exact Never.goPanic _|exact Never.bind fun _=>Never.bind fun _=>Never.goPanic _
theorem Never.boundsPanic {α:Type} (k:IntKind) (x y:Int) (c:BoundsCode):Never P (boundsPanic k x y c:Sem α):=by
 unfold Go.boundsPanic
 dsimp only
 split<;>exact Never.bind fun _=>Never.runtimePanic _
theorem Like.pure {α:Type} (a:α):Like P w w1 (pure a:Sem α):=fun u w' e=>by
 rw[Sem.run_pure]at e ⊢;cases e;exact⟨rfl,rfl⟩
theorem Like.bind {α γ:Type} {x:Sem α} {f:α→Sem γ} (hx:Like P w w1 x) (hf:∀a,Like P w w1 (f a)):Like P w w1 (x>>=f):=fun u w' e=>by
 rw[Sem.run_bind]at e
 cases h:x.run P w with
 |halt _ _=>rw[h]at e;simp[Result.andThen]at e
 |ok a w2=>
  obtain⟨rfl,h2⟩:=hx a w2 h
  rw[h]at e
  simp only[Result.andThen]at e
  obtain⟨rfl,h3⟩:=hf a u w' e
  refine⟨rfl,?_⟩
  rw[Sem.run_bind,h2]
  exact h3
theorem Like.bindAt {α γ:Type} {x:Sem α} {f:α→Sem γ} (hx:Like P w w1 x) (hf:∀a,x.run P w=.ok a w→Like P w w1 (f a)):Like P w w1 (x>>=f):=fun u w' e=>by
 rw[Sem.run_bind]at e
 cases h:x.run P w with
 |halt _ _=>rw[h]at e;simp[Result.andThen]at e
 |ok a w2=>
  obtain⟨rfl,h2⟩:=hx a w2 h
  rw[h]at e
  simp only[Result.andThen]at e
  obtain⟨rfl,h3⟩:=hf a h u w' e
  refine⟨rfl,?_⟩
  rw[Sem.run_bind,h2]
  exact h3
theorem Like.program:Like P w w1 program:=fun u w' e=>by
 simp only[Go.program,Sem.run]at e ⊢;cases e;exact⟨rfl,rfl⟩
theorem Like.any {α:Type} {x:Sem α} {u:α} (h:∀w,x.run P w=.ok u w):Like P w w1 x:=fun u' w' e=>by
 rw[h w]at e;cases e;exact⟨rfl,h w1⟩
theorem Like.stuck {α:Type} (s:String):Like P w w1 (stuck s:Sem α):=(Never.stuck s).like
theorem Like.typeInfo (t:TypeId):Like P w w1 (typeInfo t):=by
 unfold Go.typeInfo
 refine Like.program.bind fun p=>?_
 split
 ·exact Like.pure _
 ·exact Like.stuck _
theorem Like.underlying (t:TypeId):Like P w w1 (underlying t):=by
 unfold Go.underlying
 refine Like.program.bind fun p=>?_
 split
 ·exact Like.pure _
 ·exact Like.stuck _
theorem Like.zeroValue (t:TypeId):Like P w w1 (zeroValue t):=by
 unfold Go.zeroValue
 refine(Like.typeInfo t).bind fun p=>?_
 split
 ·exact Like.pure _
 ·exact(Never.unsupported _).like
theorem Like.sizeOf (t:TypeId):Like P w w1 (sizeOf t):=by
 unfold Go.sizeOf
 exact(Like.typeInfo t).bind fun p=>Like.pure _
theorem Like.isAgg (t:TypeId):Like P w w1 (isAgg t):=by
 unfold Go.isAgg
 refine(Like.underlying t).bind fun p=>?_
 split<;>exact Like.pure _
theorem Like.asIntOf (v:Value):Like P w w1 (asIntOf v):=by
 unfold Go.asIntOf
 split
 ·exact Like.pure _
 ·exact(Never.unsupported _).like
 ·exact Like.stuck _
theorem Like.asInt (v:Value):Like P w w1 (asInt v):=by
 unfold Go.asInt
 exact(Like.asIntOf v).bind fun p=>Like.pure _
theorem Like.asBool (v:Value):Like P w w1 (asBool v):=by
 unfold Go.asBool
 split
 ·exact Like.pure _
 ·exact Like.stuck _
theorem Like.asAgg (v:Value):Like P w w1 (asAgg v):=by
 unfold Go.asAgg
 split
 ·exact Like.pure _
 ·exact Like.stuck _
theorem Like.asAddr (v:Value):Like P w w1 (asAddr v):=by
 unfold Go.asAddr
 split
 ·exact Like.pure _
 ·exact(Never.runtimePanic _).like
 ·exact Like.stuck _
theorem Like.sureAddr (v:Value):Like P w w1 (Instr.sureAddr v):=by
 unfold Instr.sureAddr
 split
 ·exact Like.pure _
 ·exact Like.stuck _
theorem Like.part (t:TypeId) (cs:Array Value) (off:Nat):Like P w w1 (part t cs off):=by
 unfold Go.part
 refine(Like.isAgg t).bind fun b=>?_
 split
 ·exact(Like.sizeOf t).bind fun p=>Like.pure _
 ·split
  ·exact Like.pure _
  ·exact Like.stuck _
theorem Like.value {x:Sem Value} (h:Like P w w1 x):Like P w w1 (x>>=fun u=>Pure.pure (Next.value u):Sem Next):=h.bind fun _=>Like.pure _
theorem Like.mapM {α γ:Type} {f:α→Sem γ} (h:∀a,Like P w w1 (f a)):∀l:List α,Like P w w1 (l.mapM f)
 |[]=>by rw[List.mapM_nil];exact Like.pure _
 |a::l=>by
  rw[List.mapM_cons]
  exact(h a).bind fun _=>(Like.mapM h l).bind fun _=>Like.pure _
theorem Like.mapMA {α γ:Type} {f:α→Sem γ} (h:∀a,Like P w w1 (f a)) (l:Array α):Like P w w1 (l.mapM f):=by
 rw[Array.mapM_eq_mapM_toList, ←bind_pure_comp]
 exact(Like.mapM h _).bind fun _=>Like.pure _
theorem add_block (a:Addr) (n:Nat):(a.add n).block=a.block:=by unfold Addr.add;split<;>rfl
theorem cell_same {a:Addr} (h:w1.heap[a.block]? =w.heap[a.block]?):w1.cell? a=w.cell? a:=by
 unfold World.cell?
 rw[h]
theorem Like.load {a:Addr} {cs:Array Value} {e:TypeId} {fr:Nat×Nat} (hc:w.heap[a.block]? =some (.cells cs e fr)) (h:w1.heap[a.block]? =w.heap[a.block]?):Like P w w1 (load a):=fun u w' hr=>by
 simp only[Go.load,Sem.run]at hr ⊢
 rw[cell_same h]
 cases hv:w.cell? a with
 |some v=>
  rw[hv]at hr
  simp only[Sem.run]at hr ⊢
  cases hr;exact⟨rfl,rfl⟩
 |none=>
  rw[hv]at hr
  simp only[World.farLoad,hc]at hr
  cases hr
theorem Like.loadCells {a:Addr} {cs:Array Value} {e:TypeId} {fr:Nat×Nat} (hc:w.heap[a.block]? =some (.cells cs e fr)) (h:w1.heap[a.block]? =w.heap[a.block]?):
  ∀(n i:Nat) (acc:Array Value),Like P w w1 (loadCellsFrom a i n acc)
 |0,i,acc=>by unfold loadCellsFrom;exact Like.pure _
 |n+1,i,acc=>by
  unfold loadCellsFrom
  exact(Like.load (by rw[add_block];exact hc) (by rw[add_block];exact h)).bind fun v=>Like.loadCells hc h n (i+1) _
theorem Like.loadVar {T:TypeId} {a:Addr} {cs:Array Value} {e:TypeId} {fr:Nat×Nat} (hc:w.heap[a.block]? =some (.cells cs e fr)) (h:w1.heap[a.block]? =w.heap[a.block]?):Like P w w1 (loadVar T a):=by
 unfold Go.loadVar
 refine(Like.isAgg T).bind fun b=>?_
 split
 ·refine(Like.sizeOf T).bind fun n=>?_
  unfold Go.loadCells
  exact(Like.loadCells hc h n 0 #[]).bind fun _=>Like.pure _
 ·exact Like.load hc h
theorem Like.loadAt {T:TypeId} {a:Addr} {cs:Array Value} {e:TypeId} {fr:Nat×Nat} (hc:w.heap[a.block]? =some (.cells cs e fr)) (h:w1.heap[a.block]? =w.heap[a.block]?):Like P w w1 (Instr.loadAt T (.pointer (some a))):=by
 unfold Instr.loadAt
 exact Like.bindAt (Like.sureAddr _) fun b hb=>by
  simp only[Instr.sureAddr,Sem.run_pure,Result.ok.injEq]at hb
  rw[←hb.1];exact Like.loadVar hc h
theorem Like.field (T:TypeId) (x:Value) (f:Nat):Like P w w1 (Instr.field T x f):=by
 unfold Instr.field
 refine(Like.underlying T).bind fun d=>?_
 split
 ·split
  ·exact(Like.asAgg _).bind fun _=>Like.part _ _ _
  ·exact Like.stuck _
 ·exact Like.stuck _
theorem Like.index (T:TypeId) (x i:Value):Like P w w1 (Instr.index T x i):=by
 unfold Instr.index
 refine(Like.asIntOf i).bind fun d=>?_
 refine(Like.underlying T).bind fun d=>?_
 split
 ·split
  ·exact(Like.sizeOf _).bind fun _=>Like.part _ _ _
  ·exact(Never.boundsPanic _ _ _ _).like
 ·split
  ·exact Like.pure _
  ·exact(Never.boundsPanic _ _ _ _).like
 ·exact Like.stuck _
theorem Like.indexAt (T:TypeId) (x i:Value):Like P w w1 (Instr.indexAt T x i):=by
 unfold Instr.indexAt
 refine(Like.asIntOf i).bind fun d=>?_
 refine(Like.underlying T).bind fun d=>?_
 dsimp only
 repeat' (first|exact Like.pure _|exact Like.stuck _|exact(Never.unsupported _).like|exact(Never.boundsPanic _ _ _ _).like|exact Like.underlying _|exact Like.sureAddr _|exact Like.sizeOf _|refine Like.bind ?_ fun _=>?_ |split)
theorem Like.sliceBound (x:Value) (y:Nat) (c:BoundsCode):Like P w w1 (Instr.sliceBound x y c):=by
 unfold Instr.sliceBound
 repeat' (first|exact Like.pure _|exact(Never.boundsPanic _ _ _ _).like|exact Like.asIntOf _|refine Like.bind ?_ fun _=>?_ |split)
theorem Like.sliceBounds (b:Bool) (len cap:Nat) (lo hi mx:Option Value):Like P w w1 (Instr.sliceBounds b len cap lo hi mx):=by
 unfold Instr.sliceBounds
 dsimp only
 repeat' (first|exact Like.pure _|exact Like.stuck _|exact Like.sliceBound _ _ _|refine Like.bind ?_ fun _=>?_ |split)
theorem Like.slice (T:TypeId) (x:Value) (lo hi mx:Option Value):Like P w w1 (Instr.slice T x lo hi mx):=by
 unfold Instr.slice
 refine(Like.underlying T).bind fun d=>?_
 dsimp only
 repeat' (first|exact Like.pure _|exact Like.stuck _|exact Like.sliceBounds _ _ _ _ _ _|exact Like.sizeOf _|exact Like.underlying _|exact Like.asAddr _|refine Like.bind ?_ fun _=>?_ |split)
theorem Like.sliceAt (T:TypeId) (x:Value) (lo hi mx:Option Value):Like P w w1 (Instr.sliceAt T x lo hi mx):=by
 unfold Instr.sliceAt
 refine(Like.underlying T).bind fun d=>?_
 split
 ·exact(Like.sureAddr _).bind fun _=>(Like.sliceBounds _ _ _ _ _ _).bind fun _=>(Like.sizeOf _).bind fun _=>Like.pure _
 ·exact Like.slice _ _ _ _ _
theorem Like.extract (x:Value) (i:Nat):Like P w w1 (Instr.extract x i):=by
 unfold Instr.extract
 split
 ·split
  ·exact Like.pure _
  ·exact Like.stuck _
 ·exact Like.stuck _
theorem Like.build (T:TypeId) (ps:Array (Nat×Value)):Like P w w1 (Instr.build T ps):=by
 unfold Instr.build
 refine(Like.zeroValue T).bind fun z=>(Like.underlying T).bind fun d=>?_
 split
 ·refine(Like.mapMA (fun f=>(Like.sizeOf _).bind fun _=>Like.pure _) _).bind fun _=>?_
  split
  ·exact Like.pure _
  ·exact Like.stuck _
 ·refine(Like.sizeOf _).bind fun _=>?_
  split
  ·exact Like.pure _
  ·exact Like.stuck _
 ·exact Like.stuck _
theorem Like.makeFunc (f:Fn) (a b:Array Value):Like P w w1 (Instr.makeFunc f a b):=by unfold Instr.makeFunc;exact Like.pure _
theorem Like.fieldAt {T:TypeId} {f off sh:Nat} (h:fieldT P T f=some (off,sh)) (x:Value):Like P w w1 (Instr.fieldAt T x f):=by
 obtain⟨fs,fl,hu,hf,ho,hs,hc⟩:=fieldT_ok h
 unfold Instr.fieldAt
 refine Like.bindAt (Like.underlying T) fun d hd=>?_
 rw[run_underlying hu]at hd
 cases hd
 simp only[hf]
 refine(Like.sureAddr _).bind fun a=>Like.bind ?_ fun _=>Like.pure _
 unfold fieldPlace
 refine Like.bindAt (Like.sizeOf _) fun n hn=>?_
 have hz:n≠0:=by
  obtain⟨i,hi,he⟩:=shT_size hs
  rw[run_size hi]at hn
  cases hn
  rw[he];exact hc
 rw[if_neg hz]
 exact Like.pure _
end
end Go.Cm
namespace Go.Cm
section
variable {P:Program} {w w1:World}
def Still (P:Program) {α:Type} (x:Sem α):Prop:=∀w u w',x.run P w=.ok u w'→w'.heap=w.heap
def Keeps (P:Program) (H:Array Obj→Prop) (B:Nat→Prop) {α:Type} (x:Sem α):Prop:=
 ∀w,H w.heap→∀u w',x.run P w=.ok u w'→w.heap.size≤w'.heap.size∧∀b,b<w.heap.size→¬B b→w'.heap[b]? =w.heap[b]?
variable {H:Array Obj→Prop} {B:Nat→Prop}
theorem Still.pure {α:Type} (a:α):Still P (pure a:Sem α):=fun w u w' e=>by rw[Sem.run_pure]at e;cases e;rfl
theorem Still.never {α:Type} {x:Sem α} (h:Never P x):Still P x:=fun w u w' e=>(h w u w' e).elim
theorem Still.bind {α γ:Type} {x:Sem α} {f:α→Sem γ} (hx:Still P x) (hf:∀a,Still P (f a)):Still P (x>>=f):=fun w u w' e=>by
 rw[Sem.run_bind]at e
 cases h:x.run P w with
 |halt _ _=>rw[h]at e;simp[Result.andThen]at e
 |ok a w2=>rw[h]at e;exact(hf a _ _ _ e).trans (hx _ _ _ h)
theorem Still.like {α:Type} {x:Sem α} (h:∀w,Like P w w x):Still P x:=fun w u w' e=>by rw[(h w u w' e).1]
theorem Still.mark (m:Mark):Still P (mark m):=fun w u w' e=>by simp only[Go.mark,Sem.run]at e;cases e;rfl
theorem Still.askRoom (n:Nat):Still P (askRoom n):=by
 unfold Go.askRoom
 split
 ·exact Still.mark _
 ·exact Still.pure _
theorem Keeps.still {α:Type} {x:Sem α} (h:Still P x):Keeps P H B x:=fun w _ u w' e=>by
 have:=h w u w' e
 rw[this];exact⟨Nat.le_refl _,fun _ _ _=>rfl⟩
theorem Keeps.bind {α γ:Type} {x:Sem α} {f:α→Sem γ} (hx:Still P x) (hf:∀a,Keeps P H B (f a)):Keeps P H B (x>>=f):=fun w hw u w' e=>by
 rw[Sem.run_bind]at e
 cases h:x.run P w with
 |halt _ _=>rw[h]at e;simp[Result.andThen]at e
 |ok a w2=>
  rw[h]at e
  have h2:=hx _ _ _ h
  have:=hf a w2 (by rw[h2];exact hw) u w' e
  rwa [h2]at this
theorem Keeps.bindAt {α γ:Type} {x:Sem α} {f:α→Sem γ} (hx:Still P x) (hf:∀a w,x.run P w=.ok a w→Keeps P H B (f a)) (hs:∀w u w',x.run P w=.ok u w'→w'=w:=by intro w u w' e;exact(Like.sureAddr (w:=w) (w1:=w) _ u w' e).1):Keeps P H B (x>>=f):=fun w hw u w' e=>by
 rw[Sem.run_bind]at e
 cases h:x.run P w with
 |halt _ _=>rw[h]at e;simp[Result.andThen]at e
 |ok a w2=>
  rw[h]at e
  have h3:=hs _ _ _ h
  subst h3
  exact hf a _ h _ hw u w' e
theorem Keeps.last {α γ:Type} {x:Sem α} {f:α→Sem γ} (hx:Keeps P H B x) (hf:∀a,Still P (f a)):Keeps P H B (x>>=f):=fun w hw u w' e=>by
 rw[Sem.run_bind]at e
 cases h:x.run P w with
 |halt _ _=>rw[h]at e;simp[Result.andThen]at e
 |ok a w2=>
  rw[h]at e
  have h2:=hf a _ _ _ e
  have:=hx w hw _ _ h
  rwa [←h2]at this
theorem Keeps.new (o:Obj):Keeps P H B (newObj o):=fun w hw u w' e=>by
 simp only[newObj,Sem.run]at e
 cases e
 refine⟨by simp,fun b hb _=>?_⟩
 simp only[Array.getElem?_push]
 rw[if_neg (by omega)]
theorem Keeps.newRow (t:TypeId) (cs:Array Value):Keeps P H B (newRow t cs):=by
 unfold Go.newRow
 exact(Keeps.new _).last fun _=>Still.pure _
theorem Keeps.store {a:Addr} {v:Value} {b0:Nat} (hb:a.block=b0):
  Keeps P (fun h=>∃cs e fr,h[b0]? =some (.cells cs e fr)) (fun b=>b=b0) (store a v):=fun w hw u w' e=>by
 subst hb
 obtain⟨cs,t,fr,hc⟩:=hw
 have main:∀{w2:World},w2=w.setCell a v→w.heap.size≤w2.heap.size∧∀b,b<w.heap.size→¬b=a.block→w2.heap[b]? =w.heap[b]? :=by
  rintro w2 rfl
  refine⟨by simp[World.setCell],fun b hb hn=>?_⟩
  simp only[World.setCell,Array.getElem?_modify]
  rw[if_neg (fun e=>hn e.symm)]
 simp only[Go.store]at e
 cases v<;>simp only[Sem.run]at e<;>try (cases e;done)
 all_goals
  split at e
  ·split at e
   ·cases e
   ·cases e;exact main rfl
  ·simp only[World.farStore,hc]at e
   cases e
theorem store_cells {a:Addr} {v:Value} {cs:Array Value} {t:TypeId} {fr:Nat×Nat} {u:Unit} {w':World} (hc:w.heap[a.block]? =some (.cells cs t fr)) (e:(store a v).run P w=.ok u w'):
  ∃cs' t' fr',w'.heap[a.block]? =some (.cells cs' t' fr'):=by
 have main:∀{w2:World},w2=w.setCell a v→∃cs' t' fr',w2.heap[a.block]? =some (.cells cs' t' fr'):=by
  rintro w2 rfl
  simp only[World.setCell,Array.getElem?_modify]
  rw[if_pos trivial,hc]
  exact⟨_,_,_,rfl⟩
 simp only[Go.store]at e
 cases v<;>simp only[Sem.run]at e<;>try (cases e;done)
 all_goals
  split at e
  ·split at e
   ·cases e
   ·cases e;exact main rfl
  ·simp only[World.farStore,hc]at e
   cases e
theorem Keeps.storeCells {a:Addr} {b0:Nat} (hb:a.block=b0):∀(vs:List Value) (i:Nat),Keeps P (fun h=>∃cs e fr,h[b0]? =some (.cells cs e fr)) (fun b=>b=b0) (storeCells a vs i)
 |[],i=>by unfold Go.storeCells;exact Keeps.still (Still.pure _)
 |v::vs,i=>fun w hw u w' e=>by
  unfold Go.storeCells at e
  rw[Sem.run_bind]at e
  cases h:(Go.store (a.add i) v).run P w with
  |halt _ _=>rw[h]at e;simp[Result.andThen]at e
  |ok x w2=>
   rw[h]at e
   simp only[Result.andThen]at e
   obtain⟨s1,k1⟩:=Keeps.store (P:=P) (b0:=b0) (by rw[add_block];exact hb) w hw _ _ h
   have hw2:∃cs e fr,w2.heap[b0]? =some (.cells cs e fr):=by
    obtain⟨cs,t,fr,hc⟩:=hw
    have:=store_cells (by rw[add_block,hb];exact hc) h
    rwa [add_block,hb]at this
   obtain⟨s2,k2⟩:=Keeps.storeCells hb vs (i+1) w2 hw2 _ _ e
   exact⟨Nat.le_trans s1 s2,fun b hb1 hn=>(k2 b (by omega) hn).trans (k1 b hb1 hn)⟩
theorem Keeps.alloc (T:TypeId):Keeps P H B (Instr.alloc T true (.tuple #[])):=by
 unfold Instr.alloc
 refine Keeps.bind (Still.like fun _=>Like.zeroValue _) fun z=>?_
 refine Keeps.last ?_ fun _=>Still.pure _
 unfold newVar
 exact Keeps.newRow _ _
theorem Keeps.box (T:TypeId) (v:Value):Keeps P H B (Instr.box T v):=by
 unfold Instr.box
 refine Keeps.last ?_ fun _=>Still.pure _
 unfold newVar
 exact Keeps.newRow _ _
theorem Keeps.buildSlice (T:TypeId) (len:Nat) (ps:Array (Nat×Value)):Keeps P H B (Instr.buildSlice T len ps):=by
 unfold Instr.buildSlice
 dsimp only
 repeat' (with_reducible first
  |exact Keeps.still (Still.never (Never.stuck _))
  |exact Keeps.still (Still.never (Never.left (Never.unsupported _)))
  |refine Keeps.bind (Still.like fun _=>Like.underlying _) fun _=>?_ |refine Keeps.bind (Still.like fun _=>Like.sizeOf _) fun _=>?_ |refine Keeps.bind (Still.like fun _=>Like.zeroValue _) fun _=>?_
  |refine Keeps.bind (Still.pure _) fun _=>?_
  |refine Keeps.last (Keeps.newRow _ _) fun _=>Still.pure _
  |split)
theorem Keeps.makeSlice (T:TypeId) (l c:Value):Keeps P H B (Instr.makeSlice T l c):=by
 unfold Instr.makeSlice
 dsimp only
 repeat' (with_reducible first
  |exact Keeps.still (Still.never (Never.stuck _))
  |exact Keeps.still (Still.never (Never.runtimePanic _))
  |exact Keeps.still (Still.never (Never.left (Never.runtimePanic _)))
  |exact Keeps.still (Still.never (Never.bind fun _=>Never.runtimePanic _))|exact Keeps.still (Still.never (Never.bind fun _=>Never.left (Never.runtimePanic _)))
  |refine Keeps.bind (Still.like fun _=>Like.underlying _) fun _=>?_ |refine Keeps.bind (Still.like fun _=>Like.sizeOf _) fun _=>?_ |refine Keeps.bind (Still.like fun _=>Like.zeroValue _) fun _=>?_
  |refine Keeps.bind (Still.like fun _=>Like.asInt _) fun _=>?_ |refine Keeps.bind (Still.like fun _=>Like.typeInfo _) fun _=>?_
  |refine Keeps.bind (Still.pure _) fun _=>?_ |refine Keeps.bind (Still.askRoom _) fun _=>?_
  |refine Keeps.last (Keeps.newRow _ _) fun _=>Still.pure _
  |split)
theorem Keeps.storeAt (T:TypeId) (ad:Addr) (v:Value):Keeps P (fun h=>∃cs e fr,h[ad.block]? =some (.cells cs e fr)) (fun b=>b=ad.block) (Instr.storeAt T (.pointer (some ad)) v):=by
 unfold Instr.storeAt
 refine Keeps.bindAt (Still.like fun _=>Like.sureAddr _) fun b w hb=>?_
 have hb':b=ad:=by simpa[Instr.sureAddr]using hb.symm
 subst hb'
 unfold storeVar
 dsimp only
 refine Keeps.bind (Still.like fun _=>Like.sizeOf _) fun n=>?_
 split
 ·exact Keeps.still (Still.never (Never.left (Never.stuck _)))
 ·exact Keeps.bind (Still.pure _) fun _=>Keeps.storeCells rfl _ _
theorem Still.makeInterface (T:TypeId) (v:Value):Still P (Instr.makeInterface T v):=by
 unfold Instr.makeInterface
 refine Still.bind (Still.like fun _=>Like.underlying _) fun d=>?_
 split
 ·exact Still.never (Never.stuck _)
 ·exact Still.pure _
end
end Go.Cm
namespace Go.Cm
section
variable {w0:World} {M0:Io} {L L':Lay} {s s':S} {tmps tmps':List Value} {w w' w1:World} {β:Type} {P:Program} {a:Act} {Q:Exit→Act→World→Prop} {ops:Array Oper}
theorem binK_any {H:Hp} {F:Fr} {a b:V} {ua ub:Value} (ha:RW L H F a ua) (hb:RW L H F b ub) {op:BinOp} {T:TypeId} {x y:Operand} {k:V→Option β} {r:β}
  (h:binK P op T x y a b k=some r):∃u,∀w,(do eqGuard op T x y ua ub;binOp op T ua ub:Sem Value).run P w=.ok u w:=by
 unfold binK at h
 split at h
 ·rename_i d hd
  split at h
  ·split at h
   ·rename_i hc
    exact⟨_,fun w=>(nilArg_ok hd hc ha hb x w).1⟩
   ·cases h
  ·split at h
   ·rename_i hc
    exact⟨_,fun w=>(nilArg_ok hd hc ha hb x w).2⟩
   ·cases h
  ·cases h
 unfold binK0 at h
 split at h
 ·rename_i u1 u2 h1 h2
  obtain rfl:=atomOf_ok h1 ha
  obtain rfl:=atomOf_ok h2 hb
  rcases binA_ok (P:=P) (x:=x) (y:=y) (T:=T) h with h|⟨v,u,hv,h,hrun⟩
  ·obtain⟨v,u,hv,h,hrun⟩:=atomK_ok h (L:=L) (H:=H) (F:=F)
   exact⟨u,hrun⟩
  ·exact⟨u,hrun⟩
 ·split at h
  ·rename_i r hr
   exact⟨_,fun w=>(eqV_ok hr ha hb x y w).1⟩
  ·rename_i r hr
   exact⟨_,fun w=>(eqV_ok hr ha hb x y w).2⟩
  ·cases h
theorem hasKey_false {k:Key} {ks:List Key} (h:hasKey k ks=false):k∉ks:=fun hm=>by
 have:hasKey k ks=true:=List.any_eq_true.2 ⟨k,hm,(Key.eqb_eq k k).2 rfl⟩
 rw[this]at h;cases h
theorem not_blks (R:Rel w0 M0 L s tmps w) {k:Key} {h:Hdr} (hk:L.k k=some h) {ks:List Key} (hn:k∉ks):h.block∉blks L ks:=fun hm=>by
 obtain⟨k',h1,h',e1,e2⟩:=mem_blks.1 hm
 exact hn (R.inj _ _ _ _ e1 hk e2▸h1)
theorem stable_ok (R:Rel w0 M0 L s a.tmps.toList w) {o:Oper} (hq:quiet o.op=true) {ks:List Key} (h:stableOp P s ks o=true)
  (hfr:∀b,b<w.heap.size→b∉blks L ks→w1.heap[b]? =w.heap[b]?):Like P w w1 (execOp a.eval o):=by
 obtain⟨dst,op,type,pos,after,guard⟩:=o
 cases op<;>simp only[quiet,Bool.false_eq_true]at hq<;>simp only[stableOp]at h<;>simp only[execOp]
 case move x=>exact Like.pure _
 case assign x=>exact Like.pure _
 case pick c x y=>exact(Like.asBool _).bind fun _=>Like.pure _
 case load T x=>
  refine Like.value ?_
  obtain⟨u,h⟩:=Option.isSome_iff_exists.1 h
  obtain⟨v,hv,h⟩:=rdK_ok R rfl h
  have fin:∀(ad:Addr) (cs:Array Value) (e:TypeId) (fr:Nat×Nat),a.eval x=.pointer (some ad)→w.heap[ad.block]? =some (.cells cs e fr)→ad.block∉blks L ks→Like P w w1 (Instr.loadAt T (a.eval x)):=by
   intro ad cs e fr he hc hn
   rw[he]
   exact Like.loadAt hc (hfr _ (Array.getElem?_eq_some_iff.1 hc).1 hn)
  split at h
  ·rename_i i off
   split at h
   ·rename_i hb
    simp only[Bool.and_eq_true,Bool.not_eq_true',Nat.blt_eq]at hb
    obtain⟨⟨h1,h2⟩,h3⟩:=hb
    obtain⟨⟨agg,cells⟩,hf⟩:=Option.isSome_iff_exists.1 h1
    obtain⟨_,hd,cs,e,hk,hc,_⟩:=R.rows _ _ _ hf h2
    simp only[RW]at hv
    obtain⟨hd',hk',e'⟩:=hv
    rw[hk]at hk';cases hk'
    exact fin ⟨hd.block,off,none⟩ cs e _ e' hc (not_blks R hk (hasKey_false h3))
   ·cases h
  ·rename_i i o e off
   split at h
   ·rename_i t sh xs hcell
    split at h
    ·cases h
    ·rename_i hn
     simp only[Bool.or_eq_false_iff,Bool.not_eq_false']at hn
     obtain⟨hn,hltm⟩:=hn
     simp only[RW]at hv
     obtain⟨hd,hk,_,e'⟩:=hv
     obtain⟨u0,_,hr⟩:=R.val _ _ _ hcell
     obtain⟨_,h2⟩:=ROwn.sl (lt_ms hltm) hr
     rw[hk]at h2
     obtain⟨_,_,_,cs,ety,_,hc,_⟩:=h2
     exact fin ⟨hd.block,_,none⟩ cs ety _ e' hc (not_blks R hk (hasKey_false hn))
   ·cases h
  ·rename_i t sh psh y
   simp only[RW,RA]at hv
   obtain⟨_,ad,u',e',hF,_,_,hl⟩:=hv
   obtain⟨_,cs,ety,fr,hc,_⟩:=hl
   refine fin ad cs ety fr e' hc fun hm=>?_
   obtain⟨k,_,hd,e1,e2⟩:=mem_blks.1 hm
   exact hF.2.1 k hd e1 e2
  ·simp only[RW]at hv
   obtain⟨ad,u',e',hF,hl,_⟩:=hv
   obtain⟨_,cs,ety,fr,hc,_⟩:=hl
   refine fin ad cs ety fr e' hc fun hm=>?_
   obtain⟨k,_,hd,e1,e2⟩:=mem_blks.1 hm
   exact hF.2.1 k hd e1 e2
  ·cases h
 case nilCheck x=>
  obtain⟨u,h⟩:=Option.isSome_iff_exists.1 h
  obtain⟨v,hv,h⟩:=rdK_ok R rfl h
  have fin:∀ad,a.eval x=.pointer (some ad)→Like P w w1 (execOp a.eval ⟨dst,.nilCheck x,type,pos,after,guard⟩):=fun ad e=>by
   simp only[execOp,e];exact Like.pure _
  have g:Like P w w1 (execOp a.eval ⟨dst,.nilCheck x,type,pos,after,guard⟩):=by
   split at h
   ·simp only[RW]at hv
    obtain⟨hd,_,e⟩:=hv
    exact fin _ e
   ·simp only[RW]at hv
    obtain⟨hd,_,_,e⟩:=hv
    exact fin _ e
   ·simp only[RW,RA]at hv
    obtain⟨_,ad,_,e,_⟩:=hv
    exact fin _ e
   ·cases h
  exact g
 case binOp op T x y T2=>
  refine Like.value ?_
  obtain⟨u,h⟩:=Option.isSome_iff_exists.1 h
  obtain⟨vx,hvx,h⟩:=rdK_ok R rfl h
  obtain⟨vy,hvy,h⟩:=rdK_ok R rfl h
  split at h
  ·rename_i hst
   unfold strAdd at hst
   split at hst
   ·simp only[RW,RA]at hvx hvy
    rw[hvx.2,hvy.2]
    intro u w' e
    rw[eqGuard_skip rfl,binOp_string_add,run_string_add_if]at e ⊢
    split at e
    ·cases e
    ·rename_i hc
     cases e
     rw[if_neg hc]
     exact⟨rfl,rfl⟩
   ·cases hst
  ·obtain⟨u,hu⟩:=binK_any hvx hvy h
   exact Like.any hu
 case unOp op T x=>
  refine Like.value ?_
  obtain⟨u,h⟩:=Option.isSome_iff_exists.1 h
  obtain⟨vx,hvx,h⟩:=rdK_ok R rfl h
  split at h
  ·rename_i ux hux
   obtain⟨v,u,hv,hk,hrun⟩:=atomK_ok h (L:=L) (H:=hp w) (F:=Fz w0 M0 L w)
   rw[atomOf_ok hux hvx]
   exact Like.any hrun
  ·cases h
 case convert src D x=>
  refine Like.value ?_
  obtain⟨u,h⟩:=Option.isSome_iff_exists.1 h
  obtain⟨vx,hvx,h⟩:=rdK_ok R rfl h
  split at h
  ·rename_i ux hux
   obtain⟨v,u,hv,hk,hrun⟩:=atomK_ok h (L:=L) (H:=hp w) (F:=Fz w0 M0 L w)
   rw[atomOf_ok hux hvx]
   exact Like.any hrun
  ·cases h
 case slice T x lo hi mx=>exact Like.value (Like.sliceAt _ _ _ _ _)
 case fieldAddr T x f=>
  obtain⟨⟨off,sh⟩,h⟩:=Option.isSome_iff_exists.1 h
  exact Like.value (Like.fieldAt h _)
 case field T x f=>exact Like.value (Like.field _ _ _)
 case indexAddr T x i=>exact Like.value (Like.indexAt _ _ _)
 case index T x i=>exact Like.value (Like.index _ _ _)
 case extract x i=>exact Like.value (Like.extract _ _)
 case build T ps=>exact Like.value (Like.build _ _)
 case makeFunc f x y=>exact Like.value (Like.makeFunc _ _ _)
 case call c=>
  obtain⟨callee,args,argTypes⟩:=c
  cases callee<;>simp only[Bool.false_eq_true]at hq
  rename_i b
  cases b<;>simp only[Bool.false_eq_true]at hq<;>simp only at h<;>simp only[resolve,invoke,builtin,pure_bind]
  case len=>
   refine Like.value ?_
   split at h
   ·rename_i T hT
    have e2:argTypes= #[T]:=by apply Array.ext';simpa using hT
    subst e2
    unfold Builtin.len_
    have hT0:(#[T]:Array TypeId)[0]? =some T:=rfl
    rw[hT0]
    cases hx:(args.map a.eval)[0]? with
    |none=>exact Like.stuck _
    |some u=>
     simp only
     refine Like.bindAt (Like.underlying T) fun d hd=>?_
     cases hu:P.underlying T with
     |none=>rw[hu]at h;cases h
     |some d'=>
      rw[run_underlying hu]at hd
      cases hd
      rw[hu]at h
      cases d<;>simp only[Bool.false_eq_true]at h
      ·cases u<;>first|exact Like.pure _|exact Like.stuck _
      ·cases u<;>first|exact Like.pure _|exact Like.stuck _
   ·cases h
  case min=>
   refine Like.value ?_
   obtain⟨u,h⟩:=Option.isSome_iff_exists.1 h
   obtain⟨vs,hvs,h1⟩:=rdsK_ok R rfl h
   obtain⟨v,u,hv,hk,hrun⟩:=minMaxK_ok (L:=L) (H:=hp w) (F:=Fz w0 M0 L w) hvs h1
   have e:args.map a.eval=(args.toList.map a.eval).toArray:=by apply Array.ext';simp
   have e2:argTypes=argTypes.toList.toArray:=by simp
   rw[e]
   exact Like.any fun w=>hrun w
  case max=>
   refine Like.value ?_
   obtain⟨u,h⟩:=Option.isSome_iff_exists.1 h
   obtain⟨vs,hvs,h1⟩:=rdsK_ok R rfl h
   obtain⟨v,u,hv,hk,hrun⟩:=minMaxK_ok (L:=L) (H:=hp w) (F:=Fz w0 M0 L w) hvs h1
   have e:args.map a.eval=(args.toList.map a.eval).toArray:=by apply Array.ext';simp
   rw[e]
   exact Like.any fun w=>hrun w
theorem skipB_ok (R:Rel w0 M0 L s a.tmps.toList w) {o:Oper} (h:skipB ops s o=true):Region.wanted o (yielded ops a.tmps)=false:=by
 unfold skipB at h
 split at h
 ·cases h
 ·rename_i j want hg
  split at h
  ·rename_i t ht
   have hy:∀v,s.tm.get t=some v→∃u,a.tmps.toList[t]? =some u∧RV L (hp w) (Fz w0 M0 L w) 0 t v u∧yielded ops a.tmps j=(match u with|.bool b=>some b|_=>none):=by
    intro v hv
    obtain⟨u,hu,hr⟩:=R.val 0 t v hv
    have hu':a.tmps.toList[t]? =some u:=hu
    refine⟨u,hu',hr,?_⟩
    have h1:(ops[j]?).bind (·.dst)=some t:=ht
    have h2:a.tmps[t]? =some u:=by simpa using hu'
    simp only[yielded,h1,Option.bind_some,h2]
    cases u<;>rfl
   split at h
   ·rename_i t0 sh0 b hv
    obtain⟨u,hu,hr,hyl⟩:=hy _ hv
    simp only[RV,RW,RA]at hr
    obtain⟨_,rfl⟩:=hr
    simp only[Region.wanted,hg,hyl]
    cases b<;>cases want<;>simp at h<;>rfl
   ·rename_i hv
    obtain⟨u,hu,hr,hyl⟩:=hy _ hv
    simp only[RV,RW]at hr
    obtain⟨us,rfl,hus⟩:=hr
    simp only[Region.wanted,hg,hyl];rfl
   ·cases h
  ·cases h
theorem Fact.stays {o:Oper} {u:Value} (f:Fact P ops w o a u) (h:Region.wanted o (yielded ops a.tmps)=true→Like P w w1 (execOp a.eval o)):Fact P ops w1 o a u:=by
 rcases f with⟨hw,hr⟩|h2
 ·exact .inl ⟨hw,(h hw _ _ hr).2⟩
 ·exact .inr h2
theorem wp_and {o:Oper} {K:Act→World→Prop} {F:World→Prop} (h:o.wp P a w K (fun _ _ _=>False)) (hn:∀n w',(execOp a.eval o).run P w=.ok n w'→((∃u,n=.value u)∨n=.skip)∧F w'):
  o.wp P a w (fun a' w'=>K a' w'∧F w') Q:=by
 unfold Oper.wp at*
 cases hr:(execOp a.eval o).run P w with
 |halt hh w'=>
  rw[hr]at h
  cases hh<;>exact(h:False).elim
 |ok n w'=>
  rw[hr]at h
  obtain⟨hk,hF⟩:=hn n w' hr
  rcases hk with⟨u,rfl⟩|rfl
  ·exact⟨h,hF⟩
  ·exact⟨h,hF⟩
theorem value_frame {x:Sem Value} (hx:Keeps P (fun _=>True) (fun _=>False) x):∀n w',(x>>=fun u=>Pure.pure (Next.value u):Sem Next).run P w=.ok n w'→((∃u,n=.value u)∨n=.skip)∧∀b,b<w.heap.size→w'.heap[b]? =w.heap[b]? :=by
 intro n w' e
 rw[Sem.run_bind]at e
 cases h:x.run P w with
 |halt _ _=>rw[h]at e;simp[Result.andThen]at e
 |ok u w2=>
  rw[h]at e
  simp only[Result.andThen,Sem.run_pure]at e
  cases e
  exact⟨.inl ⟨_,rfl⟩,fun b hb=>(hx w trivial _ _ h).2 b hb id⟩
theorem rdK_bind {γ:Type} {x:Operand} {k:V→Option γ}:rdK s x k=(rdK s x some).bind k:=by
 cases x<;>simp only[rdK]
 ·split<;>rfl
 ·split<;>rfl
 ·rfl
 ·rfl
theorem rdsK_bind {γ:Type}:∀{xs:List Operand} {k:List V→Option γ},rdsK s xs k=(rdsK s xs some).bind k
 |[],k=>rfl
 |x::xs,k=>by
  simp only[rdsK]
  rw[rdK_bind (k:=fun v=>rdsK s xs fun vs=>k (v::vs)),rdK_bind (k:=fun v=>rdsK s xs fun vs=>some (v::vs))]
  cases rdK s x some with
  |none=>rfl
  |some v=>
   simp only[Option.bind_some]
   rw[rdsK_bind (k:=fun vs=>k (v::vs)),rdsK_bind (k:=fun vs=>some (v::vs))]
   cases rdsK s xs some<;>rfl
theorem rdK_two (R:Rel w0 M0 L s a.tmps.toList w) {γ:Type} {x:Operand} {k:V→Option β} {r:β} {k':V→Option γ} {r':γ} (h:rdK s x k=some r) (h':rdK s x k'=some r'):
  ∃v,RW L (hp w) (Fz w0 M0 L w) v (a.eval x)∧k v=some r∧k' v=some r':=by
 rw[rdK_bind]at h h'
 cases hv:rdK s x some with
 |none=>rw[hv]at h;cases h
 |some v=>
  obtain⟨v',hr,e⟩:=rdK_ok R rfl hv
  cases e
  rw[hv]at h h'
  exact⟨_,hr,h,h'⟩
theorem rdsK_two (R:Rel w0 M0 L s a.tmps.toList w) {γ:Type} {xs:List Operand} {k:List V→Option β} {r:β} {k':List V→Option γ} {r':γ} (h:rdsK s xs k=some r) (h':rdsK s xs k'=some r'):
  ∃vs,RWL L (hp w) (Fz w0 M0 L w) vs (xs.map a.eval)∧k vs=some r∧k' vs=some r':=by
 rw[rdsK_bind]at h h'
 cases hv:rdsK s xs some with
 |none=>rw[hv]at h;cases h
 |some v=>
  obtain⟨v',hr,e⟩:=rdsK_ok R rfl hv
  cases e
  rw[hv]at h h'
  exact⟨_,hr,h,h'⟩
theorem loud_frame {gl:Gl} {E:Env} (hE:EnvAt gl P E w0 M0) {o:Oper} (hq:quiet o.op=false) (R:Rel w0 M0 L s a.tmps.toList w) {ks:List Key} (hf:foot P E s o=some ks) {k:S→Option β} {r:β}
  (h:stepK P E o s k=some r):o.wp P a w (fun a' w'=>Next' w0 M0 a k r a' w'∧∀b,b<w.heap.size→b∉blks L ks→w'.heap[b]? =w.heap[b]?) Q:=by
 have h0:=stepK_ok hE (Q:=fun _ _ _=>False) R h
 have weak:∀{o':Oper},o'.wp P a w (fun a' w'=>Next' w0 M0 a k r a' w'∧∀b,b<w.heap.size→w'.heap[b]? =w.heap[b]?) Q→o'.wp P a w (fun a' w'=>Next' w0 M0 a k r a' w'∧∀b,b<w.heap.size→b∉blks L ks→w'.heap[b]? =w.heap[b]?) Q:=
  fun h=>Oper.wp_mono (fun a' w' h=>⟨h.1,fun b hb _=>h.2 b hb⟩) h
 obtain⟨dst,op,type,pos,after,guard⟩:=o
 cases op<;>simp only[quiet,Bool.true_eq_false]at hq<;>simp only[foot]at hf<;>try (cases hf;done)
 case alloc T=>exact weak (wp_and h0 (value_frame (Keeps.alloc T)))
 case box T x=>exact weak (wp_and h0 (value_frame (Keeps.box T _)))
 case buildSlice T len ps=>exact weak (wp_and h0 (value_frame (Keeps.buildSlice T len _)))
 case makeSlice T l c=>exact weak (wp_and h0 (value_frame (Keeps.makeSlice T _ _)))
 case store T x y=>
  simp only[stepK]at h
  obtain⟨vx,hvx,h1,hf⟩:=rdK_two R h hf
  have fin:∀(ad:Addr) (k0:Key) (hd:Hdr) (cs:Array Value) (e:TypeId) (fr:Nat×Nat),a.eval x=.pointer (some ad)→w.heap[ad.block]? =some (.cells cs e fr)→L.k k0=some hd→hd.block=ad.block→ks=[k0]→
    Oper.wp P ⟨dst,.store T x y,type,pos,after,guard⟩ a w (fun a' w'=>Next' w0 M0 a k r a' w'∧∀b,b<w.heap.size→b∉blks L ks→w'.heap[b]? =w.heap[b]?) Q:=by
   intro ad k0 hd cs e fr he hc hk hb hks
   refine wp_and h0 fun n w' hr=>?_
   simp only[execOp,he]at hr
   rw[Sem.run_bind]at hr
   cases hx:(Instr.storeAt T (.pointer (some ad)) (a.eval y)).run P w with
   |halt _ _=>rw[hx]at hr;simp[Result.andThen]at hr
   |ok u w2=>
    rw[hx]at hr
    simp only[Result.andThen,Sem.run_pure]at hr
    cases hr
    refine⟨.inr rfl,fun b hb1 hn=>(Keeps.storeAt T ad (a.eval y) w ⟨cs,e,fr,hc⟩ _ _ hx).2 b hb1 fun e=>hn ?_⟩
    rw[hks]
    exact mem_blks.2 ⟨k0,.head _,hd,hk,hb.trans e.symm⟩
  split at hf
  ·rename_i i off
   split at hf
   ·rename_i hb
    simp only[Bool.and_eq_true,Nat.blt_eq]at hb
    obtain⟨⟨agg,cells⟩,hfi⟩:=Option.isSome_iff_exists.1 hb.1
    obtain⟨_,hd,cs,e,hk,hc,_⟩:=R.rows _ _ _ hfi hb.2
    simp only[RW]at hvx
    obtain⟨hd',hk',e'⟩:=hvx
    rw[hk]at hk';cases hk'
    exact fin ⟨hd.block,off,none⟩ _ hd cs e _ e' hc hk rfl (by simpa using hf.symm)
   ·cases hf
  ·rename_i i o e off
   split at hf
   ·rename_i t sh xs hcell
    obtain⟨hltm,hf⟩:=blt_some hf
    simp only[RW]at hvx
    obtain⟨hd,hk,_,e'⟩:=hvx
    obtain⟨u0,_,hr⟩:=R.val _ _ _ hcell
    obtain⟨_,h2⟩:=ROwn.sl (lt_ms hltm) hr
    rw[hk]at h2
    obtain⟨_,_,_,cs,ety,_,hc,_⟩:=h2
    exact fin ⟨hd.block,_,none⟩ _ hd cs ety _ e' hc hk rfl (by simpa using hf.symm)
   ·cases hf
  ·cases hf
 case makeInterface T x=>exact weak (wp_and h0 (value_frame (Keeps.still (Still.makeInterface T _))))
 case call c=>
  obtain⟨callee,args,argTypes⟩:=c
  cases callee with
  |invoke recv name=>simp at hf
  |builtin b=>
   cases b<;>simp only[Bool.true_eq_false]at hq<;>simp only at hf<;>try (cases hf;done)
   simp only[stepK]at h
   split at h
   ·rename_i x y hxy
    split at h
    ·rename_i T U hT
     split at h
     ·rename_i hTU
      rw[beq_true]at hTU
      subst hTU
      rw[hxy]at hf
      simp only at hf
      obtain⟨vx,hvx,h1,hf⟩:=rdK_two R h hf
      obtain⟨vy,hvy,h2⟩:=rdK_ok R rfl h1
      obtain⟨t,u,s',L',w',hd,R',hk,hrun,hfr⟩:=appendK_ok (ty:=type) R hvx hvy h2
      subst hd
      have e1:args= #[x,y]:=by apply Array.ext';simpa using hxy
      have e2:argTypes= #[T,T]:=by apply Array.ext';simpa using hT
      subst e1;subst e2
      have hrun':(execOp a.eval ⟨some t,.call ⟨.builtin .append, #[x,y], #[T,T]⟩,type,pos,after,guard⟩).run P w=.ok (.value u) w':=by
       simp only[execOp,resolve,invoke,builtin,Sem.run_bind,Sem.run_pure,Result.andThen]
       have hl:Array.map a.eval #[x,y]= #[a.eval x,a.eval y]:=by simp
       rw[hl,hrun]
      unfold Oper.wp
      rw[hrun',Oper.upon_value]
      refine⟨⟨s',L',by rw[put_tmps];exact R',put_defers a (some t) u,hk⟩,fun b hb hn=>hfr b hb fun i o hd hp hl e=>hn ?_⟩
      have hks:ks=[.pl i o]:=by
       cases vx<;>simp only[placeOf]at hp<;>try (cases hp;done)
       ·cases hp;simpa using hf.symm
       ·cases hp;simpa using hf.symm
      subst hks
      exact mem_blks.2 ⟨_,.head _,hd,hl,e.symm⟩
     ·rename_i hTU
      rw[hxy]at hf
      simp only at hf
      obtain⟨vx,hvx,h1,hf⟩:=rdK_two R h hf
      rw[hT]at hf
      obtain⟨vy,hvy,h2⟩:=rdK_ok R rfl h1
      unfold appendMakeK at h2
      split at h2
      ·split at h2
       ·split at h2
        ·simp only[hTU]at hf
         cases hf
        ·cases h2
       ·cases h2
      ·cases h2
    ·cases h
   ·cases h
  |value f=>
   simp only[stepK]at h
   obtain⟨vf,hvf,h1,hf1⟩:=rdK_two R h hf
   obtain⟨vs,hvs,h2,hf2⟩:=rdsK_two R h1 hf1
   clear h hf h1 hf1 h0
   have fin:∀(g:FuncId) (fs caps:List V) (ufs us:List Value) (Ts:List TypeId),a.eval f=.func (.func g) ufs.toArray us.toArray→RWL L (hp w) (Fz w0 M0 L w) fs ufs→RWL L (hp w) (Fz w0 M0 L w) caps us→callK P E s dst g (fs++vs++caps) Ts k=some r→
     handK P (argEs (E.io g) 0 (fs++vs++caps) Ts) s (fun _ _ ks _=>some ks)=some ks→
     Oper.wp P ⟨dst,.call ⟨.value f,args,argTypes⟩,type,pos,after,guard⟩ a w (fun a' w'=>Next' w0 M0 a k r a' w'∧∀b,b<w.heap.size→b∉blks L ks→w'.heap[b]? =w.heap[b]?) Q:=by
    intro g fs caps ufs us Ts he hfs hcaps hcall hks
    obtain⟨u0,tvs0,ks0,s10,hh,hr⟩:=callK_frame hE R (RWL.append (RWL.append hfs hvs) hcaps) hcall
    obtain⟨u1,tvs1,ks1,s11,hh',e⟩:=handK_at hks
    rw[hh]at hh'
    simp only[Option.some.injEq,Prod.mk.injEq]at hh' e
    obtain⟨_,_,hks0,_⟩:=hh'
    have hks':ks0=ks:=hks0.trans e
    subst hks'
    have hex:(execOp a.eval ⟨dst,.call ⟨.value f,args,argTypes⟩,type,pos,after,guard⟩).run P w=(callFunc g (ufs++args.toList.map a.eval++us).toArray).run P w:=by
     simp only[execOp,resolve,Deferred.ofValue,he,invoke,Sem.run_bind,Sem.run_pure,Result.andThen]
     congr 2
     apply Array.ext'
     simp
    unfold Oper.wp
    rw[hex]
    unfold Runs at hr
    generalize (callFunc g (ufs++args.toList.map a.eval++us).toArray).run P w=res at hr
    split at hr
    ·rw[Oper.upon_enter]
     refine Calls.mono hr fun e w'=>?_
     rintro⟨⟨v,L',s',rfl,R',hk⟩,hfr⟩
     exact⟨⟨s',L',by rw[put_tmps];exact R',put_defers a dst v,hk⟩,hfr⟩
    ·obtain⟨⟨v,L',s',e,R',hk⟩,hfr⟩:=hr
     cases e
     rw[Oper.upon_value]
     exact⟨⟨s',L',by rw[put_tmps];exact R',put_defers a dst _,hk⟩,hfr⟩
    ·exact hr.elim
   unfold footCall at hf2
   split at h2
   ·rename_i g caps
    simp only[RW]at hvf
    obtain⟨us,e,hr⟩:=hvf
    exact fin g [] caps [] us _ e (by simp only[RWL]) hr h2 hf2
   ·rename_i t sh g caps
    simp only[RW,RA]at hvf
    obtain⟨_,us,e,hr⟩:=hvf
    refine fin g [] _ [] us _ e (by simp only[RWL]) (RWL.mk (by simp[RL.length hr]) fun i x u hx hu=>?_) h2 hf2
    simp only[List.getElem?_map,Option.map_eq_some_iff]at hx
    obtain⟨y,hy,rfl⟩:=hx
    obtain⟨u',hu',hra⟩:=RL.get hr hy
    rw[hu]at hu';cases hu'
    simp only[RW]
    exact⟨trivial,hra⟩
   ·rename_i g fs
    simp only[RW]at hvf
    obtain⟨us,e,hr⟩:=hvf
    exact fin g fs [] us [] _ e hr (by simp only[RWL]) (by rw[List.append_nil];exact h2) (by rw[List.append_nil];exact hf2)
   ·cases h2
end
end Go.Cm
namespace Go.Cm
section
variable {w0:World} {M0:Io} {L L':Lay} {s s':S} {tmps tmps':List Value} {w w' w1:World} {β:Type} {P:Program} {a:Act} {Q:Exit→Act→World→Prop} {ops:Array Oper} {C:List Nat} {E:Env}
theorem guardG_ok {o:Oper} (R:Rel w0 M0 L s a.tmps.toList w) {F:S→(S→Option β)→Option β} {K:S→Option β} {r:β}
  (h:(match o.guard with
   |none=>F s K
   |some (j,want)=>match dstOf ops j with
    |some t=>match s.tm.get t with
     |some (.d _ _ (.bool b))=>match want with
      |true=>if b=true then F (s.put (some t) (.d false 0 (.bool true))) K
        else K ((s.put (some t) (.d false 0 (.bool false))).put o.dst (.tup []))
      |false=>if b=true then K ((s.put (some t) (.d false 0 (.bool true))).put o.dst (.tup []))
        else F (s.put (some t) (.d false 0 (.bool false))) K
     |some (.tup [])=>K (s.put o.dst (.tup []))
     |_=>none
    |none=>none)=some r):
  (Region.wanted o (yielded ops a.tmps)=true∧∃s1 L1,Rel w0 M0 L1 s1 a.tmps.toList w∧F s1 K=some r)∨
  (Region.wanted o (yielded ops a.tmps)=false∧∃s1 L1,Rel w0 M0 L1 s1 (putT a.tmps.toList o.dst undef) w∧K s1=some r):=by
 split at h
 ·rename_i hg
  exact .inl ⟨by simp[Region.wanted,hg],s,L,R,h⟩
 ·rename_i j want hg
  split at h
  ·rename_i t ht
   have hy:∀v,s.tm.get t=some v→∃u,a.tmps.toList[t]? =some u∧RV L (hp w) (Fz w0 M0 L w) 0 t v u∧yielded ops a.tmps j=(match u with|.bool b=>some b|_=>none):=by
    intro v hv
    obtain⟨u,hu,hr⟩:=R.val 0 t v hv
    have hu':a.tmps.toList[t]? =some u:=hu
    refine⟨u,hu',hr,?_⟩
    have h1:(ops[j]?).bind (·.dst)=some t:=ht
    have h2:a.tmps[t]? =some u:=by simpa using hu'
    simp only[yielded,h1,Option.bind_some,h2]
    cases u<;>rfl
   have skip:∀{s1:S},Rel w0 M0 L s1 a.tmps.toList w→Rel w0 M0 L (s1.put o.dst (.tup [])) (putT a.tmps.toList o.dst undef) w:=fun R1=>R1.putD undef_rw
   split at h
   ·rename_i t0 sh0 b hv
    obtain⟨u,hu,hr,hyl⟩:=hy _ hv
    simp only[RV,RW,RA]at hr
    obtain⟨_,rfl⟩:=hr
    have hrw:∀c,b=c→RW L (hp w) (Fz w0 M0 L w) (.d false 0 (.bool c)) (.bool b):=fun c e=>by subst e;simp only[RW,RA];exact⟨rfl,trivial⟩
    have hw:Region.wanted o (yielded ops a.tmps)=(b==want):=by
     simp only[Region.wanted,hg,hyl]
     cases b<;>cases want<;>rfl
    split at h
    ·split at h
     ·rename_i hb
      exact .inl ⟨by rw[hw,hb];rfl,_,L,R.retell hu (hrw true hb),h⟩
     ·rename_i hb
      have hb':b=false:=by simpa using hb
      exact .inr ⟨by rw[hw,hb'];rfl,_,L,skip (R.retell hu (hrw false hb')),h⟩
    ·split at h
     ·rename_i hb
      exact .inr ⟨by rw[hw,hb];rfl,_,L,skip (R.retell hu (hrw true hb)),h⟩
     ·rename_i hb
      have hb':b=false:=by simpa using hb
      exact .inl ⟨by rw[hw,hb'];rfl,_,L,R.retell hu (hrw false hb'),h⟩
   ·rename_i hv
    obtain⟨u,hu,hr,hyl⟩:=hy _ hv
    simp only[RV,RW]at hr
    obtain⟨us,rfl,hus⟩:=hr
    have hw:Region.wanted o (yielded ops a.tmps)=false:=by
     simp only[Region.wanted,hg,hyl];rfl
    exact .inr ⟨hw,_,L,skip R,h⟩
   ·cases h
  ·cases h
theorem opsG_cons {ms past:List Nat} {y:Nat} {o:Oper} {rest:List Nat} {s:S} {k:S→Option β} (ho:ops[y]? =some o):opsG P E ops ms past (y::rest) s k=
  (match o.guard with
   |none=>stepG P E ops ms past y o s (fun s=>opsG P E ops ms (past++[y]) rest s k)
   |some (j,want)=>match dstOf ops j with
    |some t=>match s.tm.get t with
     |some (.d _ _ (.bool b))=>match want with
      |true=>if b=true then stepG P E ops ms past y o (s.put (some t) (.d false 0 (.bool true))) (fun s=>opsG P E ops ms (past++[y]) rest s k)
        else(fun s=>opsG P E ops ms (past++[y]) rest s k) ((s.put (some t) (.d false 0 (.bool false))).put o.dst (.tup []))
      |false=>if b=true then(fun s=>opsG P E ops ms (past++[y]) rest s k) ((s.put (some t) (.d false 0 (.bool true))).put o.dst (.tup []))
        else stepG P E ops ms past y o (s.put (some t) (.d false 0 (.bool false))) (fun s=>opsG P E ops ms (past++[y]) rest s k)
     |some (.tup [])=>(fun s=>opsG P E ops ms (past++[y]) rest s k) (s.put o.dst (.tup []))
     |_=>none
    |none=>none):=by
 rw[opsG]
 simp only[ho]
 rfl
theorem quietRunG (G:Canon ops C) {ms:List Nat} {k:S→Option β} {r:β} {rest:List Nat}:∀(blk A:List Nat) (a:Act) (L:Lay) (s:S),C=A++(blk++rest)→(∀i o,i∈blk→ops[i]? =some o→quiet o.op=true)→
  Rel w0 M0 L s a.tmps.toList w→opsG P E ops ms A (blk++rest) s k=some r→
  ∃a' s' L',Rel w0 M0 L' s' a'.tmps.toList w∧opsG P E ops ms (A++blk) rest s' k=some r∧a'.defers=a.defers∧a'.tmps.size=a.tmps.size∧
   (∀t,(∀i,i∈blk→dstOf ops i≠some t)→a'.tmps[t]? =a.tmps[t]?)∧
   ∀i o,i∈blk→ops[i]? =some o→∃u,Fact P ops w o a' u∧∀t,dstOf ops i=some t→t<a'.tmps.size→a'.tmps[t]? =some u
 |[],A,a,L,s,hC,hq,R,h=>⟨a,s,L,R,by rw[List.append_nil];exact h,rfl,rfl,fun _ _=>rfl,fun i o hm=>by cases hm⟩
 |i::blk,A,a,L,s,hC,hq,R,h=>by
  have hiN:i<ops.size:=(G.all i).1 (by rw[hC];simp)
  obtain⟨o,ho⟩:∃o,ops[i]? =some o:=⟨_,Array.getElem?_eq_getElem hiN⟩
  have hd:dstOf ops i=o.dst:=by simp[dstOf,ho]
  have hqi:=hq i o (.head _) ho
  rw[List.cons_append,opsG_cons ho]at h
  have main:∃u s1 L1,Fact P ops w o a u∧Rel w0 M0 L1 s1 (putT a.tmps.toList o.dst u) w∧opsG P E ops ms (A++[i]) (blk++rest) s1 k=some r:=by
   rcases guardG_ok (F:=stepG P E ops ms A i o) R h with⟨hw,s1,L1,R1,hs⟩|⟨hw,s1,L1,R1,hs⟩
   ·unfold stepG at hs
    rw[hqi]at hs
    obtain⟨u,s2,L2,hrun,R2,hk⟩:=quiet_ok hqi R1 hs
    exact⟨u,s2,L2,.inl ⟨hw,hrun⟩,R2,hk⟩
   ·exact⟨undef,s1,L1,.inr ⟨hw,rfl⟩,R1,hs⟩
  obtain⟨u,s1,L1,hf,R1,hk⟩:=main
  rw[←put_tmps, ←hd]at R1
  obtain⟨a',s',L',R',hk',h1,h2,h3,h4⟩:=quietRunG G blk (A++[i]) (a.put (dstOf ops i) u) L1 s1 (by rw[hC];simp) (fun j o' hj=>hq j o' (.tail _ hj)) R1 hk
  have hnd:=G.nodup
  rw[hC]at hnd
  have hib:i∉blk:=fun h=>(List.nodup_cons.1 (List.nodup_append.1 hnd).2.1).1 (List.mem_append_left _ h)
  have hbN:∀j∈blk,j<ops.size:=fun j hj=>(G.all j).1 (by rw[hC];exact List.mem_append_right _ (.tail _ (List.mem_append_left _ hj)))
  have hot:∀t,(∀j,j∈i::blk→dstOf ops j≠some t)→a'.tmps[t]? =a.tmps[t]? :=fun t ht=>by
   rw[h3 t fun j hj=>ht j (.tail _ hj),put_get_ne (ht i (.head _))]
  refine⟨a',s',L',R',by rw[List.append_assoc]at hk';exact hk',h1.trans (put_defers _ _ _),h2.trans (put_size _ _ _),hot,fun j o' hj ho'=>?_⟩
  rcases List.mem_cons.1 hj with rfl|hj
  ·rw[ho]at ho';cases ho'
   refine⟨u,Fact.congr (quiet_sel (hq j o (.head _) ho)) (fun t ht=>hot t fun j' hj' hdj=>?_) hf,fun t ht hlt=>?_⟩
   ·have hjN:j'<ops.size:=by
     rcases List.mem_cons.1 hj' with rfl|h
     ·exact hiN
     ·exact hbN j' h
    have hA:=anc_ahead G (G.look j' j o t hjN ho hdj ht) A (blk++rest) hC
    exact(List.nodup_append.1 hnd).2.2 j' hA j' (by
     rcases List.mem_cons.1 hj' with rfl|h
     ·exact .head _
     ·exact .tail _ (List.mem_append_left _ h)) rfl
   ·rw[h3 t fun j' hj' e=>hib (by rw[G.dst j j' t hiN (hbN j' hj') ht e];exact hj'),ht]
    rw[put_get_eq (by rw[h2,put_size]at hlt;exact hlt)]
  ·exact h4 j o' hj ho'
theorem frontQuiet (ops:Array Oper):∀(l:List Nat),(∀i∈l,i<ops.size)→∃blk rest,l=blk++rest∧(∀i o,i∈blk→ops[i]? =some o→quiet o.op=true)∧∀y r o,rest=y::r→ops[y]? =some o→quiet o.op=false
 |[],_=>⟨[],[],rfl,by simp,by simp⟩
 |i::l,h=>by
  obtain⟨o,ho⟩:∃o,ops[i]? =some o:=⟨_,Array.getElem?_eq_getElem (h i (.head _))⟩
  cases hq:quiet o.op with
  |false=>
   refine⟨[],i::l,rfl,by simp,fun y r o' e ho'=>?_⟩
   injection e with e1 e2
   subst e1
   rw[ho]at ho';cases ho';exact hq
  |true=>
   obtain⟨blk,rest,rfl,h1,h2⟩:=frontQuiet ops l fun j hj=>h j (.tail _ hj)
   refine⟨i::blk,rest,rfl,fun j o' hj ho'=>?_,h2⟩
   rcases List.mem_cons.1 hj with rfl|hj
   ·rw[ho]at ho';cases ho';exact hq
   ·exact h1 j o' hj ho'
structure Ghost (w0:World) (M0:Io) (P:Program) (E:Env) (ops:Array Oper) (k:S→Option β) (r:β) (d0:List Deferred) (C1 C2:List Nat) (w:World) (ag:Act):Prop where
 rel:∃L s,Rel w0 M0 L s ag.tmps.toList w∧opsG P E ops (masksOf ops) C1 C2 s k=some r
 defers:ag.defers=d0
 loud:∀y rest o,C2=y::rest→ops[y]? =some o→quiet o.op=false
 fact:∀y rest i o,C2=y::rest→i∈C1→ops[i]? =some o→quiet o.op=true→¬Anc ops y i→∃u,Fact P ops w o ag u∧∀t,dstOf ops i=some t→t<ag.tmps.size→ag.tmps[t]? =some u
theorem Anc.trans {i j p:Nat} (h:Anc ops j p) (h2:Anc ops p i):Anc ops j i:=by
 induction h with
 |one ho hb=>exact .more ho hb h2
 |more ho hb _ ih=>exact .more ho hb (ih h2)
theorem ghost_behind (G:Canon ops C) {k:S→Option β} {r:β} {d0:List Deferred} {C1 rest:List Nat} {y:Nat} (hC:C=C1++y::rest) {ag ag1:Act} {o:Oper} (ho:ops[y]? =some o) (hq:quiet o.op=false)
  (g:Ghost w0 M0 P E ops k r d0 C1 (y::rest) w ag) {u:Value} (e1:ag1=ag.put o.dst u) {L1:Lay} {s1:S} (R1:Rel w0 M0 L1 s1 ag1.tmps.toList w1) (h1:opsG P E ops (masksOf ops) (C1++[y]) rest s1 k=some r)
  (hst:∀i o,i∈C1→ops[i]? =some o→quiet o.op=true→¬Anc ops y i→Region.wanted o (yielded ops ag.tmps)=true→Like P w w1 (execOp ag.eval o)):
  Behind P ops (Ghost w0 M0 P E ops k r d0) C1 y rest ag ag1 w1:=by
 have hd:dstOf ops y=o.dst:=by simp[dstOf,ho]
 have hnd:=G.nodup
 rw[hC]at hnd
 have hnd2:=List.nodup_append.1 hnd
 have hyN:y<ops.size:=(G.all y).1 (by rw[hC];simp)
 obtain⟨blk,rest',e,hb1,hb2⟩:=frontQuiet ops rest fun i hi=>(G.all i).1 (by rw[hC];exact List.mem_append_right _ (.tail _ hi))
 subst e
 have hC':C=(C1++[y])++(blk++rest'):=by rw[hC];simp
 obtain⟨a',s',L',R',hk',d1,d2,d3,d4⟩:=quietRunG G blk (C1++[y]) ag1 L1 s1 hC' hb1 R1 h1
 have hN1:∀i∈C1,i<ops.size:=fun i hi=>(G.all i).1 (by rw[hC];exact List.mem_append_left _ hi)
 have hbN:∀j∈blk,j<ops.size:=fun j hj=>(G.all j).1 (by rw[hC];exact List.mem_append_right _ (.tail _ (List.mem_append_left _ hj)))
 have notin:∀i j,i∈C1→(j=y∨j∈blk)→i≠j:=fun i j hi hj=>by
  refine hnd2.2.2 i hi j ?_
  rcases hj with rfl|hj
  ·exact .head _
  ·exact .tail _ (List.mem_append_left _ hj)
 have hsize:a'.tmps.size=ag.tmps.size:=by rw[d2,e1,put_size]
 have old:∀t,(∀j,(j=y∨j∈blk)→dstOf ops j≠some t)→a'.tmps[t]? =ag.tmps[t]? :=fun t ht=>by
  rw[d3 t fun j hj=>ht j (.inr hj),e1,put_get_ne]
  rw[←hd];exact ht y (.inl rfl)
 have jN:∀j,(j=y∨j∈blk)→j<ops.size:=fun j hj=>by
  rcases hj with rfl|hj
  ·exact hyN
  ·exact hbN j hj
 have facts:∀i oi,i∈C1→ops[i]? =some oi→quiet oi.op=true→¬Anc ops y i→∃u,Fact P ops w1 oi a' u∧∀t,dstOf ops i=some t→t<a'.tmps.size→a'.tmps[t]? =some u:=by
  intro i oi hi hoi hqi hna
  obtain⟨u,hf,hu⟩:=g.fact y (blk++rest') i oi rfl hi hoi hqi hna
  refine⟨u,Fact.congr (quiet_sel hqi) (fun t ht=>old t fun j hj hdj=>?_) (hf.stays (hst i oi hi hoi hqi hna)),fun t ht hlt=>?_⟩
  ·have hanc:=G.look j i oi t (jN j hj) hoi hdj ht
   obtain⟨D1,D2,rfl⟩:=List.append_of_mem hi
   have:=anc_ahead G hanc D1 (D2++y::(blk++rest')) (by rw[hC];simp)
   exact notin j j (List.mem_append_left _ this) hj rfl
  ·rw[old t fun j hj hdj=>notin i j hi hj (G.dst i j t (hN1 i hi) (jN j hj) ht hdj)]
   exact hu t ht (by rw[←hsize];exact hlt)
 refine⟨by rw[e1,put_defers],blk,rest',a',rfl,hb1,?_,d3,d1,d2,?_⟩
 ·intro i oi hi hoi hqi hna
  rcases List.mem_append.1 hi with hi|hi
  ·exact facts i oi hi hoi hqi (hna hi)
  ·rcases List.mem_cons.1 hi with rfl|hi
   ·rw[ho]at hoi;cases hoi;rw[hq]at hqi;cases hqi
   ·exact d4 i oi hi hoi
 ·refine⟨⟨L',s',R',by simpa using hk'⟩,by rw[d1,e1,put_defers];exact g.defers,hb2,?_⟩
  intro y2 rest2 i oi e hi hoi hqi hna
  rcases List.mem_append.1 hi with hi|hi
  ·refine facts i oi hi hoi hqi fun hanc=>hna ?_
   subst e
   exact(G.loud C1 y (blk++y2::rest2) o hC ho hq y2 (List.mem_append_right _ (.head _))).trans hanc
  ·rcases List.mem_cons.1 hi with rfl|hi
   ·rw[ho]at hoi;cases hoi;rw[hq]at hqi;cases hqi
   ·exact d4 i oi hi hoi
theorem noSel_spec (h:noSel ops=true) {y:Nat} {o:Oper} (ho:ops[y]? =some o):∀cs b,o.op≠.select cs b:=by
 intro cs b e
 have:=List.all_eq_true.1 h o (by rw[Array.mem_toList_iff];exact Array.mem_of_getElem? ho)
 rw[e]at this;cases this
theorem regG_ok {gl:Gl} (hE:EnvAt gl P E w0 M0) {k:S→Option β} {r:β} (R:Rel w0 M0 L s a.tmps.toList w) (h:regG P E ops C s k=some r) (hQ:∀a' w',Next' w0 M0 a k r a' w'→Q .normal a' w'):
  wpAny P .any ops Q (cnt (firstN ops.size 0)) (firstN ops.size 0) a w:=by
 unfold regG at h
 split at h
 ·rename_i hok
  simp only[Bool.and_eq_true]at hok
  have G:=canonOk_spec hok.1
  obtain⟨blk,rest,hC,hb1,hb2⟩:=frontQuiet ops C fun i hi=>(G.all i).1 hi
  rw[hC]at h
  obtain⟨a',s',L',R',hk',d1,d2,d3,d4⟩:=quietRunG G blk [] a L s hC hb1 R h
  have hbN:∀j∈blk,j<ops.size:=fun j hj=>(G.all j).1 (by rw[hC];exact List.mem_append_left _ hj)
  refine ghost_any (Gs:=Ghost w0 M0 P E ops k r a.defers) G ?_ ?_ _ _ a a' w blk rest hC ?_ ?_ rfl
  ·intro w1 ag g
   obtain⟨L1,s1,R1,h1⟩:=g.rel
   exact hQ _ _ ⟨s1,L1,R1,g.defers,by simpa[opsG]using h1⟩
  ·intro C1 y rest w1 ag o hC g ho
   have hq:=g.loud y rest o rfl ho
   obtain⟨L1,s1,R1,h1⟩:=g.rel
   rw[opsG_cons ho]at h1
   have hrefl:∀i oi,i∈C1→ops[i]? =some oi→quiet oi.op=true→¬Anc ops y i→Region.wanted oi (yielded ops ag.tmps)=true→Like P w1 w1 (execOp ag.eval oi):=by
    intro i oi hi hoi hqi hna hw
    obtain⟨u,hf,_⟩:=g.fact y rest i oi rfl hi hoi hqi hna
    intro u' w' e
    rcases hf with⟨_,hr⟩|⟨hw',_⟩
    ·rw[hr]at e;cases e;exact⟨rfl,hr⟩
    ·rw[hw]at hw';cases hw'
   refine⟨hq,noSel_spec hok.2 ho,fun hw=>?_,fun hw=>?_⟩
   ·rcases guardG_ok (F:=stepG P E ops (masksOf ops) C1 y o) R1 h1 with⟨_,s2,L2,R2,hs⟩|⟨hw',_⟩
    ·unfold stepG at hs
     rw[hq]at hs
     simp only at hs
     split at hs
     ·rename_i ks hfoot
      split at hs
      ·rename_i hpend
       have hl:=loud_frame hE (Q:=fun _ _ _=>False) hq R2 hfoot hs
       refine wp_move (a:=ag) (ag:=ag) rfl id hl (fun v w2 hv=>?_) (fun a1 w2 h=>?_)
       ·obtain⟨⟨s3,L3,R3,_,hk3⟩,hfr⟩:=hv
        refine ghost_behind G hC ho hq g rfl R3 hk3 fun i oi hi hoi hqi hna hw=>?_
        have hp:=List.all_eq_true.1 hpend i hi
        rw[hoi]at hp
        simp only[Bool.or_eq_true,Bool.not_eq_true',hqi,Bool.true_eq_false,false_or]at hp
        rcases hp with hp|hp|hp
        ·exact(hna (ancB_spec hp)).elim
        ·rw[skipB_ok R2 hp]at hw;cases hw
        ·exact stable_ok R2 hqi hp hfr
       ·obtain⟨⟨s3,L3,R3,hd3,_⟩,_⟩:=h
        exact hd3
      ·cases hs
     ·cases hs
    ·rw[hw]at hw';cases hw'
   ·rcases guardG_ok (F:=stepG P E ops (masksOf ops) C1 y o) R1 h1 with⟨hw',_⟩|⟨_,s2,L2,R2,hs⟩
    ·rw[hw]at hw';cases hw'
    ·rw[←put_tmps]at R2
     exact ghost_behind G hC ho hq g rfl R2 hs hrefl
  ·refine⟨by simp[firstN_size],?_,?_,?_,?_,?_,d1.symm,d2.symm⟩
   ·intro j o ho hj p hp
    have hjN:=(Array.getElem?_eq_some_iff.1 ho).1
    rw[firstN_get hjN]at hj;simp at hj
   ·intro i hi _
    rw[firstN_get hi];simp
   ·intro i o hi ho hq'
    rw[hb1 i o hi ho]at hq';cases hq'
   ·intro i o hi ho _
    exact d4 i o hi ho
   ·intro t ht
    refine(d3 t fun i hi hdi=>?_).symm
    have:=ht i hi hdi
    rw[firstN_get (hbN i hi)]at this;simp at this
  ·refine⟨⟨L',s',R',by simpa using hk'⟩,d1,hb2,?_⟩
   intro y rest' i o e hi ho hq' _
   exact d4 i o hi ho
 ·cases h
end
end Go.Cm
namespace Go.Cm
section
variable {w0:World} {M0:Io} {L L':Lay} {s s':S} {w w':World} {β:Type} {P:Program} {a:Act} {Q:Exit→Act→World→Prop} {md:Region.Mode} {ops:Array Oper} {E:Env}
inductive VO (md:Region.Mode) (ops:Array Oper):Array Bool→List Nat→Prop
 |nil {l:Array Bool}:Region.ready md ops l=[]→VO md ops l []
 |cons {l:Array Bool} {x:Nat} {r:List Nat}:x∈Region.ready md ops l→VO md ops (l.setIfInBounds x true) r→VO md ops l (x::r)
theorem vo_follow {l:Array Bool} {r:List Nat} (h:VO md ops l r):∀(n:Nat) (a:Act) (w:World),wpAny P md ops Q n l a w→wpOps P ops Q r a w:=by
 induction h with
 |nil hr=>
  intro n a w h
  cases n with
  |zero=>simpa[wpOps]using h.2
  |succ n=>simpa[wpOps]using h.1 hr
 |cons hx _ ih=>
  intro n a w h
  cases n with
  |zero=>rw[h.1]at hx;cases hx
  |succ n=>
   rw[wpOps_cons]
   exact wpOp_mono (fun a w=>ih n a w) (h.2 _ hx)
theorem vo_lin:∀(n t:Nat) (l:Array Bool),l.size=ops.size→cnt l≤n→VO md ops l (Region.linearise.go md ops n t l [])
 |0,t,l,hs,hc=>by
  simp only[Region.linearise.go,List.reverse_nil]
  refine .nil ?_
  cases hr:Region.ready md ops l with
  |nil=>rfl
  |cons x xs=>
   have hx:x∈Region.ready md ops l:=by rw[hr];exact .head _
   obtain⟨h1,o,ho,_⟩:=mem_ready.1 hx
   have hlt:x<l.size:=by rw[hs];exact(Array.getElem?_eq_some_iff.1 ho).1
   have:l[x]? =some false:=by
    rw[Array.getD_eq_getD_getElem?]at h1
    rw[Array.getElem?_eq_getElem hlt]at h1 ⊢
    simpa using h1
   have:=cnt_set this
   omega
 |n+1,t,l,hs,hc=>by
  have e:Region.linearise.go md ops (n+1) t l []=match(Region.ready md ops l)[t % (Region.ready md ops l).length]? with
   |some i=>Region.linearise.go md ops n (t / (Region.ready md ops l).length) (l.setIfInBounds i true) [i]
   |none=>[].reverse:=rfl
  rw[e]
  cases hi:(Region.ready md ops l)[t % (Region.ready md ops l).length]? with
  |none=>
   refine .nil ?_
   cases hr:Region.ready md ops l with
   |nil=>rfl
   |cons x xs=>
    rw[hr]at hi
    have hlt:t % (x::xs).length<(x::xs).length:=Nat.mod_lt _ (by simp)
    rw[List.getElem?_eq_getElem hlt]at hi
    cases hi
  |some i=>
   simp only
   rw[linearise_go_acc]
   have hx:i∈Region.ready md ops l:=List.mem_of_getElem? hi
   obtain⟨h1,o,ho,_⟩:=mem_ready.1 hx
   have hlt:i<l.size:=by rw[hs];exact(Array.getElem?_eq_some_iff.1 ho).1
   have:l[i]? =some false:=by
    rw[Array.getD_eq_getD_getElem?]at h1
    rw[Array.getElem?_eq_getElem hlt]at h1 ⊢
    simpa using h1
   have:=cnt_set this
   exact .cons hx (vo_lin n _ _ (by simpa using hs) (by omega))
def addF (f:Nat→List Nat) (ops:Array Oper):Array Oper:=ops.mapIdx fun j o=>{o with after:=⟨(f j).map (fun i=>⟨i,.data⟩)++o.after.toList⟩ }
variable {f:Nat→List Nat}
def more (f:Nat→List Nat) (j:Nat) (o:Oper):Oper:={o with after:=⟨(f j).map (fun i=>⟨i,.data⟩)++o.after.toList⟩ }
theorem addF_get (x:Nat):(addF f ops)[x]? =(ops[x]?).map (more f x):=by
 unfold addF more
 rw[Array.getElem?_mapIdx]
theorem addF_size:(addF f ops).size=ops.size:=by unfold addF;simp
theorem addF_dst (x:Nat):dstOf (addF f ops) x=dstOf ops x:=by
 unfold dstOf
 rw[addF_get]
 cases ops[x]? <;>rfl
theorem addF_yield (t:Array Value):yielded (addF f ops) t=yielded ops t:=by
 funext x
 unfold yielded
 rw[show((addF f ops)[x]?).bind (·.dst)=dstOf (addF f ops) x from rfl,addF_dst]
 rfl
theorem wpOp_addF {x:Nat} {K:Act→World→Prop} (h:wpOp P (addF f ops) Q x K a w):wpOp P ops Q x K a w:=by
 unfold wpOp at*
 rw[addF_get,addF_yield]at h
 cases ho:ops[x]? with
 |none=>rw[ho]at h;exact h
 |some o=>rw[ho]at h;exact h
theorem wpOps_addF:∀(r:List Nat) (a:Act) (w:World),wpOps P (addF f ops) Q r a w→wpOps P ops Q r a w
 |[],a,w,h=>h
 |x::r,a,w,h=>by
  rw[wpOps_cons]at h ⊢
  exact wpOp_mono (fun a w=>wpOps_addF r a w) (wpOp_addF h)
theorem more_bnd {j p:Nat} {o:Oper}:Bnd (more f j o) p↔p∈f j∨Bnd o p:=by
 constructor
 ·rintro⟨e,he,hb,rfl⟩
  simp only[more,Array.mem_def,List.mem_append,List.mem_map]at he
  rcases he with⟨i,hi,rfl⟩|he
  ·exact .inl hi
  ·exact .inr ⟨e,Array.mem_def.2 he,hb,rfl⟩
 ·rintro(h|⟨e,he,hb,rfl⟩)
  ·exact⟨⟨p,.data⟩,by simp only[more,Array.mem_def,List.mem_append,List.mem_map];exact .inl ⟨p,h,rfl⟩,rfl,rfl⟩
  ·exact⟨e,by simp only[more,Array.mem_def,List.mem_append];exact .inr (Array.mem_def.1 he),hb,rfl⟩
theorem anc_addF {j i:Nat} (h:Anc ops j i):Anc (addF f ops) j i:=by
 induction h with
 |one ho hb=>exact .one (by rw[addF_get,ho];rfl) (more_bnd.2 (.inr hb))
 |more ho hb _ ih=>exact .more (by rw[addF_get,ho];rfl) (more_bnd.2 (.inr hb)) ih
theorem ready_iff {x:Nat} {l:Array Bool}:x∈Region.ready .any ops l↔l.getD x true=false∧∃o,ops[x]? =some o∧∀p,Bnd o p→l.getD p false=true:=by
 rw[mem_ready]
 constructor
 ·rintro⟨h1,o,ho,h2⟩
  refine⟨?_,o,ho,?_⟩
  ·exact h1
  ·rintro p ⟨e,he,hb,rfl⟩;exact h2 e he hb
 ·rintro⟨h1,o,ho,h2⟩
  exact⟨h1,o,ho,fun e he hb=>h2 e.on ⟨e,he,hb,rfl⟩⟩
theorem meet_some {γ:Type} {x y:Option γ} {r:γ} (h:Go.Sc.meet x y=some r):x=some r∧y=some r:=by
 unfold Go.Sc.meet at h
 split at h
 ·rename_i e;exact⟨h,e▸h⟩
 ·cases h
theorem _root_.Go.Sc.meet_self {γ:Type} (x:Option γ):Go.Sc.meet x x=x:=by unfold Go.Sc.meet;rw[if_pos rfl]
theorem getD_set' {l:Array Bool} {i x:Nat} (h:l.getD i false=true):(l.setIfInBounds x true).getD i false=true:=by
 simp only[Array.getD_eq_getD_getElem?]at h ⊢
 rw[Array.getElem?_setIfInBounds]
 split
 ·split
  ·rfl
  ·rename_i e hlt
   subst e
   rw[Array.getElem?_eq_none (by omega)]at h;simp at h
 ·exact h
theorem getD_setx {l:Array Bool} {x:Nat} (h:x<l.size):(l.setIfInBounds x true).getD x false=true:=by
 rw[Array.getD_eq_getD_getElem?,Array.getElem?_setIfInBounds,if_pos rfl,if_pos h];rfl
theorem getD_setn {l:Array Bool} {i x:Nat} {b:Bool} (h:x≠i):(l.setIfInBounds x true).getD i b=l.getD i b:=by
 rw[Array.getD_eq_getD_getElem?,Array.getElem?_setIfInBounds_ne h, ←Array.getD_eq_getD_getElem?]
theorem idxOf_ne {x j:Nat} {r:List Nat} (h:x≠j):(x::r).idxOf j=r.idxOf j+1:=by
 rw[List.idxOf_cons]
 have:(x==j)=false:=by simpa using h
 rw[this];rfl
theorem ready_lt {x:Nat} {L:Array Bool} (h:x∈Region.ready .any ops L):x<ops.size:=by
 obtain⟨_,o,ho,_⟩:=ready_iff.1 h
 exact(Array.getElem?_eq_some_iff.1 ho).1
theorem vo_addF {L:Array Bool} {l:List Nat} (h:VO .any ops L l):L.size=ops.size→(∀j∈l,∀i∈f j,L.getD i false=true∨l.idxOf i<l.idxOf j)→VO .any (addF f ops) L l:=by
 induction h with
 |@nil L hr=>
  intro hs _
  refine .nil ?_
  cases hx:Region.ready .any (addF f ops) L with
  |nil=>rfl
  |cons x xs=>
   exfalso
   have hm:x∈Region.ready .any (addF f ops) L:=by rw[hx];exact .head _
   obtain⟨h1,o',ho',h2⟩:=ready_iff.1 hm
   rw[addF_get]at ho'
   cases ho:ops[x]? with
   |none=>rw[ho]at ho';cases ho'
   |some o=>
    rw[ho]at ho'
    cases ho'
    have:x∈Region.ready .any ops L:=ready_iff.2 ⟨h1,o,ho,fun p hp=>h2 p (more_bnd.2 (.inr hp))⟩
    rw[hr]at this;cases this
 |@cons L x r hx hr ih=>
  intro hs hl
  obtain⟨h1,o,ho,h2⟩:=ready_iff.1 hx
  refine .cons (ready_iff.2 ⟨h1,more f x o,by rw[addF_get,ho];rfl,fun p hp=>?_⟩) (ih (by simpa using hs) fun j hj i hi=>?_)
  ·rcases more_bnd.1 hp with hp|hp
   ·rcases hl x (.head _) p hp with h|h
    ·exact h
    ·rw[List.idxOf_cons_self]at h;omega
   ·exact h2 p hp
  ·rcases hl j (.tail _ hj) i hi with h|h
   ·exact .inl (getD_set' h)
   ·by_cases e:x=i
    ·subst e;exact .inl (getD_setx (by rw[hs];exact ready_lt hx))
    ·by_cases e':x=j
     ·subst e';rw[List.idxOf_cons_self]at h;omega
     ·rw[idxOf_ne e,idxOf_ne e']at h
      exact .inr (by omega)
theorem vo_bnd {L:Array Bool} {l:List Nat} (h:VO .any ops L l):L.size=ops.size→∀j∈l,L.getD j true=false→∀o p,ops[j]? =some o→Bnd o p→L.getD p false=true∨l.idxOf p<l.idxOf j:=by
 induction h with
 |nil hr=>intro _ j hj;cases hj
 |@cons L x r hx hr ih=>
  intro hs j hj hf o p ho hp
  by_cases e:x=j
  ·subst e
   obtain⟨h1,o',ho',h2⟩:=ready_iff.1 hx
   rw[ho]at ho';cases ho'
   exact .inl (h2 p hp)
  ·have hj':j∈r:=by
    rcases List.mem_cons.1 hj with h|h
    ·exact(e h.symm).elim
    ·exact h
   by_cases e':x=p
   ·subst e'
    rw[List.idxOf_cons_self,idxOf_ne e]
    exact .inr (by omega)
   ·rw[idxOf_ne e,idxOf_ne e']
    rcases ih (by simpa using hs) j hj' (by rw[getD_setn e];exact hf) o p ho hp with h|h
    ·rw[getD_setn e']at h;exact .inl h
    ·exact .inr (by omega)
structure Can0 (ops:Array Oper) (C:List Nat):Prop where
 all:∀i,i∈C↔i<ops.size
 edge:∀C1 j C2 o,C=C1++j::C2→ops[j]? =some o→∀p,Bnd o p→p∈C1
theorem some_ready0 {l:Array Bool} {C:List Nat} (G:Can0 ops C) (hs:l.size=ops.size) (h:Region.ready .any ops l=[]):∀i,i<ops.size→l[i]? =some true:=by
 rcases first_false l C (fun i hi=>by rw[hs];exact(G.all i).1 hi)with h1|⟨A,j,B,hC,h2,h3⟩
 ·exact fun i hi=>h1 i ((G.all i).2 hi)
 ·have hj:j<ops.size:=(G.all j).1 (by rw[hC];simp)
  have:j∈Region.ready .any ops l:=by
   rw[mem_ready]
   refine⟨by simp[Array.getD_eq_getD_getElem?,h2],ops[j],Array.getElem?_eq_getElem hj,fun e he hb=>?_⟩
   have:=h3 e.on (G.edge A j B ops[j] hC (Array.getElem?_eq_getElem hj) e.on ⟨e,he,hb,rfl⟩)
   simp[Array.getD_eq_getD_getElem?,this]
  rw[h]at this;cases this
theorem vo_all {C:List Nat} (G:Can0 ops C) {L:Array Bool} {l:List Nat} (h:VO .any ops L l):L.size=ops.size→∀j,j<ops.size→L.getD j true=false→j∈l:=by
 induction h with
 |@nil L hr=>
  intro hs j hj hf
  have:=some_ready0 G hs hr j hj
  rw[Array.getD_eq_getD_getElem?,this]at hf;cases hf
 |@cons L x r hx hr ih=>
  intro hs j hj hf
  by_cases e:x=j
  ·subst e;exact .head _
  ·exact .tail _ (ih (by simpa using hs) j hj (by rw[getD_setn e];exact hf))
theorem mem_insN {y i:Nat}:∀{l:List Nat},i∈insN y l↔i=y∨i∈l
 |[]=>by simp[insN]
 |x::r=>by
  unfold insN
  cases Nat.blt x y with
  |true=>simp only[List.mem_cons,mem_insN (l:=r)];constructor<;>(rintro(h|h|h)<;>simp[h])
  |false=>simp only[List.mem_cons]
theorem findL_some {p:Nat→Bool}:∀{l:List Nat} {x:Nat},findL p l=some x→x∈l∧p x=true
 |[],x,h=>by simp[findL]at h
 |y::r,x,h=>by
  unfold findL at h
  cases hp:p y with
  |true=>rw[hp]at h;cases h;exact⟨.head _,hp⟩
  |false=>rw[hp]at h;have:=findL_some h;exact⟨.tail _ this.1,this.2⟩
theorem findL_none {p:Nat→Bool}:∀{l:List Nat},findL p l=none→∀x∈l,p x=false
 |[],_,x,h=>by cases h
 |y::r,h,x,hx=>by
  unfold findL at h
  cases hp:p y with
  |true=>rw[hp]at h;cases h
  |false=>
   rw[hp]at h
   rcases List.mem_cons.1 hx with rfl|hx
   ·exact hp
   ·exact findL_none h x hx
theorem readyB_iff {acc:List Nat} {j:Nat}:readyB ops acc j=true↔∃o,ops[j]? =some o∧∀p,Bnd o p→p∈acc:=by
 unfold readyB
 cases ho:ops[j]? with
 |none=>simp
 |some o=>
  simp only[List.all_eq_true,Option.some.injEq,exists_eq_left',memb_iff]
  exact⟨fun h p hp=>h p (bndL_mem.2 hp),fun h p hp=>h p (bndL_mem.1 hp)⟩
def minP (pos:Nat→Nat):Nat→List Nat→Nat
 |y,[]=>y
 |y,z::zs=>if pos y≤pos (minP pos z zs)then y else minP pos z zs
theorem minP_mem (pos:Nat→Nat):∀(ys:List Nat) (y:Nat),minP pos y ys∈y::ys
 |[],y=>.head _
 |z::zs,y=>by
  unfold minP
  split
  ·exact .head _
  ·exact .tail _ (minP_mem pos zs z)
theorem minP_le (pos:Nat→Nat):∀(ys:List Nat) (y w:Nat),w∈y::ys→pos (minP pos y ys)≤pos w
 |[],y,w,h=>by
  rcases List.mem_cons.1 h with rfl|h
  ·exact Nat.le_refl _
  ·cases h
 |z::zs,y,w,h=>by
  unfold minP
  rcases List.mem_cons.1 h with rfl|h
  ·split
   ·exact Nat.le_refl _
   ·omega
  ·have:=minP_le pos zs z w h
   split<;>omega
theorem meetA_some {F:Nat→Option β} {r:β}:∀{ys:List Nat} {y:Nat},meetA F y ys=some r→∀w∈y::ys,F w=some r
 |[],y,h,w,hw=>by
  rcases List.mem_cons.1 hw with rfl|hw
  ·exact h
  ·cases hw
 |z::zs,y,h,w,hw=>by
  obtain⟨h1,h2⟩:=meet_some h
  rcases List.mem_cons.1 hw with rfl|hw
  ·exact h1
  ·exact meetA_some h2 w hw
def pickC (ops:Array Oper) (pos:Nat→Nat):Nat→List Nat→List Nat
 |0,_=>[]
 |n+1,acc=>match nextQ ops acc with
  |some j=>j::pickC ops pos n (insN j acc)
  |none=>match nextL ops acc with
   |[]=>[]
   |y::ys=>minP pos y ys::pickC ops pos n (insN (minP pos y ys) acc)
inductive Bra (ops:Array Oper) (pos:Nat→Nat):List Nat→List Nat→Prop
 |nil {acc:List Nat}:(∀j,j<ops.size→j∈acc)→Bra ops pos acc []
 |cons {acc C:List Nat} {y:Nat}:y<ops.size→y∉acc→(∀o p,ops[y]? =some o→Bnd o p→p∈acc)→
   (quietAt ops y=false→(∀j o,ops[j]? =some o→quiet o.op=true→j∉acc→∃p,Bnd o p∧p∉acc)∧∀z,z<ops.size→z∉acc→z≠y→pos y<pos z)→
   Bra ops pos (insN y acc) C→Bra ops pos acc (y::C)
def leftN (ops:Array Oper) (acc:List Nat):Nat:=((List.range ops.size).filter fun j=> !memb j acc).length
theorem left_ins {acc:List Nat} {y:Nat} (h:y<ops.size) (h':y∉acc):leftN ops (insN y acc)<leftN ops acc:=by
 unfold leftN
 have e:∀j,(!memb j (insN y acc))=((!memb j acc)&& !Nat.beq j y):=by
  intro j
  rw[Bool.eq_iff_iff]
  simp only[Bool.and_eq_true,Bool.not_eq_true', ←Bool.not_eq_true,memb_iff,mem_insN,Nat.beq_eq]
  exact⟨fun h=>⟨fun h2=>h (.inr h2),fun h2=>h (.inl h2)⟩,fun h h2=>h2.elim h.2 h.1⟩
 have e2:(List.range ops.size).filter (fun j=> !memb j (insN y acc))=((List.range ops.size).filter (fun j=> !memb j acc)).filter (fun j=> !Nat.beq j y):=by
  rw[List.filter_filter]
  congr 1
  funext j
  rw[e,Bool.and_comm]
 rw[e2]
 refine List.length_filter_lt_length_iff_exists.2 ⟨y,?_,?_⟩
 ·rw[List.mem_filter]
  refine⟨List.mem_range.2 h,?_⟩
  rw[Bool.not_eq_true', ←Bool.not_eq_true,memb_iff];exact h'
 ·simp
theorem nextL_mem {acc:List Nat} {j:Nat}:j∈nextL ops acc↔j<ops.size∧j∉acc∧∃o,ops[j]? =some o∧∀p,Bnd o p→p∈acc:=by
 unfold nextL
 rw[List.mem_filter,List.mem_range,Bool.and_eq_true,Bool.not_eq_true', ←Bool.not_eq_true,memb_iff,readyB_iff]
theorem pick_bra {C0:List Nat} {pos:Nat→Nat} (G:Can0 ops C0) (hp:∀j o p,ops[j]? =some o→Bnd o p→pos p<pos j) (hi:∀i j,i<ops.size→j<ops.size→pos i=pos j→i=j):
  ∀(n:Nat) (acc:List Nat),leftN ops acc<n→Bra ops pos acc (pickC ops pos n acc)
 |0,acc,h=>absurd h (Nat.not_lt_zero _)
 |n+1,acc,h=>by
  have hlt:∀j o p,ops[j]? =some o→Bnd o p→p<ops.size:=fun j o p ho hb=>by
   have hj:=(Array.getElem?_eq_some_iff.1 ho).1
   obtain⟨D1,D2,e⟩:=List.append_of_mem ((G.all j).2 hj)
   exact(G.all p).1 (by rw[e];exact List.mem_append_left _ (G.edge D1 j D2 o e ho p hb))
  unfold pickC
  cases hq:nextQ ops acc with
  |some j=>
   obtain⟨h1,h2⟩:=findL_some hq
   simp only[Bool.and_eq_true,Bool.not_eq_true']at h2
   obtain⟨⟨h2,h3⟩,h4⟩:=h2
   rw[←Bool.not_eq_true,memb_iff]at h3
   obtain⟨o,ho,h5⟩:=readyB_iff.1 h4
   have hj:=List.mem_range.1 h1
   have:=left_ins hj h3
   exact .cons hj h3 (fun o' p ho' hb=>h5 p (by rw[ho]at ho';cases ho';exact hb)) (fun hf=>by rw[h2]at hf;cases hf) (pick_bra G hp hi n _ (by omega))
  |none=>
   have hno:=findL_none hq
   have hquiet:∀j o,ops[j]? =some o→quiet o.op=true→j∉acc→∃p,Bnd o p∧p∉acc:=fun j o ho hqo hj=>by
    have:=hno j (List.mem_range.2 (Array.getElem?_eq_some_iff.1 ho).1)
    have e1:quietAt ops j=true:=by unfold quietAt;rw[ho];exact hqo
    have e2:memb j acc=false:=by rw[←Bool.not_eq_true,memb_iff];exact hj
    rw[e1,e2]at this
    simp only[Bool.not_false,Bool.and_self,Bool.true_and]at this
    refine Classical.byContradiction fun hc=>?_
    have:readyB ops acc j=true:=readyB_iff.2 ⟨o,ho,fun p hb=>Classical.byContradiction fun hn=>hc ⟨p,hb,hn⟩⟩
    simp_all
   have down:∀(m w:Nat),pos w<m→w<ops.size→w∉acc→∃v,v∈nextL ops acc∧pos v≤pos w:=fun m=>by
    induction m with
    |zero=>intro w h;omega
    |succ m ih=>
     intro w hm hw hn
     by_cases hr:w∈nextL ops acc
     ·exact⟨w,hr,Nat.le_refl _⟩
     ·have ho:ops[w]? =some ops[w]:=Array.getElem?_eq_getElem hw
      have:∃p,Bnd ops[w] p∧p∉acc:=Classical.byContradiction fun hc=>hr (nextL_mem.2 ⟨hw,hn,_,ho,fun p hb=>Classical.byContradiction fun hn'=>hc ⟨p,hb,hn'⟩⟩)
      obtain⟨p,hb,hn'⟩:=this
      have h1:=hp w _ p ho hb
      obtain⟨v,hv,hle⟩:=ih p (by omega) (hlt w _ p ho hb) hn'
      exact⟨v,hv,by omega⟩
   cases hL:nextL ops acc with
   |nil=>
    refine .nil fun j hj=>Classical.byContradiction fun hn=>?_
    obtain⟨v,hv,_⟩:=down (pos j+1) j (by omega) hj hn
    rw[hL]at hv;cases hv
   |cons y ys=>
    simp only
    have hz:=minP_mem pos ys y
    rw[←hL]at hz
    obtain⟨h1,h2,o,ho,h3⟩:=nextL_mem.1 hz
    have:=left_ins h1 h2
    refine .cons h1 h2 (fun o' p ho' hb=>h3 p (by rw[ho]at ho';cases ho';exact hb)) (fun _=>⟨hquiet,fun z hz1 hz2 hz3=>?_⟩) (pick_bra G hp hi n _ (by omega))
    obtain⟨v,hv,hle⟩:=down (pos z+1) z (by omega) hz1 hz2
    rw[hL]at hv
    have:=minP_le pos ys y v hv
    rcases Nat.lt_or_ge (pos (minP pos y ys)) (pos z)with h|h
    ·exact h
    ·exact(hz3 (hi _ _ hz1 h1 (by omega))).elim
theorem Bra.mem {pos:Nat→Nat} {acc C:List Nat} (h:Bra ops pos acc C):(∀y∈C,y∉acc∧y<ops.size)∧C.Nodup∧∀j,j<ops.size→j∈acc∨j∈C:=by
 induction h with
 |nil h=>exact⟨by simp,List.nodup_nil,fun j hj=>.inl (h j hj)⟩
 |@cons acc C y h1 h2 _ _ _ ih=>
  obtain⟨i1,i2,i3⟩:=ih
  refine⟨fun z hz=>?_,List.nodup_cons.2 ⟨fun hy=>(i1 y hy).1 (mem_insN.2 (.inl rfl)),i2⟩,fun j hj=>?_⟩
  ·rcases List.mem_cons.1 hz with rfl|hz
   ·exact⟨h2,h1⟩
   ·exact⟨fun hn=>(i1 z hz).1 (mem_insN.2 (.inr hn)),(i1 z hz).2⟩
  ·rcases i3 j hj with h|h
   ·rcases mem_insN.1 h with rfl|h
    ·exact .inr (.head _)
    ·exact .inl h
   ·exact .inr (.tail _ h)
theorem Bra.split {pos:Nat→Nat}:∀{C1:List Nat} {acc:List Nat} {y:Nat} {C2:List Nat},Bra ops pos acc (C1++y::C2)→∃acc',(∀i,i∈acc'↔i∈acc∨i∈C1)∧Bra ops pos acc' (y::C2)
 |[],acc,y,C2,h=>⟨acc,by simp,h⟩
 |x::C1,acc,y,C2,h=>by
  cases h with
  |cons h1 h2 h3 h4 h5=>
   obtain⟨acc',e,hb⟩:=Bra.split h5
   refine⟨acc',fun i=>?_,hb⟩
   rw[e,mem_insN,List.mem_cons]
   exact⟨fun h=>by rcases h with(h|h)|h<;>simp[h],fun h=>by rcases h with h|h|h<;>simp[h]⟩
def behF (ops:Array Oper) (pos:Nat→Nat) (j:Nat):List Nat:=if quietAt ops j=true then[]else(List.range ops.size).filter fun i=> !quietAt ops i&&Nat.blt (pos i) (pos j)
theorem behF_mem {pos:Nat→Nat} {i j:Nat}:i∈behF ops pos j↔quietAt ops j=false∧i<ops.size∧quietAt ops i=false∧pos i<pos j:=by
 unfold behF
 by_cases h:quietAt ops j=true
 ·rw[if_pos h];simp[h]
 ·rw[if_neg h,List.mem_filter,List.mem_range,Bool.and_eq_true,Nat.blt_eq]
  simp[h]
theorem looks_addF {j:Nat} {o:Oper}:looks (addF f ops) (more f j o)=looks ops o:=by
 unfold looks
 have e1:(more f j o).op=o.op:=rfl
 have e2:(more f j o).guard=o.guard:=rfl
 rw[e1,e2]
 cases o.guard with
 |none=>rfl
 |some g=>simp only[addF_dst]
theorem bra_canon {pos:Nat→Nat} {C:List Nat} (hB:Bra ops pos [] C) (hdst:∀i j t,i<ops.size→j<ops.size→dstOf ops i=some t→dstOf ops j=some t→i=j)
  (hlook:∀i j o t,i<ops.size→ops[j]? =some o→dstOf ops i=some t→t∈looks ops o→Anc ops j i):Canon (addF (behF ops pos) ops) C:=by
 obtain⟨m1,m2,m3⟩:=hB.mem
 have hget:∀{j:Nat} {o':Oper},(addF (behF ops pos) ops)[j]? =some o'→∃o,ops[j]? =some o∧o'=more (behF ops pos) j o:=fun{j o'} h=>by
  rw[addF_get]at h
  cases ho:ops[j]? with
  |none=>rw[ho]at h;cases h
  |some o=>rw[ho]at h;exact⟨o,rfl,(Option.some.inj h).symm⟩
 have hq:∀{j:Nat} {o:Oper},ops[j]? =some o→quietAt ops j=quiet o.op:=fun{j o} h=>by unfold quietAt;rw[h]
 have hall:∀i,i∈C↔i<ops.size:=fun i=>⟨fun h=>(m1 i h).2,fun h=>(m3 i h).resolve_left (by simp)⟩
 have hedge:∀C1 j C2 o,C=C1++j::C2→(addF (behF ops pos) ops)[j]? =some o→∀p,Bnd o p→p∈C1:=fun C1 j C2 o' e ho' p hb=>by
  obtain⟨o,ho,rfl⟩:=hget ho'
  rw[e]at hB
  obtain⟨acc',ea,hB'⟩:=hB.split
  cases hB' with
  |cons h1 h2 h3 h4 h5=>
   rcases more_bnd.1 hb with hb|hb
   ·obtain⟨b1,b2,b3,b4⟩:=behF_mem.1 hb
    have hp:p∈acc':=Classical.byContradiction fun hn=>by
     have:=(h4 b1).2 p b2 hn (fun e=>by subst e;omega)
     omega
    exact((ea p).1 hp).resolve_left (by simp)
   ·exact((ea p).1 (h3 o p ho hb)).resolve_left (by simp)
 refine⟨m2,fun i=>by rw[addF_size];exact hall i,?_,?_,hedge,?_⟩
 ·intro i j t hi hj hd he
  rw[addF_size]at hi hj
  rw[addF_dst]at hd he
  exact hdst i j t hi hj hd he
 ·intro i j o' t hi ho' hd ht
  obtain⟨o,ho,rfl⟩:=hget ho'
  rw[addF_size]at hi
  rw[addF_dst]at hd
  rw[looks_addF]at ht
  exact anc_addF (hlook i j o t hi ho hd ht)
 ·intro C1 i C2 oi' e hoi' hqi j hj
  obtain⟨oi,hoi,rfl⟩:=hget hoi'
  have hqi':quietAt ops i=false:=by rw[hq hoi];exact hqi
  have hB2:=hB
  rw[e]at hB2
  obtain⟨acc',ea,hB'⟩:=hB2.split
  cases hB' with
  |cons h1 h2 h3 h4 h5=>
   obtain⟨P1,P2⟩:=h4 hqi'
   have hnd:=m2
   rw[e]at hnd
   have hnd2:=List.nodup_append.1 hnd
   have main:∀(n:Nat) (D1:List Nat) (j:Nat) (D2:List Nat),D1.length<n→C2=D1++j::D2→Anc (addF (behF ops pos) ops) j i:=fun n=>by
    induction n with
    |zero=>intro D1 j D2 h;omega
    |succ n ih=>
     intro D1 j D2 hn eD
     have hjC:j∈C:=by rw[e,eD];simp
     have hjN:=(hall j).1 hjC
     have hoj:ops[j]? =some ops[j]:=Array.getElem?_eq_getElem hjN
     have hja:j∉acc':=fun h=>by
      have:=((ea j).1 h).resolve_left (by simp)
      exact hnd2.2.2 j this j (by rw[eD];simp) rfl
     have hji:j≠i:=fun h=>by
      subst h
      exact(List.nodup_cons.1 hnd2.2.1).1 (by rw[eD];simp)
     cases hqj:quiet ops[j].op with
     |false=>
      exact .one (by rw[addF_get,hoj];rfl) (more_bnd.2 (.inl (behF_mem.2 ⟨by rw[hq hoj];exact hqj,h1,hqi',P2 j hjN hja hji⟩)))
     |true=>
      obtain⟨p,hb,hpn⟩:=P1 j _ hoj hqj hja
      have hp:=hedge (C1++i::D1) j D2 _ (by rw[e,eD];simp) (by rw[addF_get,hoj];rfl) p (more_bnd.2 (.inr hb))
      rcases List.mem_append.1 hp with hp|hp
      ·exact(hpn ((ea p).2 (.inr hp))).elim
      ·rcases List.mem_cons.1 hp with rfl|hp
       ·exact .one (by rw[addF_get,hoj];rfl) (more_bnd.2 (.inr hb))
       ·obtain⟨E1,E2,rfl⟩:=List.append_of_mem hp
        refine .more (by rw[addF_get,hoj];rfl) (more_bnd.2 (.inr hb)) (ih E1 p (E2++j::D2) (by simp at hn;omega) (by rw[eD];simp))
   obtain⟨D1,D2,eD⟩:=List.append_of_mem hj
   exact main (D1.length+1) D1 j D2 (by omega) eD
theorem Rel.srt {tmps:List Value} (R:Rel w0 M0 L s tmps w):Rel w0 M0 L s.srt tmps w:=by
 refine R.same R.tlen (fun i o v hv=>.inr ⟨v,?_,.inl rfl,rfl⟩) (fun i agg cells h=>⟨cells,?_,rfl⟩)
 ·cases i with
  |zero=>exact hv
  |succ i=>
   simp only[S.srt,S.cell]at hv ⊢
   rw[find_sortR]at hv
   exact hv
 ·simp only[S.srt]at h
  rw[find_sortR]at h
  exact h
theorem skipB_addF {s:S} {i:Nat} {o:Oper}:skipB (addF f ops) s (more f i o)=skipB ops s o:=by
 unfold skipB
 have e2:(more f i o).guard=o.guard:=rfl
 rw[e2]
 cases o.guard with
 |none=>rfl
 |some g=>simp only[addF_dst]
theorem pendOk_addF {ms past:List Nat} {s:S} {ks:List Key} {y:Nat}:pendOk P (addF f ops) ms s ks y past=pendOk P ops ms s ks y past:=by
 unfold pendOk
 congr 1
 funext i
 rw[addF_get]
 cases ho:ops[i]? with
 |none=>rfl
 |some o=>
  simp only[Option.map_some,skipB_addF]
  rfl
theorem stepG_addF {ms past:List Nat} {y:Nat} {o:Oper} {s:S} {K:S→Option β}:stepG P E (addF f ops) ms past y (more f y o) s K=stepG P E ops ms past y o s K:=by
 unfold stepG
 simp only[pendOk_addF]
 rfl
theorem opsG_addF {ms past:List Nat} {y:Nat} {s:S} {K:S→Option β}:opsG P E (addF f ops) ms past [y] s K=opsG P E ops ms past [y] s K:=by
 cases ho:ops[y]? with
 |none=>
  have h1:(addF f ops)[y]? =none:=by rw[addF_get,ho];rfl
  unfold opsG
  rw[ho,h1]
 |some o=>
  have h1:(addF f ops)[y]? =some (more f y o):=by rw[addF_get,ho];rfl
  have e2:(more f y o).guard=o.guard:=rfl
  have e3:(more f y o).dst=o.dst:=rfl
  rw[opsG_cons ho,opsG_cons h1,e2,e3]
  simp only[stepG_addF,addF_dst]
  rfl
def EvA (P:Program) (E:Env) (ops:Array Oper) (ms:List Nat) (pos:Nat→Nat) (k:S→Option β) (r:β) (acc C2:List Nat) (s:S):Prop:=
 ∃n,C2=pickC ops pos n acc∧regA P E ops ms n acc s k=some r
section
variable {ms:List Nat} {pos:Nat→Nat} {k:S→Option β} {r:β} {acc C:List Nat}
theorem ev_nil (h:EvA P E ops ms pos k r acc [] s):k s=some r:=by
 obtain⟨n,h1,h2⟩:=h
 cases n with
 |zero=>rw[regA]at h2;cases h2
 |succ n=>
  unfold pickC at h1
  rw[regA]at h2
  cases hq:nextQ ops acc with
  |some j=>rw[hq]at h1;cases h1
  |none=>
   rw[hq]at h1 h2
   cases hl:nextL ops acc with
   |cons y ys=>rw[hl]at h1;cases h1
   |nil=>
    rw[hl]at h2
    simp only at h2
    split at h2
    ·exact h2
    ·cases h2
theorem ev_cons {y:Nat} {rest:List Nat} (h:EvA P E ops ms pos k r acc (y::rest) s):∃K:S→Option β,opsG P E ops ms acc [y] s K=some r∧∀s',K s'=some r→EvA P E ops ms pos k r (insN y acc) rest s'.srt:=by
 obtain⟨n,h1,h2⟩:=h
 cases n with
 |zero=>rw[regA]at h2;cases h2
 |succ n=>
  unfold pickC at h1
  rw[regA]at h2
  cases hq:nextQ ops acc with
  |some j=>
   rw[hq]at h1 h2
   cases h1
   exact⟨_,h2,fun s' hs=>⟨n,rfl,hs⟩⟩
  |none=>
   rw[hq]at h1 h2
   cases hl:nextL ops acc with
   |nil=>rw[hl]at h1;cases h1
   |cons z zs=>
    rw[hl]at h1 h2
    cases h1
    exact⟨_,meetA_some h2 _ (minP_mem pos zs z),fun s' hs=>⟨n,rfl,hs⟩⟩
end
section
variable {ms:List Nat} {pos:Nat→Nat} {k:S→Option β} {r:β} {C:List Nat} {w1:World} {d0:List Deferred}
theorem quietRunA (G:Canon (addF f ops) C) {rest:List Nat}:∀(blk A acc:List Nat) (a:Act) (L:Lay) (s:S),C=A++(blk++rest)→(∀i,i∈A→i∈acc)→(∀i o,i∈blk→(addF f ops)[i]? =some o→quiet o.op=true)→
  Rel w0 M0 L s a.tmps.toList w→EvA P E ops ms pos k r acc (blk++rest) s→
  ∃a' s' L' acc',Rel w0 M0 L' s' a'.tmps.toList w∧EvA P E ops ms pos k r acc' rest s'∧(∀i,i∈A++blk→i∈acc')∧a'.defers=a.defers∧a'.tmps.size=a.tmps.size∧
   (∀t,(∀i,i∈blk→dstOf (addF f ops) i≠some t)→a'.tmps[t]? =a.tmps[t]?)∧
   ∀i o,i∈blk→(addF f ops)[i]? =some o→∃u,Fact P (addF f ops) w o a' u∧∀t,dstOf (addF f ops) i=some t→t<a'.tmps.size→a'.tmps[t]? =some u
 |[],A,acc,a,L,s,hC,hA,hq,R,h=>⟨a,s,L,acc,R,h,by simpa using hA,rfl,rfl,fun _ _=>rfl,fun i o hm=>by cases hm⟩
 |i::blk,A,acc,a,L,s,hC,hA,hq,R,h=>by
  have hiN:i<(addF f ops).size:=(G.all i).1 (by rw[hC];simp)
  obtain⟨o,ho⟩:∃o,(addF f ops)[i]? =some o:=⟨_,Array.getElem?_eq_getElem hiN⟩
  have hd:dstOf (addF f ops) i=o.dst:=by simp[dstOf,ho]
  have hqi:=hq i o (.head _) ho
  obtain⟨K,h,hK⟩:=ev_cons h
  rw[←opsG_addF (f:=f),opsG_cons ho]at h
  have main:∃u s1 L1,Fact P (addF f ops) w o a u∧Rel w0 M0 L1 s1 (putT a.tmps.toList o.dst u) w∧K s1=some r:=by
   rcases guardG_ok (F:=stepG P E (addF f ops) ms acc i o) R h with⟨hw,s1,L1,R1,hs⟩|⟨hw,s1,L1,R1,hs⟩
   ·unfold stepG at hs
    rw[hqi]at hs
    obtain⟨u,s2,L2,hrun,R2,hk⟩:=quiet_ok hqi R1 hs
    exact⟨u,s2,L2,.inl ⟨hw,hrun⟩,R2,hk⟩
   ·exact⟨undef,s1,L1,.inr ⟨hw,rfl⟩,R1,hs⟩
  obtain⟨u,s1,L1,hf,R1,hk⟩:=main
  rw[←put_tmps, ←hd]at R1
  obtain⟨a',s',L',acc',R',hk',hA',h1,h2,h3,h4⟩:=quietRunA G blk (A++[i]) (insN i acc) (a.put (dstOf (addF f ops) i) u) L1 s1.srt (by rw[hC];simp) (fun j hj=>by
   rcases List.mem_append.1 hj with hj|hj
   ·exact mem_insN.2 (.inr (hA j hj))
   ·exact mem_insN.2 (.inl (List.mem_singleton.1 hj))) (fun j o' hj=>hq j o' (.tail _ hj)) R1.srt (hK _ hk)
  have hnd:=G.nodup
  rw[hC]at hnd
  have hib:i∉blk:=fun h=>(List.nodup_cons.1 (List.nodup_append.1 hnd).2.1).1 (List.mem_append_left _ h)
  have hbN:∀j∈blk,j<(addF f ops).size:=fun j hj=>(G.all j).1 (by rw[hC];exact List.mem_append_right _ (.tail _ (List.mem_append_left _ hj)))
  have hot:∀t,(∀j,j∈i::blk→dstOf (addF f ops) j≠some t)→a'.tmps[t]? =a.tmps[t]? :=fun t ht=>by
   rw[h3 t fun j hj=>ht j (.tail _ hj),put_get_ne (ht i (.head _))]
  refine⟨a',s',L',acc',R',hk',fun j hj=>hA' j (by simpa using hj),h1.trans (put_defers _ _ _),h2.trans (put_size _ _ _),hot,fun j o' hj ho'=>?_⟩
  rcases List.mem_cons.1 hj with rfl|hj
  ·rw[ho]at ho';cases ho'
   refine⟨u,Fact.congr (quiet_sel (hq j o (.head _) ho)) (fun t ht=>hot t fun j' hj' hdj=>?_) hf,fun t ht hlt=>?_⟩
   ·have hjN:j'<(addF f ops).size:=by
     rcases List.mem_cons.1 hj' with rfl|h
     ·exact hiN
     ·exact hbN j' h
    have hA:=anc_ahead G (G.look j' j o t hjN ho hdj ht) A (blk++rest) hC
    exact(List.nodup_append.1 hnd).2.2 j' hA j' (by
     rcases List.mem_cons.1 hj' with rfl|h
     ·exact .head _
     ·exact .tail _ (List.mem_append_left _ h)) rfl
   ·rw[h3 t fun j' hj' e=>hib (by rw[G.dst j j' t hiN (hbN j' hj') ht e];exact hj'),ht]
    rw[put_get_eq (by rw[h2,put_size]at hlt;exact hlt)]
  ·exact h4 j o' hj ho'
structure GhostA (w0:World) (M0:Io) (P:Program) (E:Env) (f:Nat→List Nat) (ops:Array Oper) (ms:List Nat) (pos:Nat→Nat) (k:S→Option β) (r:β) (d0:List Deferred) (C1 C2:List Nat) (w:World) (ag:Act):Prop where
 rel:∃L s acc,(∀i,i∈C1→i∈acc)∧Rel w0 M0 L s ag.tmps.toList w∧EvA P E ops ms pos k r acc C2 s
 defers:ag.defers=d0
 loud:∀y rest o,C2=y::rest→(addF f ops)[y]? =some o→quiet o.op=false
 fact:∀y rest i o,C2=y::rest→i∈C1→(addF f ops)[i]? =some o→quiet o.op=true→¬Anc (addF f ops) y i→∃u,Fact P (addF f ops) w o ag u∧∀t,dstOf (addF f ops) i=some t→t<ag.tmps.size→ag.tmps[t]? =some u
theorem ghostA_behind (G:Canon (addF f ops) C) {C1 rest acc:List Nat} {y:Nat} (hC:C=C1++y::rest) {ag ag1:Act} {o:Oper} (ho:(addF f ops)[y]? =some o) (hq:quiet o.op=false)
  (g:GhostA w0 M0 P E f ops ms pos k r d0 C1 (y::rest) w ag) {u:Value} (e1:ag1=ag.put o.dst u) {L1:Lay} {s1:S} (R1:Rel w0 M0 L1 s1 ag1.tmps.toList w1) (hacc:∀i,i∈C1++[y]→i∈acc) (h1:EvA P E ops ms pos k r acc rest s1)
  (hst:∀i o,i∈C1→(addF f ops)[i]? =some o→quiet o.op=true→¬Anc (addF f ops) y i→Region.wanted o (yielded (addF f ops) ag.tmps)=true→Like P w w1 (execOp ag.eval o)):
  Behind P (addF f ops) (GhostA w0 M0 P E f ops ms pos k r d0) C1 y rest ag ag1 w1:=by
 have hd:dstOf (addF f ops) y=o.dst:=by simp[dstOf,ho]
 have hnd:=G.nodup
 rw[hC]at hnd
 have hnd2:=List.nodup_append.1 hnd
 have hyN:y<(addF f ops).size:=(G.all y).1 (by rw[hC];simp)
 obtain⟨blk,rest',e,hb1,hb2⟩:=frontQuiet (addF f ops) rest fun i hi=>(G.all i).1 (by rw[hC];exact List.mem_append_right _ (.tail _ hi))
 subst e
 have hC':C=(C1++[y])++(blk++rest'):=by rw[hC];simp
 obtain⟨a',s',L',acc',R',hk',hA',d1,d2,d3,d4⟩:=quietRunA G blk (C1++[y]) acc ag1 L1 s1 hC' hacc hb1 R1 h1
 have hN1:∀i∈C1,i<(addF f ops).size:=fun i hi=>(G.all i).1 (by rw[hC];exact List.mem_append_left _ hi)
 have hbN:∀j∈blk,j<(addF f ops).size:=fun j hj=>(G.all j).1 (by rw[hC];exact List.mem_append_right _ (.tail _ (List.mem_append_left _ hj)))
 have notin:∀i j,i∈C1→(j=y∨j∈blk)→i≠j:=fun i j hi hj=>by
  refine hnd2.2.2 i hi j ?_
  rcases hj with rfl|hj
  ·exact .head _
  ·exact .tail _ (List.mem_append_left _ hj)
 have hsize:a'.tmps.size=ag.tmps.size:=by rw[d2,e1,put_size]
 have old:∀t,(∀j,(j=y∨j∈blk)→dstOf (addF f ops) j≠some t)→a'.tmps[t]? =ag.tmps[t]? :=fun t ht=>by
  rw[d3 t fun j hj=>ht j (.inr hj),e1,put_get_ne]
  rw[←hd];exact ht y (.inl rfl)
 have jN:∀j,(j=y∨j∈blk)→j<(addF f ops).size:=fun j hj=>by
  rcases hj with rfl|hj
  ·exact hyN
  ·exact hbN j hj
 have facts:∀i oi,i∈C1→(addF f ops)[i]? =some oi→quiet oi.op=true→¬Anc (addF f ops) y i→∃u,Fact P (addF f ops) w1 oi a' u∧∀t,dstOf (addF f ops) i=some t→t<a'.tmps.size→a'.tmps[t]? =some u:=by
  intro i oi hi hoi hqi hna
  obtain⟨u,hf,hu⟩:=g.fact y (blk++rest') i oi rfl hi hoi hqi hna
  refine⟨u,Fact.congr (quiet_sel hqi) (fun t ht=>old t fun j hj hdj=>?_) (hf.stays (hst i oi hi hoi hqi hna)),fun t ht hlt=>?_⟩
  ·have hanc:=G.look j i oi t (jN j hj) hoi hdj ht
   obtain⟨D1,D2,rfl⟩:=List.append_of_mem hi
   have:=anc_ahead G hanc D1 (D2++y::(blk++rest')) (by rw[hC];simp)
   exact notin j j (List.mem_append_left _ this) hj rfl
  ·rw[old t fun j hj hdj=>notin i j hi hj (G.dst i j t (hN1 i hi) (jN j hj) ht hdj)]
   exact hu t ht (by rw[←hsize];exact hlt)
 refine⟨by rw[e1,put_defers],blk,rest',a',rfl,hb1,?_,d3,d1,d2,?_⟩
 ·intro i oi hi hoi hqi hna
  rcases List.mem_append.1 hi with hi|hi
  ·exact facts i oi hi hoi hqi (hna hi)
  ·rcases List.mem_cons.1 hi with rfl|hi
   ·rw[ho]at hoi;cases hoi;rw[hq]at hqi;cases hqi
   ·exact d4 i oi hi hoi
 ·refine⟨⟨L',s',acc',fun i hi=>hA' i (by simpa using hi),R',hk'⟩,by rw[d1,e1,put_defers];exact g.defers,hb2,?_⟩
  intro y2 rest2 i oi e hi hoi hqi hna
  rcases List.mem_append.1 hi with hi|hi
  ·refine facts i oi hi hoi hqi fun hanc=>hna ?_
   subst e
   exact(G.loud C1 y (blk++y2::rest2) o hC ho hq y2 (List.mem_append_right _ (.head _))).trans hanc
  ·rcases List.mem_cons.1 hi with rfl|hi
   ·rw[ho]at hoi;cases hoi;rw[hq]at hqi;cases hqi
   ·exact d4 i oi hi hoi
theorem regA_ok {gl:Gl} (hE:EnvAt gl P E w0 M0) (G:Canon (addF f ops) C) (hms:∀y i,ancB ms y i=true→Anc (addF f ops) y i) (hns:noSel ops=true)
  (R:Rel w0 M0 L s a.tmps.toList w) (h:EvA P E ops ms pos k r [] C s) (hQ:∀a' w',Next' w0 M0 a k r a' w'→Q .normal a' w'):
  wpAny P .any (addF f ops) Q (cnt (firstN (addF f ops).size 0)) (firstN (addF f ops).size 0) a w:=by
 have hns':noSel (addF f ops)=true:=by
  unfold noSel
  rw[List.all_eq_true]
  intro o ho
  obtain⟨j,hj⟩:=List.mem_iff_getElem?.1 ho
  rw[Array.getElem?_toList,addF_get]at hj
  cases ho':ops[j]? with
  |none=>rw[ho']at hj;cases hj
  |some o'=>
   rw[ho']at hj
   cases hj
   exact List.all_eq_true.1 hns o' (by rw[Array.mem_toList_iff];exact Array.mem_of_getElem? ho')
 obtain⟨blk,rest,hC,hb1,hb2⟩:=frontQuiet (addF f ops) C fun i hi=>(G.all i).1 hi
 rw[hC]at h
 obtain⟨a',s',L',acc',R',hk',hA',d1,d2,d3,d4⟩:=quietRunA G blk [] [] a L s hC (by simp) hb1 R h
 have hbN:∀j∈blk,j<(addF f ops).size:=fun j hj=>(G.all j).1 (by rw[hC];exact List.mem_append_left _ hj)
 refine ghost_any (Gs:=GhostA w0 M0 P E f ops ms pos k r a.defers) G ?_ ?_ _ _ a a' w blk rest hC ?_ ?_ rfl
 ·intro w1 ag g
  obtain⟨L1,s1,acc1,_,R1,h1⟩:=g.rel
  exact hQ _ _ ⟨s1,L1,R1,g.defers,ev_nil h1⟩
 ·intro C1 y rest w1 ag o hC g ho
  have hq:=g.loud y rest o rfl ho
  obtain⟨L1,s1,acc1,hacc,R1,h1⟩:=g.rel
  obtain⟨K,h1,hK⟩:=ev_cons h1
  rw[←opsG_addF (f:=f),opsG_cons ho]at h1
  have hacc':∀i,i∈C1++[y]→i∈insN y acc1:=fun i hi=>by
   rcases List.mem_append.1 hi with hi|hi
   ·exact mem_insN.2 (.inr (hacc i hi))
   ·exact mem_insN.2 (.inl (List.mem_singleton.1 hi))
  have hrefl:∀i oi,i∈C1→(addF f ops)[i]? =some oi→quiet oi.op=true→¬Anc (addF f ops) y i→Region.wanted oi (yielded (addF f ops) ag.tmps)=true→Like P w1 w1 (execOp ag.eval oi):=by
   intro i oi hi hoi hqi hna hw
   obtain⟨u,hf,_⟩:=g.fact y rest i oi rfl hi hoi hqi hna
   intro u' w' e
   rcases hf with⟨_,hr⟩|⟨hw',_⟩
   ·rw[hr]at e;cases e;exact⟨rfl,hr⟩
   ·rw[hw]at hw';cases hw'
  refine⟨hq,noSel_spec hns' ho,fun hw=>?_,fun hw=>?_⟩
  ·rcases guardG_ok (F:=stepG P E (addF f ops) ms acc1 y o) R1 h1 with⟨_,s2,L2,R2,hs⟩|⟨hw',_⟩
   ·unfold stepG at hs
    rw[hq]at hs
    simp only at hs
    split at hs
    ·rename_i ks hfoot
     split at hs
     ·rename_i hpend
      have hl:=loud_frame hE (Q:=fun _ _ _=>False) hq R2 hfoot hs
      refine wp_move (a:=ag) (ag:=ag) rfl id hl (fun v w2 hv=>?_) (fun a1 w2 h=>?_)
      ·obtain⟨⟨s3,L3,R3,_,hk3⟩,hfr⟩:=hv
       refine ghostA_behind G hC ho hq g rfl R3.srt hacc' (hK _ hk3) fun i oi hi hoi hqi hna hw=>?_
       have hp:=List.all_eq_true.1 hpend i (hacc i hi)
       rw[hoi]at hp
       simp only[Bool.or_eq_true,Bool.not_eq_true',hqi,Bool.true_eq_false,false_or]at hp
       rcases hp with hp|hp|hp
       ·exact(hna (hms _ _ hp)).elim
       ·rw[skipB_ok R2 hp]at hw;cases hw
       ·exact stable_ok R2 hqi hp hfr
      ·obtain⟨⟨s3,L3,R3,hd3,_⟩,_⟩:=h
       exact hd3
     ·cases hs
    ·cases hs
   ·rw[hw]at hw';cases hw'
  ·rcases guardG_ok (F:=stepG P E (addF f ops) ms acc1 y o) R1 h1 with⟨hw',_⟩|⟨_,s2,L2,R2,hs⟩
   ·rw[hw]at hw';cases hw'
   ·rw[←put_tmps]at R2
    exact ghostA_behind G hC ho hq g rfl R2.srt hacc' (hK _ hs) hrefl
 ·refine⟨by simp[firstN_size],?_,?_,?_,?_,?_,d1.symm,d2.symm⟩
  ·intro j o ho hj p hp
   have hjN:=(Array.getElem?_eq_some_iff.1 ho).1
   rw[firstN_get hjN]at hj;simp at hj
  ·intro i hi _
   rw[firstN_get hi];simp
  ·intro i o hi ho hq'
   rw[hb1 i o hi ho]at hq';cases hq'
  ·intro i o hi ho _
   exact d4 i o hi ho
  ·intro t ht
   refine(d3 t fun i hi hdi=>?_).symm
   have:=ht i hi hdi
   rw[firstN_get (hbN i hi)]at this;simp at this
 ·refine⟨⟨L',s',acc',fun i hi=>hA' i (by simpa using hi),R',hk'⟩,d1,hb2,?_⟩
  intro y rest' i o e hi ho hq' _
  exact d4 i o hi ho
end
theorem canonW_spec {C0:List Nat} (h:canonW ops C0=true):Can0 ops C0∧(∀i j t,i<ops.size→j<ops.size→dstOf ops i=some t→dstOf ops j=some t→i=j)∧
  ∀i j o t,i<ops.size→ops[j]? =some o→dstOf ops i=some t→t∈looks ops o→Anc ops j i:=by
 simp only[canonW,Bool.and_eq_true]at h
 obtain⟨⟨⟨⟨h1,h2⟩,h3⟩,h4⟩,h5⟩:=h
 have hall:∀i,i∈C0↔i<ops.size:=fun i=>⟨fun hi=>by
   have:=List.all_eq_true.1 h3 i hi
   rwa [Nat.blt_eq]at this,fun hi=>mem_of_memb (List.all_eq_true.1 h2 i (List.mem_range.2 hi))⟩
 have pair:∀i j,i<ops.size→j<ops.size→pairB ops (masksOf ops) i j=true:=fun i j hi hj=>
  List.all_eq_true.1 (List.all_eq_true.1 h4 i ((hall i).2 hi)) j ((hall j).2 hj)
 refine⟨⟨hall,fun C1 j C2 o e ho p hp=>by simpa using edgesB_spec C0 [] h5 C1 j C2 o e ho p hp⟩,?_,?_⟩
 ·intro i j t hi hj hd he
  have:=pair i j hi hj
  simp only[pairB,hd,he,Bool.and_eq_true,Bool.or_eq_true,Bool.not_eq_true',Nat.beq_eq]at this
  rcases this.1 with h|h
  ·simp at h
  ·exact h
 ·intro i j o t hi ho hd ht
  have hj:=(Array.getElem?_eq_some_iff.1 ho).1
  have:=pair i j hi hj
  simp only[pairB,hd,ho,Bool.and_eq_true,Bool.or_eq_true,Bool.not_eq_true']at this
  rcases this.2 with h|h
  ·have:(looks ops o).any (Nat.beq t)=true:=List.any_eq_true.2 ⟨t,ht,by rw[Nat.beq_eq]⟩
   rw[this]at h;cases h
  ·exact ancB_spec h
theorem regG_run {gl:Gl} (hE:EnvAt gl P E w0 M0) {C:List Nat} {k:S→Option β} {r:β} (R:Rel w0 M0 L s a.tmps.toList w) (h:regG P E ops C s k=some r) (hQ:∀a' w',Next' w0 M0 a k r a' w'→Q .normal a' w')
  {l:List Nat} (hl:VO .any ops (firstN ops.size 0) l):wpOps P ops Q l a w:=vo_follow hl _ a w (regG_ok hE R h hQ)
theorem idxOf_inj {l:List Nat}:∀{i j:Nat},i∈l→j∈l→l.idxOf i=l.idxOf j→i=j:=by
 intro i j hi hj h
 have h1:=List.getElem_idxOf (List.idxOf_lt_length_of_mem hi)
 have h2:=List.getElem_idxOf (List.idxOf_lt_length_of_mem hj)
 rw[←h1, ←h2]
 simp only[h]
theorem regH_run {gl:Gl} (hE:EnvAt gl P E w0 M0) {k:S→Option β} {r:β} (R:Rel w0 M0 L s a.tmps.toList w) (h:regH P E ops s k=some r) (hQ:∀a' w',Next' w0 M0 a k r a' w'→Q .normal a' w')
  {l:List Nat} (hl:VO .any ops (firstN ops.size 0) l):wpOps P ops Q l a w:=by
 unfold regH at h
 split at h
 ·exact regG_run hE R h hQ hl
 ·split at h
  ·rename_i hok
   rw[Bool.and_eq_true]at hok
   obtain⟨G0,hdst,hlook⟩:=canonW_spec hok.1
   have hs:(firstN ops.size 0).size=ops.size:=by simp[firstN_size]
   have hfl:∀j b,j<ops.size→(firstN ops.size 0).getD j b=false:=fun j b hj=>by
    rw[Array.getD_eq_getD_getElem?,firstN_get hj];simp
   have hall:∀j,j<ops.size→j∈l:=fun j hj=>vo_all G0 hl hs j hj (hfl j true hj)
   have hlt:∀j o p,ops[j]? =some o→Bnd o p→p<ops.size:=fun j o p ho hb=>by
    have hj:=(Array.getElem?_eq_some_iff.1 ho).1
    obtain⟨D1,D2,e⟩:=List.append_of_mem ((G0.all j).2 hj)
    exact(G0.all p).1 (by rw[e];exact List.mem_append_left _ (G0.edge D1 j D2 o e ho p hb))
   have hpos:∀j o p,ops[j]? =some o→Bnd o p→l.idxOf p<l.idxOf j:=fun j o p ho hb=>by
    have hj:=(Array.getElem?_eq_some_iff.1 ho).1
    rcases vo_bnd hl hs j (hall j hj) (hfl j true hj) o p ho hb with h|h
    ·rw[hfl p false (hlt j o p ho hb)]at h;cases h
    ·exact h
   have hB:=pick_bra (pos:=fun i=>l.idxOf i) G0 hpos (fun i j hi hj e=>idxOf_inj (hall i hi) (hall j hj) e) (ops.size+1) [] (by
    unfold leftN
    exact Nat.lt_succ_of_le (Nat.le_trans (List.length_filter_le _ _) (by simp)))
   have G:=bra_canon hB hdst hlook
   have hv:=vo_addF (f:=behF ops fun i=>l.idxOf i) hl hs fun j hj i hi=>.inr (behF_mem.1 hi).2.2.2
   have hwp:=regA_ok hE G (ms:=masksOf ops) (pos:=fun i=>l.idxOf i) (fun y i hyi=>anc_addF (ancB_spec hyi)) hok.2 R ⟨_,rfl,h⟩ hQ
   rw[addF_size]at hwp
   exact wpOps_addF _ _ _ (vo_follow hv _ a w hwp)
  ·cases h
theorem wp_region_each {id:Nat} (hm:P.follows .mixedOrders=true) (h:∀l,VO .any ops (firstN ops.size 0) l→wpOps P ops Q l a {w with drawn:=w.drawn+1 }):(Code.region id ops true).wp P Q a w:=
 wp_region_draw fun t=>by
  simp only[Region.schedule,hm,Bool.true_or,if_true]
  refine h _ ?_
  have e:firstN ops.size 0=Array.replicate ops.size false:=(firstN_zero _).symm
  rw[e]
  exact vo_lin ops.size t _ (by simp) (by rw[←e];unfold cnt;refine Nat.le_trans List.count_le_length ?_;simp[firstN])
end
end Go.Cm

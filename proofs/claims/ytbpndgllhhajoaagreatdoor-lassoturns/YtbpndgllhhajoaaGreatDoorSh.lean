/- The scan laws' seat: the contracts of the library's functions and of the scanner's small ones. -/
import Derived.Test.YtbpndgllhhajoaaGreatDoorSb
import Derived.Test.YtbpndgllhhajoaaGreatDoorSg
import Derived.Laws.BitsLemmas
set_option linter.unusedVariables false
set_option linter.unusedSimpArgs false
namespace Go.Sd
open Go Go.Cm Go.Proofs Go.Sc
set_option maxRecDepth 100000
theorem env0:EnvOk glS Tryz.prog E0:=EnvOk.none.add fun β args k r hr=>by
 unfold cIdx at hr
 split at hr
 ·rename_i s c
  exact⟨_,_,hr,valid_set (us:=[.string s,.int .u8 c]) (rs:=[.int .i64 (idxS s c)]) (.cons (.str s) (.cons (.int .u8 c) .nil)) (.cons (.int .i64 _) .nil) (idx_set s c)⟩
 ·cases hr
theorem env1:EnvOk glS Tryz.prog E1:=env0.fn mixed Tryz.func139 (by kernel_rfl) fun β args k r hr=>by
 unfold cIdx at hr
 split at hr
 ·exact⟨_,_,hr,fun q=>F51.start _ _ q⟩
 ·cases hr
theorem env2:EnvOk glS Tryz.prog E2:=env1.fn mixed Tryz.func137 (by kernel_rfl) fun β args k r hr=>by
 unfold cIdx at hr
 split at hr
 ·exact⟨_,_,hr,fun q=>F46.start _ _ q⟩
 ·cases hr
theorem hasP_eq (s p:ByteArray):hasP s p=if p.size≤s.size then(s.extract 0 p.size).toList==p.toList else false:=by
 rw[B_of s,B_of p]
 generalize s.data.toList=a
 generalize p.data.toList=b
 simp only[hasP,B_list,B_size,B_cut,List.drop_zero,Nat.sub_zero]
 split
 ·rename_i h
  rw[Bool.eq_iff_iff]
  simp only[List.isPrefixOf_iff_prefix,beq_iff_eq]
  rw[List.prefix_iff_eq_take]
  exact eq_comm
 ·rename_i h
  rw[Bool.eq_false_iff]
  intro h2
  rw[List.isPrefixOf_iff_prefix]at h2
  exact h h2.length_le
theorem env3:EnvOk glS Tryz.prog E3:=env2.fn mixed Tryz.func135 (by kernel_rfl) fun β args k r hr=>by
 unfold cHas at hr
 split at hr
 ·rename_i s p
  refine⟨_,_,hr,fun q=>?_⟩
  rw[F44.start,hasP_eq]
  by_cases h:p.size≤s.size
  ·rw[if_pos (by simpa using h),if_pos (by omega),if_pos h];simp
  ·rw[if_neg (by simpa using h),if_neg h]
 ·cases hr
theorem env4:EnvOk glS Tryz.prog E4:=env3.fn mixed Tryz.func124 (by kernel_rfl) fun β args k r hr=>by
 unfold cHas at hr
 split at hr
 ·exact⟨_,_,hr,fun q=>F31.start _ _ q⟩
 ·cases hr
theorem idxS_eq (s:ByteArray) (c:UInt8):idxS s (c.toNat:Int)=indexS s c:=by
 unfold idxS indexS
 rw[B_of s]
 rw[firstIdx_eq,B_list]
 congr 1
 simp
theorem env5:EnvOk glS Tryz.prog E5:=env4.fn mixed Tryz.func138 (by kernel_rfl) fun β args k r hr=>by
 unfold cIndex at hr
 split at hr
 ·rename_i s p
  split at hr
  ·rename_i c hp
   refine⟨_,_,hr,fun q=>?_⟩
   rw[F50.start]
   have hp1:p=B [c]:=by rw[B_of p];congr 1;rw[ByteArray.toList_eq]at hp;exact hp
   have hsz:p.size=1:=by rw[hp1];rfl
   rw[if_neg (by simp[hsz])]
   by_cases h:p.toList=s.toList
   ·rw[if_pos (by simpa using h)]
    have:indexS s c=0:=by unfold indexS;rw[←h,hp];simp[Lib.indexByte]
    rw[this]
   ·rw[if_neg (by simpa using h),if_pos (by simp[hsz])]
    have:p[(0:Nat)]? =some c:=by rw[hp1,B_get];rfl
    rw[this]
    simp only[idxS_eq]
  ·cases hr
 ·cases hr
theorem indexS_lt (s:ByteArray) (c:UInt8):indexS s c<s.size:=by
 unfold indexS
 have h:∀l:T8,Lib.indexByte l c<l.length:=by
  intro l
  induction l with
  |nil=>simp[Lib.indexByte]
  |cons b l ih=>
   unfold Lib.indexByte
   split
   ·simp<;>omega
   ·split
    ·simp<;>omega
    ·simp<;>omega
 have h1:=h s.toList
 have e:s.toList.length=s.size:=by rw[ByteArray.toList_eq];exact Array.length_toList
 rw[e]at h1
 exact h1
theorem indexS_ge (s:ByteArray) (c:UInt8): -1≤indexS s c:=Lib.indexByte_ge _ _
theorem wrap_id {n:Int} (h1: -9223372036854775808≤n) (h2:n≤9223372036854775807):IntKind.wrap .i64 n=n:=by rw[IntKind.wrap_i64];omega
theorem env6:EnvOk glS Tryz.prog E6:=env5.fn mixed Tryz.func136 (by kernel_rfl) fun β args k r hr=>by
 unfold cCut at hr
 split at hr
 ·rename_i s p
  split at hr
  ·rename_i c hp
   unfold chkK at hr
   split at hr
   ·rename_i hs
    have hlt:=indexS_lt s c
    have hge:=indexS_ge s c
    have hsz:p.size=1:=by
     have:p=B [c]:=by rw[B_of p];congr 1;rw[ByteArray.toList_eq]at hp;exact hp
     rw[this];rfl
    unfold small at hs
    have hw:IntKind.wrap .i64 (indexS s c+(p.size:Int))=indexS s c+1:=by rw[hsz];exact wrap_id (by omega) (by omega)
    split at hr
    ·rename_i h
     refine⟨_,_,hr,fun q=>?_⟩
     rw[F45.start,hp]
     simp only
     have h0:indexS s c<0:=by
      simp only[Bool.or_eq_true,Nat.ble_eq,decide_eq_true_eq]at h
      omega
     rw[if_neg (by simp;omega)]
    ·rename_i h
     refine⟨_,_,hr,fun q=>?_⟩
     rw[F45.start,hp]
     simp only
     have h0:0≤indexS s c:=by
      simp only[Bool.or_eq_false_iff,decide_eq_false_iff_not]at h
      omega
     rw[if_pos (by simpa using h0),if_pos (by omega),if_pos (by omega),hw]
     have:(indexS s c+1).toNat=(indexS s c).toNat+1:=by omega
     rw[this];simp
   ·cases hr
  ·cases hr
 ·cases hr
theorem env7:EnvOk glS Tryz.prog E7:=env6.fn mixed Tryz.func125 (by kernel_rfl) fun β args k r hr=>by
 unfold cCut at hr
 split at hr
 ·rename_i s p
  split at hr
  ·rename_i c hp
   unfold chkK at hr
   split at hr
   ·rename_i hs
    split at hr
    ·rename_i h
     refine⟨_,_,hr,fun q=>?_⟩
     rw[F32.start,hp]
     simp only[if_pos hs,h]
    ·rename_i h
     refine⟨_,_,hr,fun q=>?_⟩
     rw[F32.start,hp]
     simp only[if_pos hs,h]
   ·cases hr
  ·cases hr
 ·cases hr
theorem idx_sign (c:Int) (h:0≤c∧c<256):(idxS ⟨#[45,60,62,33,61,46,91,93,40,41,58,59,44,43,42,38,124,63,39]⟩ c≥0)↔c∈[45,60,62,33,61,46,91,93,40,41,58,59,44,43,42,38,124,63,(39:Int)]:=by
 have e:idxS ⟨#[45,60,62,33,61,46,91,93,40,41,58,59,44,43,42,38,124,63,39]⟩ c=Lib.indexByte [45,60,62,33,61,46,91,93,40,41,58,59,44,43,42,38,124,63,39] c.toNat.toUInt8:=firstIdx_eq _ _
 rw[e,ge_iff_le,indexByte_mem]
 obtain⟨n,rfl⟩:=Int.eq_ofNat_of_zero_le h.1
 have hn:n<256:=by omega
 have key:∀m:Nat,m<256→((n.toUInt8=m.toUInt8)↔((n:Int)=(m:Int))):=by
  intro m hm
  constructor
  ·intro he
   have:=congrArg UInt8.toNat he
   simp at this
   omega
  ·intro he
   have:n=m:=by omega
   rw[this]
 simp only[List.mem_cons,List.not_mem_nil,or_false,Int.toNat_natCast]
 have k1:=key 45 (by omega);have k2:=key 60 (by omega);have k3:=key 62 (by omega);have k4:=key 33 (by omega);have k5:=key 61 (by omega)
 have k6:=key 46 (by omega);have k7:=key 91 (by omega);have k8:=key 93 (by omega);have k9:=key 40 (by omega);have k10:=key 41 (by omega)
 have k11:=key 58 (by omega);have k12:=key 59 (by omega);have k13:=key 44 (by omega);have k14:=key 43 (by omega);have k15:=key 42 (by omega)
 have k16:=key 38 (by omega);have k17:=key 124 (by omega);have k18:=key 63 (by omega);have k19:=key 39 (by omega)
 exact or_congr k1 (or_congr k2 (or_congr k3 (or_congr k4 (or_congr k5 (or_congr k6 (or_congr k7 (or_congr k8 (or_congr k9 (or_congr k10 (or_congr k11 (or_congr k12 (or_congr k13 (or_congr k14 (or_congr k15 (or_congr k16 (or_congr k17 (or_congr k18 k19)))))))))))))))))
theorem env8:EnvOk glS Tryz.prog E8:=env7.fn mixed Tryz.func126 (by kernel_rfl) fun β args k r hr=>by
 unfold cKind at hr
 split at hr
 ·rename_i c
  unfold chkK at hr
  split at hr
  ·rename_i hc
   refine⟨_,_,hr,fun q=>?_⟩
   rw[F33.start]
   have hi:=idx_sign c hc
   unfold kindI
   simp only[decide_eq_true_eq,beq_iff_eq,hi]
   repeat' split
   all_goals first|rfl|omega
  ·cases hr
 ·cases hr
theorem env8b:EnvOk glS Tryz.prog E8b:=env8.fn mixed Tryz.func128 (by kernel_rfl) fun β args k r hr=>by
 unfold cMay at hr
 split at hr
 ·rename_i c
  refine⟨_,_,hr,fun q=>?_⟩
  rw[F35.start]
  unfold may1
  split
  ·rename_i h;rw[h];rfl
  ·rename_i h;rw[Bool.not_eq_true]at h;rw[h];rfl
 ·cases hr
theorem env9:EnvOk glS Tryz.prog E9:=env8b.fn mixed Tryz.func129 (by kernel_rfl) fun β args k r hr=>by
 unfold cMay at hr
 split at hr
 ·rename_i c
  exact⟨_,_,hr,fun q=>F36.start _ q⟩
 ·cases hr
end Go.Sd
namespace Go.Sd
open Go Go.Cm Go.Proofs Go.Sc
set_option maxRecDepth 100000
theorem runL_nil (p:Int→Bool):runL p []=0:=rfl
theorem runL_cons (p:Int→Bool) (c:UInt8) (r:T8):runL p (c::r)=if p (kindI c.toNat)=true then runL p r+1 else 0:=by
 unfold runL
 rw[List.takeWhile_cons]
 split<;>rfl
theorem drop_at {L:T8} {i:Nat} (h:i<L.length):∃c,L[i]? =some c∧L.drop i=c::L.drop (i+1):=
 ⟨L[i],List.getElem?_eq_getElem h,List.drop_eq_getElem_cons h⟩
theorem byte_lt (c:UInt8):(0:Int)≤(c.toNat:Int)∧(c.toNat:Int)<256:=⟨by omega,by have:=c.toNat_lt;omega⟩
theorem run_a (L:T8) (hL:L.length≤1152921504606846976) (a:Nat):∀(n x:Nat),a+x+n=L.length→
  Lp F34a.L0 (F34a.s0 (B L) a x)=some (.exit 0,F34a.e0x0 ((x+runL may1 (L.drop (a+x)):Nat)))
 |0,x,hn=>by
  have hw:IntKind.wrap .i64 ((a:Int)+(x:Int))=((a+x:Nat):Int):=by rw[wrap_id (by omega) (by omega)];omega
  refine Lp_exit ((F34a.round0 _ _ _).trans ?_)
  rw[hw,B_size,if_neg (by simp;omega),List.drop_eq_nil_of_le (by omega),runL_nil]
  rfl
 |n+1,x,hn=>by
  have hw:IntKind.wrap .i64 ((a:Int)+(x:Int))=((a+x:Nat):Int):=by rw[wrap_id (by omega) (by omega)];omega
  have hw1:IntKind.wrap .i64 ((x:Int)+1)=((x+1:Nat):Int):=by rw[wrap_id (by omega) (by omega)];omega
  obtain⟨c,hc,hd⟩:=drop_at (L:=L) (i:=a+x) (by omega)
  have hrd:=F34a.round0 (B L) a x
  rw[hw,hw1,B_size,if_pos (by simp;omega),if_pos (by omega),Int.toNat_natCast,B_get,hc]at hrd
  simp only[if_pos (byte_lt c)]at hrd
  rw[hd,runL_cons]
  by_cases h:may1 (kindI c.toNat)=true
  ·rw[if_pos (by simpa[may1]using h)]at hrd
   rw[if_pos h]
   have ih:=run_a L hL a n (x+1) (by omega)
   rw[show a+(x+1)=a+x+1 by omega]at ih
   rw[show x+(runL may1 (L.drop (a+x+1))+1)=x+1+runL may1 (L.drop (a+x+1))by omega]
   exact Lp_step hrd ih
  ·rw[if_neg (by simpa[may1]using h)]at hrd
   rw[if_neg h]
   exact Lp_exit hrd
theorem run_b (L:T8) (hL:L.length≤1152921504606846976) (a:Nat):∀(n x:Nat),a+x+n=L.length→
  Lp F34b.L0 (F34b.s0 (B L) a x)=some (.exit 0,F34b.e0x0 ((x+runL may2 (L.drop (a+x)):Nat)))
 |0,x,hn=>by
  have hw:IntKind.wrap .i64 ((a:Int)+(x:Int))=((a+x:Nat):Int):=by rw[wrap_id (by omega) (by omega)];omega
  refine Lp_exit ((F34b.round0 _ _ _).trans ?_)
  rw[hw,B_size,if_neg (by simp;omega),List.drop_eq_nil_of_le (by omega),runL_nil]
  rfl
 |n+1,x,hn=>by
  have hw:IntKind.wrap .i64 ((a:Int)+(x:Int))=((a+x:Nat):Int):=by rw[wrap_id (by omega) (by omega)];omega
  have hw1:IntKind.wrap .i64 ((x:Int)+1)=((x+1:Nat):Int):=by rw[wrap_id (by omega) (by omega)];omega
  obtain⟨c,hc,hd⟩:=drop_at (L:=L) (i:=a+x) (by omega)
  have hrd:=F34b.round0 (B L) a x
  rw[hw,hw1,B_size,if_pos (by simp;omega),if_pos (by omega),Int.toNat_natCast,B_get,hc]at hrd
  simp only[if_pos (byte_lt c)]at hrd
  rw[hd,runL_cons]
  by_cases h:may2 (kindI c.toNat)=true
  ·rw[if_pos (by simpa[may2]using h)]at hrd
   rw[if_pos h]
   have ih:=run_b L hL a n (x+1) (by omega)
   rw[show a+(x+1)=a+x+1 by omega]at ih
   rw[show x+(runL may2 (L.drop (a+x+1))+1)=x+1+runL may2 (L.drop (a+x+1))by omega]
   exact Lp_step hrd ih
  ·rw[if_neg (by simpa[may2]using h)]at hrd
   rw[if_neg h]
   exact Lp_exit hrd
theorem env10:EnvOk glS Tryz.prog E10:=env9.fn mixed Tryz.func127 (by kernel_rfl) fun β args k r hr=>by
 unfold cRun at hr
 split at hr
 ·rename_i s a g
  unfold chkK at hr
  split at hr
  ·rename_i hi
   obtain⟨h1,h2,h3⟩:=hi
   rw[B_of s]at hr h1 h3 ⊢
   generalize s.data.toList=L at*
   obtain⟨a,rfl⟩:=Int.eq_ofNat_of_zero_le h2
   rw[B_list,Int.toNat_natCast]at hr
   unfold small at h1
   rw[B_size]at h1 h3
   split at hr
   ·rename_i hg
    rw[Cm.beq_true]at hg
    subst hg
    refine⟨_,_,hr,fun q=>?_⟩
    have:=run_a L h1 a (L.length - a) 0 (by omega)
    rw[show((0:Nat):Int)=0 from rfl]at this
    rw[F34a.start,goLp_of this,F34a.behind0x0]
    simp
   ·split at hr
    ·rename_i hg
     rw[Cm.beq_true]at hg
     subst hg
     refine⟨_,_,hr,fun q=>?_⟩
     have:=run_b L h1 a (L.length - a) 0 (by omega)
     rw[show((0:Nat):Int)=0 from rfl]at this
     rw[F34b.start,goLp_of this,F34b.behind0x0]
     simp
    ·cases hr
  ·cases hr
 ·cases hr
theorem wrap_u8 {n:Int} (h1:0≤n) (h2:n<256):IntKind.wrap .u8 n=n:=by
 have e:(2:Int) ^ (IntKind.bits .u8)=256:=rfl
 have e2:IntKind.signed .u8=false:=rfl
 simp only[IntKind.wrap,e,e2,Bool.false_and,Bool.false_eq_true,if_false]
 omega
theorem dig (L:T8) (hL:L.length≤1152921504606846976) (hd:digitsL L):∀(k i:Nat) (n:Int),i+k=L.length→0≤n→n≤9223372036854775807→
  Lp F30.L0 (F30.s0 (B L) n i)=match valI (L.drop i) n with|some m=>some (.exit 0,F30.e0x0 m)|none=>some (.ret,F30.e0r)
 |0,i,n,hk,h0,h1=>by
  have hrd:=F30.round0 (B L) n i
  rw[B_size,if_neg (by simp;omega)]at hrd
  rw[List.drop_eq_nil_of_le (by omega)]
  exact Lp_exit hrd
 |k+1,i,n,hk,h0,h1=>by
  have hrd:=F30.round0 (B L) n i
  obtain⟨c,hc,hdr⟩:=drop_at (L:=L) (i:=i) (by omega)
  have hcd:=hd c (List.mem_of_getElem? hc)
  rw[B_size,if_pos (by simp;omega),if_pos (by omega),Int.toNat_natCast,B_get,hc]at hrd
  have e1:IntKind.wrap .u8 ((c.toNat:Int) - 48)=(c.toNat:Int) - 48:=wrap_u8 (by omega) (by omega)
  have e2:IntKind.wrap .i64 ((c.toNat:Int) - 48)=(c.toNat:Int) - 48:=wrap_id (by omega) (by omega)
  have e3:IntKind.wrap .i64 (9223372036854775807 - ((c.toNat:Int) - 48))=9223372036854775807 - ((c.toNat:Int) - 48):=wrap_id (by omega) (by omega)
  have e4:IntKind.wrap .i64 ((9223372036854775807 - ((c.toNat:Int) - 48)).tdiv 10)=(9223372036854775807 - ((c.toNat:Int) - 48)).tdiv 10:=by
   rw[Int.tdiv_eq_ediv_of_nonneg (by omega)];exact wrap_id (by omega) (by omega)
  have e5:IntKind.wrap .i64 ((i:Int)+1)=((i+1:Nat):Int):=by rw[wrap_id (by omega) (by omega)];omega
  simp only[e1,e2,e3,e4,e5]at hrd
  rw[hdr]
  unfold valI
  by_cases h:n>(9223372036854775807 - ((c.toNat:Int) - 48)).tdiv 10
  ·rw[if_pos (by simpa using h)]at hrd
   rw[if_pos h]
   exact Lp_exit hrd
  ·rw[if_neg (by simpa using h)]at hrd
   rw[if_neg h]
   have h':=h
   rw[Int.tdiv_eq_ediv_of_nonneg (by omega)]at h'
   have e6:IntKind.wrap .i64 (10*n)=10*n:=wrap_id (by omega) (by omega)
   have e7:IntKind.wrap .i64 (10*n+((c.toNat:Int) - 48))=10*n+((c.toNat:Int) - 48):=wrap_id (by omega) (by omega)
   rw[e6,e7]at hrd
   have ih:=dig L hL hd k (i+1) (10*n+((c.toNat:Int) - 48)) (by omega) (by omega) (by omega)
   split at ih
   ·exact Lp_step hrd ih
   ·exact Lp_step hrd ih
theorem env11:EnvOk glS Tryz.prog E11:=env10.fn mixed Tryz.func130 (by kernel_rfl) fun β args k r hr=>by
 unfold cDigits at hr
 split at hr
 ·rename_i s
  unfold chkK at hr
  split at hr
  ·rename_i hi
   obtain⟨h1,h2⟩:=hi
   rw[B_of s]at hr h1 h2 ⊢
   generalize s.data.toList=L at*
   rw[B_list]at hr h2
   unfold small at h1
   rw[B_size]at h1
   have hd:=dig L h1 h2 L.length 0 0 (by omega) (by omega) (by omega)
   rw[List.drop_zero,show((0:Nat):Int)=0 from rfl]at hd
   split at hr
   ·rename_i n hn
    rw[hn]at hd
    exact⟨_,_,hr,fun q=>by rw[F30.start,goLp_of hd,F30.behind0x0]⟩
   ·rename_i hn
    rw[hn]at hd
    exact⟨_,_,hr,fun q=>by rw[F30.start,goLp_of hd,F30.behind0r]⟩
  ·cases hr
 ·cases hr
theorem idx_take (l:T8) (c:UInt8):Lib.indexByte l c=if(l.takeWhile fun x=>x != c).length<l.length then((l.takeWhile fun x=>x != c).length:Int)else -1:=by
 induction l with
 |nil=>simp[Lib.indexByte]
 |cons b l ih=>
  unfold Lib.indexByte
  rw[List.takeWhile_cons]
  by_cases h:b=c
  ·subst h;simp
  ·simp only[bne_iff_ne,ne_eq,h,not_false_eq_true,if_true,beq_iff_eq,if_false]
   rw[ih]
   by_cases h2:(l.takeWhile fun x=>x != c).length<l.length
   ·rw[if_pos h2,if_neg (by omega),if_pos (by simp;omega)]
    simp
   ·rw[if_neg h2,if_pos rfl,if_neg (by simp;omega)]
def okQ (c:UInt8):Bool:=32≤c.toNat&&c.toNat≤126
theorem quo (L:T8) (hL:L.length≤1152921504606846976) (m:Nat) (hm:m<L.length) (hx:idxS ((B L).extract 1 (Int.toNat ((B L).size:Int))) 34=(m:Int)):∀(k i:Nat),i+k=m+1→
  Lp F38.L0 (F38.s0 (B L) i)=if((L.drop i).take k).all okQ=true then some (.exit 0,F38.e0x0 (B L))else some (.ret,F38.e0r)
 |0,i,hk=>by
  have hrd:=F38.round0 (B L) i
  rw[hx,if_neg (by simp;omega)]at hrd
  simpa using Lp_exit hrd
 |k+1,i,hk=>by
  have hrd:=F38.round0 (B L) i
  obtain⟨c,hc,hdr⟩:=drop_at (L:=L) (i:=i) (by omega)
  have e5:IntKind.wrap .i64 ((i:Int)+1)=((i+1:Nat):Int):=by rw[wrap_id (by omega) (by omega)];omega
  rw[hx,if_pos (by simp;omega),if_pos (by omega),Int.toNat_natCast,B_get,hc,e5]at hrd
  simp only[decide_eq_true_eq]at hrd
  rw[hdr,List.take_succ_cons,List.all_cons]
  by_cases h1:(c.toNat:Int)<32
  ·rw[if_pos h1]at hrd
   rw[if_neg (by simp[okQ];omega)]
   exact Lp_exit hrd
  ·rw[if_neg h1,if_pos (by omega)]at hrd
   by_cases h2:(c.toNat:Int)>126
   ·rw[if_pos h2]at hrd
    rw[if_neg (by simp[okQ];omega)]
    exact Lp_exit hrd
   ·rw[if_neg h2]at hrd
    have ih:=quo L hL m hm hx k (i+1) (by omega)
    have hok:okQ c=true:=by simp[okQ];omega
    rw[hok,Bool.true_and]
    split at ih
    ·rename_i h;rw[if_pos h];exact Lp_step hrd ih
    ·rename_i h;rw[if_neg h];exact Lp_step hrd ih
theorem env12:EnvOk glS Tryz.prog E12:=env11.fn mixed Tryz.func132 (by kernel_rfl) fun β args k r hr=>by
 unfold cQuoted at hr
 split at hr
 ·rename_i s
  unfold chkK at hr
  split at hr
  ·rename_i hi
   obtain⟨h1,h2⟩:=hi
   rw[B_of s]at hr h1 h2 ⊢
   generalize s.data.toList=L at*
   rw[B_list]at hr
   unfold small at h1
   rw[B_size]at h1 h2
   refine⟨_,_,hr,fun q=>?_⟩
   cases L with
   |nil=>simp at h2
   |cons b R=>
    have hidx:idxS ((B (b::R)).extract 1 (Int.toNat ((B (b::R)).size:Int))) 34=Lib.indexByte R 34:=by
     rw[B_size,B_cut]
     have:=firstIdx_eq R 34
     simp only[List.length_cons,Int.toNat_natCast,List.drop_succ_cons,List.drop_zero,Nat.add_sub_cancel,List.take_length]
     exact this
    rw[F38.start,hidx,if_pos (by rw[B_size];simp;omega)]
    rw[idx_take]
    simp only[quotedL]
    generalize hn:(R.takeWhile fun c=>c != 34).length=n
    have hle:n≤R.length:=by rw[←hn];exact(List.takeWhile_sublist _).length_le
    by_cases hlt:n<R.length
    ·simp only[if_pos hlt,decide_eq_true_eq]
     rw[if_neg (by omega:¬R.length≤n)]
     by_cases h1n:n<1
     ·rw[if_pos (by omega),if_pos (.inl h1n)];rfl
     ·rw[if_neg (by omega)]
      by_cases h2n:32<n
      ·rw[if_pos (by omega),if_pos (.inr h2n)];rfl
      ·rw[if_neg (by omega),if_neg (by omega)]
       have hx:=hidx
       rw[idx_take,hn,if_pos hlt]at hx
       have hq:=quo (b::R) h1 n (by simp;omega) hx n 1 (by omega)
       rw[show((1:Nat):Int)=1 from rfl]at hq
       simp only[List.drop_succ_cons,List.drop_zero]at hq
       change _=q [.d false 0 (.int .i64 ((if((R.take n).all okQ)=true then n+2 else 0:Nat):Int))] []
       by_cases ha:((R.take n).all okQ)=true
       ·rw[if_pos ha]at hq ⊢
        rw[goLp_of hq,F38.behind0x0,hidx,idx_take,hn,if_pos hlt,wrap_id (by omega) (by omega)]
        rfl
       ·rw[if_neg ha]at hq ⊢
        rw[goLp_of hq,F38.behind0r];rfl
    ·simp only[if_neg hlt]
     rw[if_pos (by simp),if_pos (by omega)];rfl
  ·cases hr
 ·cases hr
theorem hasP_list (l:T8) (p:T8):hasP (B l) ⟨p.toArray⟩=p.isPrefixOf l:=by
 have:(⟨p.toArray⟩:ByteArray)=B p:=rfl
 rw[this]
 unfold hasP;rw[B_list,B_list]
theorem env13:EnvOk glS Tryz.prog E13:=env12.fn mixed Tryz.func133 (by kernel_rfl) fun β args k r hr=>by
 unfold cMark at hr
 split at hr
 ·rename_i s
  unfold chkK at hr
  split at hr
  ·rename_i hi
   rw[B_of s]at hr hi ⊢
   generalize s.data.toList=L at*
   rw[B_list]at hr
   rw[B_size]at hi
   refine⟨_,_,hr,fun q=>?_⟩
   have hl:Lp F39.L0 (F39.s0 (B L) 0)=some (if marks.any (·.isPrefixOf L)=true then(.ret,F39.e0r)else(.exit 0,F39.e0x0 (B L))):=by
    have r0:=F39.round0_0 (B L);have r1:=F39.round0_1 (B L);have r2:=F39.round0_2 (B L);have r3:=F39.round0_3 (B L)
    have r4:=F39.round0_4 (B L);have r5:=F39.round0_5 (B L);have r6:=F39.round0_6 (B L)
    have e0:=hasP_list L [45,62];have e1:=hasP_list L [60,61];have e2:=hasP_list L [62,61];have e3:=hasP_list L [33,61]
    have e4:=hasP_list L [61,62];have e5:=hasP_list L [46,46]
    rw[e0]at r0;rw[e1]at r1;rw[e2]at r2;rw[e3]at r3;rw[e4]at r4;rw[e5]at r5
    simp only[marks,List.any_cons,List.any_nil,Bool.or_false]
    by_cases h0:List.isPrefixOf [45,62] L=true
    ·rw[if_pos h0]at r0;rw[h0];exact Lp_exit r0
    rw[if_neg h0]at r0;rw[Bool.not_eq_true]at h0;rw[h0]
    refine Lp_step r0 ?_
    by_cases h1:List.isPrefixOf [60,61] L=true
    ·rw[if_pos h1]at r1;rw[h1];exact Lp_exit r1
    rw[if_neg h1]at r1;rw[Bool.not_eq_true]at h1;rw[h1]
    refine Lp_step r1 ?_
    by_cases h2:List.isPrefixOf [62,61] L=true
    ·rw[if_pos h2]at r2;rw[h2];exact Lp_exit r2
    rw[if_neg h2]at r2;rw[Bool.not_eq_true]at h2;rw[h2]
    refine Lp_step r2 ?_
    by_cases h3:List.isPrefixOf [33,61] L=true
    ·rw[if_pos h3]at r3;rw[h3];exact Lp_exit r3
    rw[if_neg h3]at r3;rw[Bool.not_eq_true]at h3;rw[h3]
    refine Lp_step r3 ?_
    by_cases h4:List.isPrefixOf [61,62] L=true
    ·rw[if_pos h4]at r4;rw[h4];exact Lp_exit r4
    rw[if_neg h4]at r4;rw[Bool.not_eq_true]at h4;rw[h4]
    refine Lp_step r4 ?_
    by_cases h5:List.isPrefixOf [46,46] L=true
    ·rw[if_pos h5]at r5;rw[h5];exact Lp_exit r5
    rw[if_neg h5]at r5;rw[Bool.not_eq_true]at h5;rw[h5]
    refine Lp_step r5 ?_
    exact Lp_exit r6
   rw[F39.start]
   unfold markL
   by_cases ha:marks.any (·.isPrefixOf L)=true
   ·rw[if_pos ha]at hl ⊢
    rw[goLp_of hl,F39.behind0r];rfl
   ·rw[if_neg ha]at hl ⊢
    rw[goLp_of hl,F39.behind0x0,B_get]
    cases L with
    |nil=>simp at hi
    |cons c R=>
     simp only[List.getElem?_cons_zero,List.head?_cons,Option.some.injEq]
     by_cases h:c=46
     ·subst h;simp
     ·rw[if_neg (fun h2=>h (by
       have h3:((c.toNat:Int))=46:=by simpa using h2
       exact UInt8.toNat_inj.1 (by simpa using(by omega:c.toNat=46)))),if_neg h]
      rfl
  ·cases hr
 ·cases hr
end Go.Sd
namespace Go.Sd
open Go Go.Cm Go.Proofs Go.Sc
set_option maxRecDepth 100000
def lineL (l:T8):Nat:=(l.takeWhile fun c=>c != 10).length
theorem lineL_le (l:T8):lineL l≤l.length:=(List.takeWhile_sublist _).length_le
theorem B_rest (L:T8) (i:Nat):(B L).extract (Int.toNat (i:Int)) (Int.toNat ((B L).size:Int))=B (L.drop i):=by
 rw[B_size,B_cut,Int.toNat_natCast,Int.toNat_natCast,List.take_of_length_le (by simp)]
theorem blk_j (L:T8) (hL:L.length≤1152921504606846976) (a:Nat) (b f:Bool) (i:Nat) (hi:i<L.length):
  applyK F23.X (finR F23.X [(0,34)] (sub [1,1,0,0,0] (body Tryz.f115)))
   [Kf.seq [(2,34),(1,35),(0,34)] (sub [1,1,0,0,0,1,0,0,0,1] (body Tryz.f115)) 34,Kf.block 2 34,
    Kf.seq [(1,35),(0,34)] (sub [1,1,0,0,0,1,0,1] (body Tryz.f115)) 35,Kf.block 1 35] Ex.norm (F23.j0 (B L) a b f i)=
  if b=true then some (.inl (F23.s0 (B L) a false ((i+1:Nat))))else
  if List.isPrefixOf [47,47] (L.drop i)=true then some (.inl (F23.s0 (B L) a false ((i+lineL (L.drop i):Nat))))else some (.inr (.exit 0,F23.e0x0 a f i)):=by
 rw[F23.j0_eq]
 have e5:IntKind.wrap .i64 ((i:Int)+1)=((i+1:Nat):Int):=by rw[wrap_id (by omega) (by omega)];omega
 rw[e5]
 cases b with
 |true=>rfl
 |false=>
  simp only[Bool.false_eq_true,if_false]
  have hb:(0:Int)≤((B L).size:Int)∧((B L).size:Int)≤((B L).size:Int)∧(0:Int)≤(i:Int)∧(i:Int)≤((B L).size:Int):=by rw[B_size];omega
  rw[if_pos hb]
  simp only[B_rest,if_pos hb]
  have hp:hasP (B (L.drop i)) ⟨#[47,47]⟩=List.isPrefixOf [47,47] (L.drop i):=hasP_list _ _
  rw[hp]
  by_cases h:List.isPrefixOf [47,47] (L.drop i)=true
  ·rw[if_pos h,if_pos h,if_pos (by unfold small;rw[B_size];simp;omega)]
   have hix:indexS (B (L.drop i)) (UInt8.ofNat 10)=if lineL (L.drop i)<(L.drop i).length then(lineL (L.drop i):Int)else -1:=by
    unfold indexS;rw[B_list];exact idx_take _ _
   have hle:=lineL_le (L.drop i)
   have hlen:(L.drop i).length=L.length - i:=List.length_drop
   rw[hix]
   by_cases h2:lineL (L.drop i)<(L.drop i).length
   ·simp only[if_pos h2,Int.toNat_natCast,B_size,B_cut,List.drop_zero,Nat.sub_zero,List.length_take]
    have e1:(Nat.ble (L.drop i).length (lineL (L.drop i))||decide ((lineL (L.drop i):Int)<0))=false:=by
     rw[Bool.or_eq_false_iff]
     refine⟨?_,by simp⟩
     rw[Bool.eq_false_iff];intro h3;rw[Nat.ble_eq]at h3;omega
    rw[e1]
    simp only
    rw[wrap_id (by omega) (by omega),Nat.min_eq_left hle]
    rfl
   ·simp only[if_neg h2,B_size]
    have e1:(Nat.ble (L.drop i).length (Int.toNat (-1))||decide ((-1:Int)<0))=true:=by simp
    rw[e1]
    simp only
    rw[wrap_id (by omega) (by omega),show lineL (L.drop i)=(L.drop i).length by omega]
    rfl
  ·rw[if_neg h,if_neg h]
theorem blk_round (L:T8) (hL:L.length≤1152921504606846976) (a:Nat) (f:Bool) (i:Nat) (hi:i<L.length) (c:UInt8) (hc:L[i]? =some c):
  F23.L0 (F23.s0 (B L) a f i)=if isWs c=true then some (.inl (F23.s0 (B L) a false ((i+1:Nat))))else
  if List.isPrefixOf [47,47] (L.drop i)=true then some (.inl (F23.s0 (B L) a false ((i+lineL (L.drop i):Nat))))else some (.inr (.exit 0,F23.e0x0 a f i)):=by
 refine(F23.round0 _ _ _ _).trans ?_
 have key:∀n:Nat,n<256→((((c.toNat:Int)==(n:Int))=(c==n.toUInt8))):=by
  intro n hn
  rw[Bool.eq_iff_iff]
  simp only[beq_iff_eq]
  constructor
  ·intro h
   have:c.toNat=n:=by omega
   exact UInt8.toNat_inj.1 (by simp;omega)
  ·intro h;rw[h];simp;omega
 have k1:=key 32 (by omega);have k2:=key 9 (by omega);have k3:=key 10 (by omega);have k4:=key 13 (by omega)
 have k1:((c.toNat:Int)==32)=(c==32):=k1
 have k2:((c.toNat:Int)==9)=(c==9):=k2
 have k3:((c.toNat:Int)==10)=(c==10):=k3
 have k4:((c.toNat:Int)==13)=(c==13):=k4
 rw[if_pos (by rw[B_size];simp;omega),if_pos (by omega),Int.toNat_natCast,B_get,hc]
 simp only[k1,k2,k3,k4,if_pos (show(0:Int)≤(i:Int)by omega)]
 rw[blk_j L hL a _ f i hi,blk_j L hL a _ f i hi,blk_j L hL a _ f i hi,blk_j L hL a _ f i hi]
 unfold isWs
 cases (c==32)<;>cases (c==9)<;>cases (c==10)<;>cases (c==13)<;>rfl
theorem blankL_nil:blankL []=0:=by rw[blankL]
theorem blankL_ws (c:UInt8) (r:T8) (h:isWs c=true):blankL (c::r)=1+blankL r:=by rw[blankL.eq_def];simp only[h,if_true]
theorem blankL_line (q:T8):blankL (47::47::q)=lineL (47::47::q)+blankL ((47::47::q:T8).drop (lineL (47::47::q))):=by
 have e:lineL (47::47::q)=lineL q+2:=by
  unfold lineL
  rw[List.takeWhile_cons,if_pos (by decide),List.takeWhile_cons,if_pos (by decide)]
  simp
 rw[blankL.eq_def]
 have h:isWs 47=false:=by decide
 simp only[h,Bool.false_eq_true,if_false]
 rw[e]
 simp only[List.drop_succ_cons,lineL]
 omega
theorem blankL_no (c:UInt8) (r:T8) (h:isWs c=false) (h2:List.isPrefixOf [47,47] (c::r)=false):blankL (c::r)=0:=by
 rw[blankL.eq_def]
 simp only[h,Bool.false_eq_true,if_false]
 split
 ·rename_i q
  simp[List.isPrefixOf]at h2
 ·rfl
theorem blk (L:T8) (hL:L.length≤1152921504606846976) (a:Nat):∀(n:Nat) (f:Bool) (i:Nat),L.length - i≤n→i≤L.length→
  ∃f',Lp F23.L0 (F23.s0 (B L) a f i)=some (.exit 0,F23.e0x0 a f' ((i+blankL (L.drop i):Nat)))
 |n,f,i,hn,hi=>by
  by_cases he:i=L.length
  ·refine⟨f,Lp_exit ((F23.round0 _ _ _ _).trans ?_)⟩
   rw[if_neg (by rw[B_size];simp;omega),List.drop_eq_nil_of_le (by omega),blankL_nil];rfl
  cases n with
  |zero=>omega
  |succ n=>
   obtain⟨c,hc,hd⟩:=drop_at (L:=L) (i:=i) (by omega)
   have hr:=blk_round L hL a f i (by omega) c hc
   by_cases h1:isWs c=true
   ·rw[if_pos h1]at hr
    obtain⟨f',ih⟩:=blk L hL a n false (i+1) (by omega) (by omega)
    rw[hd,blankL_ws _ _ h1]
    rw[show i+(1+blankL (L.drop (i+1)))=i+1+blankL (L.drop (i+1))by omega]
    exact⟨f',Lp_step hr ih⟩
   ·rw[if_neg h1]at hr
    rw[Bool.not_eq_true]at h1
    by_cases h2:List.isPrefixOf [47,47] (L.drop i)=true
    ·rw[if_pos h2]at hr
     have hlen:(L.drop i).length=L.length - i:=List.length_drop
     have hle:=lineL_le (L.drop i)
     rw[List.isPrefixOf_iff_prefix]at h2
     obtain⟨q,hq⟩:=h2
     have hq:L.drop i=47::47::q:=hq.symm
     have hb:blankL (L.drop i)=lineL (L.drop i)+blankL (L.drop (i+lineL (L.drop i))):=by
      have:=blankL_line q
      rw[←hq,List.drop_drop]at this
      exact this
     have hpos:2≤lineL (L.drop i):=by
      rw[hq];unfold lineL
      rw[List.takeWhile_cons,if_pos (by decide),List.takeWhile_cons,if_pos (by decide)]
      simp
     obtain⟨f',ih⟩:=blk L hL a n false (i+lineL (L.drop i)) (by omega) (by omega)
     refine⟨f',?_⟩
     rw[hb,show i+(lineL (L.drop i)+blankL (L.drop (i+lineL (L.drop i))))=i+lineL (L.drop i)+blankL (L.drop (i+lineL (L.drop i)))by omega]
     exact Lp_step hr ih
    ·rw[if_neg h2]at hr
     rw[Bool.not_eq_true,hd]at h2
     rw[hd,blankL_no _ _ h1 h2]
     exact⟨f,Lp_exit hr⟩
theorem blankL_le:∀(n:Nat) (l:T8),l.length≤n→blankL l≤l.length
 |n,[],_=>by rw[blankL_nil];exact Nat.le_refl _
 |0,c::r,h=>by simp at h
 |n+1,c::r,h=>by
  by_cases h1:isWs c=true
  ·rw[blankL_ws _ _ h1]
   have:=blankL_le n r (by simpa using h)
   simp;omega
  ·rw[Bool.not_eq_true]at h1
   by_cases h2:List.isPrefixOf [47,47] (c::r)=true
   ·rw[List.isPrefixOf_iff_prefix]at h2
    obtain⟨q,hq⟩:=h2
    have hq:c::r=47::47::q:=hq.symm
    rw[hq,blankL_line]
    have hle:=lineL_le (47::47::q)
    have h3:2≤lineL (47::47::q):=by
     unfold lineL
     rw[List.takeWhile_cons,if_pos (by decide),List.takeWhile_cons,if_pos (by decide)]
     simp
    have hh:(47::47::q).length≤n+1:=by rw[←hq];exact h
    have:=blankL_le n ((47::47::q:T8).drop (lineL (47::47::q))) (by rw[List.length_drop];omega)
    rw[List.length_drop]at this
    omega
   ·rw[Bool.not_eq_true]at h2
    rw[blankL_no _ _ h1 h2];omega
theorem env14:EnvOk glS Tryz.prog E14:=env13.fn mixed Tryz.func115 (by kernel_rfl) fun β args k r hr=>by
 unfold cBlank at hr
 split at hr
 ·rename_i s a
  unfold chkK at hr
  split at hr
  ·rename_i hi
   obtain⟨h1,h2,h3⟩:=hi
   rw[B_of s]at hr h1 h3 ⊢
   generalize s.data.toList=L at*
   obtain⟨a,rfl⟩:=Int.eq_ofNat_of_zero_le h2
   rw[B_list,Int.toNat_natCast]at hr
   unfold small at h1
   rw[B_size]at h1 h3
   refine⟨_,_,hr,fun q=>?_⟩
   obtain⟨f',hl⟩:=blk L h1 a L.length true a (by omega) (by omega)
   have hle:=blankL_le _ (L.drop a) (Nat.le_refl _)
   rw[List.length_drop]at hle
   rw[F23.start,goLp_of hl,F23.behind0x0,wrap_id (by omega) (by omega)]
   congr 5
   omega
  ·cases hr
 ·cases hr
theorem env15:EnvOk glS Tryz.prog E15:=env14.fn mixed Tryz.func131 (by kernel_rfl) fun β args k r hr=>by
 unfold cWrong at hr
 split at hr
 ·exact⟨_,_,hr,fun q=>F37.start _ _ q⟩
 ·cases hr
end Go.Sd
namespace Go.Sd
open Go Go.Cm Go.Proofs Go.Sc
set_option maxRecDepth 100000
theorem runL_le (p:Int→Bool) (l:T8):runL p l≤l.length:=(List.takeWhile_sublist _).length_le
theorem quotedL_le (l:T8):quotedL l≤l.length:=by
 unfold quotedL
 split
 ·omega
 ·rename_i b r
  have h1:(r.takeWhile fun c=>c != 34).length≤r.length:=(List.takeWhile_sublist _).length_le
  simp only[]
  repeat' split
  all_goals simp only[List.length_cons]
  all_goals omega
theorem quotedL_cases (l:T8):quotedL l=0∨3≤quotedL l:=by
 unfold quotedL
 split
 ·exact .inl rfl
 ·simp only[]
  repeat' split
  all_goals first|exact .inl rfl|(right;omega)
theorem markL_le (l:T8) (h:l≠[]):markL l≤l.length:=by
 unfold markL
 split
 ·rename_i h2
  rw[List.any_eq_true]at h2
  obtain⟨m,hm,hp⟩:=h2
  rw[List.isPrefixOf_iff_prefix]at hp
  have:=hp.length_le
  have h3:m.length=2:=by
   simp only[marks,List.mem_cons,List.not_mem_nil,or_false]at hm
   rcases hm with rfl|rfl|rfl|rfl|rfl|rfl<;>rfl
  omega
 ·have:0<l.length:=List.length_pos_iff.2 h
  split<;>omega
theorem digits_run (l:T8):digitsL (l.take (runL may2 l)):=by
 intro c hc
 have h:l.take (runL may2 l)=l.takeWhile fun c=>may2 (kindI c.toNat):=by
  unfold runL
  exact(List.prefix_iff_eq_take.1 (List.takeWhile_prefix _)).symm
 rw[h]at hc
 have h2:=List.all_takeWhile (p:=fun c:UInt8=>may2 (kindI c.toNat)) (l:=l)
 rw[List.all_eq_true]at h2
 have h3:=h2 c hc
 simp only[may2,kindI,beq_iff_eq]at h3
 split at h3
 ·omega
 ·split at h3
  ·omega
  ·split at h3
   ·omega
   ·split at h3<;>omega
theorem oneL_eq {l r:T8} {c:UInt8} (h:l=c::r):oneL l=
  if kindI c.toNat=1 then .inr (1,l.take (runL may1 l),runL may1 l)
  else if kindI c.toNat=2 then(if(valI (l.take (runL may2 l)) 0).isSome=true then .inr (2,l.take (runL may2 l),runL may2 l)else .inl 10)
  else if kindI c.toNat=3 then(if 0<quotedL l then .inr (3,(l.drop 1).take (quotedL l - 2),quotedL l)else .inl 20)
  else if kindI c.toNat=4 then(if markL l=0 then .inl 20 else .inr (4,l.take (markL l),markL l))
  else .inl 20:=by subst h;rfl
theorem env16:EnvOk glS Tryz.prog E16:=env15.fn mixed Tryz.func116 (by kernel_rfl) fun β args k r hr=>by
 unfold cOne at hr
 split at hr
 ·rename_i s a
  unfold chkK at hr
  split at hr
  ·rename_i hi
   obtain⟨⟨h1,h2,h3⟩,h4⟩:=hi
   rw[B_of s]at hr h1 h3 h4 ⊢
   generalize s.data.toList=L at*
   obtain⟨a,rfl⟩:=Int.eq_ofNat_of_zero_le h2
   rw[B_list,Int.toNat_natCast]at hr
   have hin:inS (B L) (a:Int):=⟨h1,h2,h3⟩
   unfold small at h1
   rw[B_size]at h1 h3 h4
   obtain⟨c,hc,hd⟩:=drop_at (L:=L) (i:=a) (by omega)
   have hlen:(L.drop a).length=L.length - a:=List.length_drop
   have cut:∀n:Nat,(B L).extract a (a+n)=B ((L.drop a).take n):=fun n=>by rw[B_cut,show a+n - a=n by omega]
   have hw:∀n:Nat,n≤(L.drop a).length→IntKind.wrap .i64 ((a:Int)+(n:Int))=((a+n:Nat):Int):=fun n hn=>by rw[wrap_id (by omega) (by omega)];omega
   have st:∀{γ:Type} (q:List TV→List TV→Option γ),evalF Tryz.prog E15 Tryz.f116 [TV.d true 0 (D.str (B L)),TV.d true 0 (D.int IntKind.i64 (a:Int))] q=_:=fun q=>F24.start (B L) a q
   simp only[if_pos (show(0:Int)≤(a:Int)by omega),Int.toNat_natCast,B_get,hc,if_pos (byte_lt c),B_list,if_pos hin]at st
   have hb:∀n:Nat,n≤(L.drop a).length→((0:Int)≤((a+n:Nat):Int)∧((a+n:Nat):Int)≤((B L).size:Int)∧(0:Int)≤(a:Int)∧(a:Int)≤((a+n:Nat):Int)):=fun n hn=>by rw[B_size];omega
   by_cases k1:kindI c.toNat=1
   ·have hn:=runL_le may1 (L.drop a)
    have ho:oneL (L.drop a)=.inr (1,(L.drop a).take (runL may1 (L.drop a)),runL may1 (L.drop a)):=by
     rw[oneL_eq hd,if_pos k1]
    have hpos:runL may1 (L.drop a)≠0:=by rw[hd,runL_cons,k1,if_pos (by decide)];omega
    rw[ho]at hr
    refine⟨_,_,hr,fun q=>?_⟩
    rw[st,if_pos (by simp[k1]),if_neg (by simp;omega),hw _ hn,if_pos (hb _ hn),Int.toNat_natCast,cut,k1]
    rfl
   simp only[if_neg (show ¬(kindI (c.toNat:Int)==1)=true by simpa using k1)]at st
   by_cases k2:kindI c.toNat=2
   ·have hn:=runL_le may2 (L.drop a)
    have hpos:runL may2 (L.drop a)≠0:=by rw[hd,runL_cons,k2,if_pos (by decide)];omega
    simp only[k2,if_pos (show((2:Int)==2)=true from rfl),hw _ hn,if_pos (hb _ hn),Int.toNat_natCast,cut,B_list]at st
    have hcond:small (B ((L.drop a).take (runL may2 (L.drop a))))∧digitsL ((L.drop a).take (runL may2 (L.drop a))):=⟨by unfold small;rw[B_size];simp;omega,digits_run _⟩
    simp only[if_pos hcond]at st
    cases hv:valI ((L.drop a).take (runL may2 (L.drop a))) 0 with
    |none=>
     have ho:oneL (L.drop a)=.inl 10:=by
      rw[oneL_eq hd,if_neg k1,if_pos k2,hv];rfl
     rw[ho]at hr
     refine⟨_,_,hr,fun q=>?_⟩
     rw[st,hv];rfl
    |some v=>
     have ho:oneL (L.drop a)=.inr (2,(L.drop a).take (runL may2 (L.drop a)),runL may2 (L.drop a)):=by
      rw[oneL_eq hd,if_neg k1,if_pos k2,hv];rfl
     rw[ho]at hr
     refine⟨_,_,hr,fun q=>?_⟩
     rw[st,hv]
     simp only
     rw[if_neg (by simp;omega)]
     rfl
   simp only[if_neg (show ¬(kindI (c.toNat:Int)==2)=true by simpa using k2)]at st
   have hb0:(0:Int)≤((B L).size:Int)∧((B L).size:Int)≤((B L).size:Int)∧(0:Int)≤(a:Int)∧(a:Int)≤((B L).size:Int):=by rw[B_size];omega
   have hrest:(B L).extract a (B L).size=B (L.drop a):=B_rest L a
   simp only[if_pos hb0,hrest,B_list]at st
   have hsm:small (B (L.drop a)):=by unfold small;rw[B_size];omega
   by_cases k3:kindI c.toNat=3
   ·have hn:=quotedL_le (L.drop a)
    simp only[k3,if_pos (show((3:Int)==3)=true from rfl),if_pos (And.intro hsm (show 0<(B (L.drop a)).size by rw[B_size];omega))]at st
    by_cases hq:0<quotedL (L.drop a)
    ·have ho:oneL (L.drop a)=.inr (3,((L.drop a).drop 1).take (quotedL (L.drop a) - 2),quotedL (L.drop a)):=by
      rw[oneL_eq hd,if_neg k1,if_neg k2,if_pos k3,if_pos hq]
     have hq3:3≤quotedL (L.drop a):=by
      rcases quotedL_cases (L.drop a)with h|h<;>omega
     rw[ho]at hr
     refine⟨_,_,hr,fun q=>?_⟩
     have w1:IntKind.wrap .i64 ((a:Int)+1)=((a+1:Nat):Int):=by rw[wrap_id (by omega) (by omega)];omega
     have w2:IntKind.wrap .i64 (((a+quotedL (L.drop a):Nat):Int) - 1)=((a+quotedL (L.drop a) - 1:Nat):Int):=by rw[wrap_id (by omega) (by omega)];omega
     rw[st,if_pos (by simp;omega),hw _ hn,w2,w1,if_pos (by rw[B_size];omega),Int.toNat_natCast,Int.toNat_natCast,B_cut]
     rw[show a+quotedL (L.drop a) - 1 - (a+1)=quotedL (L.drop a) - 2 by omega]
     rw[List.drop_drop]
     rfl
    ·have ho:oneL (L.drop a)=.inl 20:=by
      rw[oneL_eq hd,if_neg k1,if_neg k2,if_pos k3,if_neg hq]
     rw[ho]at hr
     refine⟨_,_,hr,fun q=>?_⟩
     rw[st,if_neg (by simp;omega),if_pos (by simp;omega)]
     rfl
   simp only[if_neg (show ¬(kindI (c.toNat:Int)==3)=true by simpa using k3)]at st
   by_cases k4:kindI c.toNat=4
   ·have hn:=markL_le (L.drop a) (by rw[hd];simp)
    simp only[k4,if_pos (show((4:Int)==4)=true from rfl),if_pos (show 0<(B (L.drop a)).size by rw[B_size];omega)]at st
    by_cases hq:markL (L.drop a)=0
    ·have ho:oneL (L.drop a)=.inl 20:=by
      rw[oneL_eq hd,if_neg k1,if_neg k2,if_neg k3,if_pos k4,if_pos hq]
     rw[ho]at hr
     refine⟨_,_,hr,fun q=>?_⟩
     rw[st,if_pos (by simp;omega)]
     rfl
    ·have ho:oneL (L.drop a)=.inr (4,(L.drop a).take (markL (L.drop a)),markL (L.drop a)):=by
      rw[oneL_eq hd,if_neg k1,if_neg k2,if_neg k3,if_pos k4,if_neg hq]
     rw[ho]at hr
     refine⟨_,_,hr,fun q=>?_⟩
     rw[st,if_neg (by simp;omega),hw _ hn,if_pos (hb _ hn),Int.toNat_natCast,cut]
     rfl
   simp only[if_neg (show ¬(kindI (c.toNat:Int)==4)=true by simpa using k4)]at st
   have ho:oneL (L.drop a)=.inl 20:=by
    rw[oneL_eq hd,if_neg k1,if_neg k2,if_neg k3,if_neg k4]
   rw[ho]at hr
   refine⟨_,_,hr,fun q=>?_⟩
   rw[st];rfl
  ·cases hr
 ·cases hr
end Go.Sd
namespace Go.Sd
open Go Go.Cm Go.Proofs Go.Sc
set_option maxRecDepth 100000
theorem oneL_len {l:T8} {k:Int} {t:T8} {m:Nat} (h:oneL l=.inr (k,t,m)):1≤m∧m≤l.length:=by
 cases l with
 |nil=>simp[oneL]at h
 |cons c r=>
  rw[oneL_eq rfl]at h
  split at h
  ·rename_i h1
   simp only[Sum.inr.injEq,Prod.mk.injEq]at h
   obtain⟨_,_,rfl⟩:=h
   refine⟨?_,runL_le _ _⟩
   rw[runL_cons,h1,if_pos (by decide)];omega
  ·split at h
   ·rename_i h1
    split at h
    ·simp only[Sum.inr.injEq,Prod.mk.injEq]at h
     obtain⟨_,_,rfl⟩:=h
     refine⟨?_,runL_le _ _⟩
     rw[runL_cons,h1,if_pos (by decide)];omega
    ·cases h
   ·split at h
    ·split at h
     ·rename_i hq
      simp only[Sum.inr.injEq,Prod.mk.injEq]at h
      obtain⟨_,_,rfl⟩:=h
      exact⟨hq,quotedL_le _⟩
     ·cases h
    ·split at h
     ·split at h
      ·cases h
      ·rename_i hq
       simp only[Sum.inr.injEq,Prod.mk.injEq]at h
       obtain⟨_,_,rfl⟩:=h
       exact⟨by omega,markL_le _ (by simp)⟩
     ·cases h
theorem tok_loop (L:T8) (hL:L.length≤65536):∀(n:Nat) (xs:List D) (p:Nat),L.length - p<n→p≤L.length→xs.length≤p→
  match toksL n (L.drop p) p with
  |.inl (e,q)=>Lp F10.L0 (F10.s0 (B L) xs p)=some (.ret,F10.e0r q e)
  |.inr ts=>∃us:List Tok,ts=us++[(0,[],L.length)]∧Lp F10.L0 (F10.s0 (B L) xs p)=some (.exit 0,F10.e0x0 (B L) (xs++us.map tokT))∧xs.length+us.length≤L.length
 |0,xs,p,hn,hp,hx=>by omega
 |n+1,xs,p,hn,hp,hx=>by
  have hr:=F10.round0 (B L) xs p
  rw[B_size]at hr
  by_cases he:p=L.length
  ·subst he
   rw[if_neg (by simp)]at hr
   rw[List.drop_length]
   simp only[toksL]
   exact⟨[],rfl,by simpa using Lp_exit hr,by simpa using hx⟩
  ·have hlt:p<L.length:=by omega
   have hin:inS (B L) (p:Int):=by unfold inS small;rw[B_size];omega
   rw[if_pos (by simp;omega),if_pos ⟨hin,by omega⟩,Int.toNat_natCast,B_list]at hr
   obtain⟨c,hc,hd⟩:=drop_at hlt
   have ht:toksL (n+1) (L.drop p) p=(match oneL (L.drop p)with
    |.inl e=>.inl (e,p)
    |.inr (k,t,m)=>match toksL n (((L.drop p).drop m).drop (blankL ((L.drop p).drop m))) (p+m+blankL ((L.drop p).drop m))with
     |.inl e=>.inl e
     |.inr r=>.inr ((k,t,p)::r)):=by
    rw[hd];rfl
   rw[ht]
   cases ho:oneL (L.drop p)with
   |inl e=>
    rw[ho]at hr
    exact Lp_exit hr
   |inr x=>
    obtain⟨k,t,m⟩:=x
    rw[ho]at hr
    simp only at hr ⊢
    obtain⟨m1,m2⟩:=oneL_len ho
    rw[List.length_drop]at m2
    have hw:IntKind.wrap .i64 ((p:Int)+(m:Int))=((p+m:Nat):Int):=by rw[wrap_id (by omega) (by omega)];omega
    have hb:=blankL_le _ (L.drop (p+m)) (Nat.le_refl _)
    rw[List.length_drop]at hb
    have hw2:IntKind.wrap .i64 (((p+m:Nat):Int)+(blankL (L.drop (p+m)):Int))=((p+m+blankL (L.drop (p+m)):Nat):Int):=by rw[wrap_id (by omega) (by omega)];omega
    rw[if_pos (by omega),hw,if_pos (by unfold inS small;rw[B_size];omega),Int.toNat_natCast,hw2]at hr
    have e0:(L.drop p).drop m=L.drop (p+m):=List.drop_drop
    have e1:(L.drop (p+m)).drop (blankL (L.drop (p+m)))=L.drop (p+m+blankL (L.drop (p+m))):=List.drop_drop
    rw[e0,e1]
    have ih:=tok_loop L hL n (xs++[tokT (k,t,p)]) (p+m+blankL (L.drop (p+m))) (by omega) (by omega) (by simp;omega)
    cases hk:toksL n (L.drop (p+m+blankL (L.drop (p+m)))) (p+m+blankL (L.drop (p+m)))with
    |inl e=>
     rw[hk]at ih
     exact Lp_step hr ih
    |inr ts=>
     rw[hk]at ih
     obtain⟨us,e1,e2,e3⟩:=ih
     refine⟨(k,t,p)::us,by rw[e1];rfl,?_,by simp at e3 ⊢;omega⟩
     rw[List.map_cons, ←List.singleton_append, ←List.append_assoc]
     exact Lp_step hr e2
theorem tokS_last {L:T8} {ts:List Tok} (hL:L.length≤65536) (h:tokS L=.inr ts):∃us,ts=us++[(0,[],L.length)]∧us.length≤L.length∧
  Lp F10.L0 (F10.s0 (B L) [] (blankL L))=some (.exit 0,F10.e0x0 (B L) (us.map tokT)):=by
 have hb:=blankL_le _ L (Nat.le_refl _)
 have hl:=tok_loop L hL (L.length+1) [] (blankL L) (by omega) hb (by simp)
 unfold tokS at h
 rw[h]at hl
 obtain⟨us,h1,h2,h3⟩:=hl
 exact⟨us,h1,by simpa using h3,by simpa using h2⟩
theorem env17:EnvOk glS Tryz.prog E17:=env16.fn mixed Tryz.func92 (by kernel_rfl) fun β args k r hr=>by
 unfold cTokens at hr
 split at hr
 ·rename_i s
  rw[B_of s]at hr ⊢
  generalize s.data.toList=L at*
  rw[B_list,B_size]at hr
  split at hr
  ·rename_i hs
   refine⟨_,_,hr,fun q=>?_⟩
   have:65536<L.length:=by
    rcases Nat.lt_or_ge 65536 L.length with h|h
    ·exact h
    ·rw[Nat.ble_eq_true_of_le h]at hs;cases hs
   rw[F10.start,B_size,if_pos (by simp;omega)];rfl
  ·rename_i hs
   rw[Nat.ble_eq]at hs
   have hb:=blankL_le _ L (Nat.le_refl _)
   have hst:∀{γ:Type} (q:List TV→List TV→Option γ),evalF Tryz.prog E16 Tryz.f92 [TV.d true 0 (D.str (B L))] q=_:=fun q=>F10.start (B L) q
   have hin:inS (B L) 0:=by unfold inS small;rw[B_size];omega
   simp only[B_size,if_neg (show ¬decide ((L.length:Int)>65536)=true by simp;omega),if_pos hin,B_list,List.drop_zero]at hst
   cases ht:tokS L with
   |inl e=>
    obtain⟨e,p⟩:=e
    rw[ht]at hr
    refine⟨_,_,hr,fun q=>?_⟩
    have hl:=tok_loop L hs (L.length+1) [] (blankL L) (by omega) hb (by simp)
    unfold tokS at ht
    rw[ht]at hl
    rw[hst,goLp_of hl,F10.behind0r];rfl
   |inr ts=>
    rw[ht]at hr
    refine⟨_,_,hr,fun q=>?_⟩
    obtain⟨us,e1,e2,e3⟩:=tokS_last hs ht
    rw[hst,goLp_of e3,F10.behind0x0,if_pos (by simp;omega),e1,B_size]
    rw[List.map_append];rfl
 ·cases hr
theorem env18:EnvOk glS Tryz.prog E18:=env17.fn mixed Tryz.func61 (by kernel_rfl) fun β args k r hr=>by
 unfold cNew at hr
 split at hr
 ·rename_i s
  split at hr
  ·rename_i hs
   exact⟨_,_,hr,fun q=>by rw[F14.start,hs];rfl⟩
  ·rename_i hs
   split at hr
   ·rename_i n p ht
    exact⟨_,_,hr,fun q=>by rw[F14.start,hs,ht];rfl⟩
   ·rename_i l ht
    exact⟨_,_,hr,fun q=>by rw[F14.start,hs,ht]⟩
 ·cases hr
end Go.Sd
namespace Go.Sd
open Go Go.Cm Go.Proofs Go.Sc
set_option maxRecDepth 100000
theorem at_lt {xs:List D} {a:Int} {x:D} (h0:0≤a) (h:xs[a.toNat]? =some x):0≤a∧a<(xs.length:Int):=by
 have:=(List.getElem?_eq_some_iff.1 h).1
 omega
theorem env19:EnvOk glS Tryz.prog E19:=env18.fn mixed Tryz.func41 (by kernel_rfl) fun β args k r hr=>by
 unfold cPeek at hr
 split at hr
 ·rename_i xs a
  unfold chkK at hr
  split at hr
  ·rename_i h0
   split at hr
   ·rename_i c t p hx
    refine⟨_,_,hr,fun q=>?_⟩
    rw[F17.start,if_pos (at_lt h0 hx),hx];rfl
   ·cases hr
  ·cases hr
 ·cases hr
theorem env20:EnvOk glS Tryz.prog E20:=env19.fn mixed Tryz.func118 (by kernel_rfl) fun β args k r hr=>by
 unfold cTake at hr
 split at hr
 ·rename_i xs a
  unfold chkK at hr
  split at hr
  ·rename_i h0
   have hw:IntKind.wrap .i64 (a+1)=a+1:=wrap_id (by omega) (by omega)
   split at hr
   ·rename_i c t p hx
    split at hr
    ·rename_i hc
     refine⟨_,_,hr,fun q=>?_⟩
     rw[F18.start,if_pos h0.1,hx]
     simp only[if_pos hc,hw];rfl
    ·rename_i hc
     refine⟨_,_,hr,fun q=>?_⟩
     rw[F18.start,if_pos h0.1,hx]
     simp only[if_neg hc];rfl
   ·cases hr
  ·cases hr
 ·cases hr
theorem env21:EnvOk glS Tryz.prog E21:=env20.fn mixed Tryz.func117 (by kernel_rfl) fun β args k r hr=>by
 unfold cIs at hr
 split at hr
 ·rename_i xs a s
  unfold chkK at hr
  split at hr
  ·rename_i h0
   split at hr
   ·rename_i c t p hx
    refine⟨_,_,hr,fun q=>?_⟩
    rw[F19.start,if_pos h0,hx]
    simp only[isB]
    by_cases h1:(c==1)=true
    ·rw[if_pos h1,h1];rfl
    ·rw[if_neg h1]
     rw[Bool.not_eq_true]at h1
     by_cases h4:(c==4)=true
     ·rw[if_pos h4,h1,h4];rfl
     ·rw[if_neg h4]
      rw[Bool.not_eq_true]at h4
      rw[h1,h4];rfl
   ·cases hr
  ·cases hr
 ·cases hr
theorem env22:EnvOk glS Tryz.prog E22:=env21.fn mixed Tryz.func93 (by kernel_rfl) fun β args k r hr=>by
 unfold cSkip at hr
 split at hr
 ·rename_i xs a s
  unfold chkK at hr
  split at hr
  ·rename_i h0
   split at hr
   ·rename_i c t p hx
    have st:∀{γ:Type} (q:List TV→List TV→Option γ),evalF Tryz.prog E21 Tryz.f93 [TV.ob true [TV.own true 4 xs,TV.d false 0 (D.int IntKind.i64 a)],TV.d true 0 (D.str s)] q=_:=fun q=>F20.start xs a s q
    simp only[if_pos h0.1,hx,if_pos h0]at st
    split at hr
    ·rename_i hb
     refine⟨_,_,hr,fun q=>?_⟩
     have hb':=hb
     simp only[isB]at hb'
     have hc:(!c==0)=true:=by
      have h:=(Bool.and_eq_true_iff.1 hb').1
      simp only[Bool.or_eq_true,beq_iff_eq]at h
      simp;omega
     rw[st,if_pos hb',if_pos hc,hb'];rfl
    ·rename_i hb
     refine⟨_,_,hr,fun q=>?_⟩
     simp only[isB]at hb
     rw[st,if_neg hb]
     rw[Bool.not_eq_true]at hb
     rw[hb];rfl
   ·cases hr
  ·cases hr
 ·cases hr
theorem env23:EnvOk glS Tryz.prog E23:=env22.fn mixed Tryz.func134 (by kernel_rfl) fun β args k r hr=>by
 unfold cBad at hr
 split at hr
 ·rename_i xs a
  unfold chkK at hr
  split at hr
  ·rename_i h0
   split at hr
   ·rename_i c t p hx
    refine⟨_,_,hr,fun q=>?_⟩
    rw[F29.start,if_pos h0,hx];rfl
   ·cases hr
  ·cases hr
 ·cases hr
theorem env24:EnvOk glS Tryz.prog E24:=env23.fn mixed Tryz.func119 (by kernel_rfl) fun β args k r hr=>by
 unfold cWant at hr
 split at hr
 ·rename_i xs a s
  unfold chkK at hr
  split at hr
  ·rename_i h0
   split at hr
   ·rename_i c t p hx
    have st:∀{γ:Type} (q:List TV→List TV→Option γ),evalF Tryz.prog E23 Tryz.f119 [TV.ob true [TV.own true 4 xs,TV.d false 0 (D.int IntKind.i64 a)],TV.d true 0 (D.str s)] q=_:=fun q=>F21.start xs a s q
    simp only[if_pos h0.1,hx,if_pos h0]at st
    split at hr
    ·rename_i hb
     refine⟨_,_,hr,fun q=>?_⟩
     simp only[isB]at hb
     rw[st,if_pos hb];rfl
    ·rename_i hb
     refine⟨_,_,hr,fun q=>?_⟩
     simp only[isB]at hb
     rw[st,if_neg hb];rfl
   ·cases hr
  ·cases hr
 ·cases hr
end Go.Sd

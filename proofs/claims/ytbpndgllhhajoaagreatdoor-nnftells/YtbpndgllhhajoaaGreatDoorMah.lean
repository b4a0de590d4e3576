/- The scan laws' seat: the contracts of the library's functions and of the scanner's small ones. -/
import Derived.Test.YtbpndgllhhajoaaGreatDoorMag
import Derived.Test.YtbpndgllhhajoaaGreatDoorMae
import Derived.Laws.BitsLemmas
set_option linter.unusedVariables false
set_option linter.unusedSimpArgs false
namespace Go.Sd
open Go Go.Cm Go.Proofs Go.Sc
set_option maxRecDepth 100000
theorem env0:EnvOk glS Tryz.prog E0:=EnvOk.none.add fun β args k r hr=>by
 unfold cIdx at hr
 split at hr
 ·rename_i s c
  exact⟨_,_,hr,valid_set (us:=[.string s,.int .u8 c]) (rs:=[.int .i64 (idxS s c)]) (.cons (.str s) (.cons (.int .u8 c) .nil)) (.cons (.int .i64 _) .nil) (idx_set s c)⟩
 ·cases hr
theorem env1:EnvOk glS Tryz.prog E1:=env0.fn mixed Tryz.func139 (by kernel_rfl) fun β args k r hr=>by
 unfold cIdx at hr
 split at hr
 ·exact⟨_,_,hr,fun q=>F51.start _ _ q⟩
 ·cases hr
theorem env2:EnvOk glS Tryz.prog E2:=env1.fn mixed Tryz.func137 (by kernel_rfl) fun β args k r hr=>by
 unfold cIdx at hr
 split at hr
 ·exact⟨_,_,hr,fun q=>F46.start _ _ q⟩
 ·cases hr
theorem hasP_eq (s p:ByteArray):hasP s p=if p.size≤s.size then(s.extract 0 p.size).toList==p.toList else false:=by
 rw[B_of s,B_of p]
 generalize s.data.toList=a
 generalize p.data.toList=b
 simp only[hasP,B_list,B_size,B_cut,List.drop_zero,Nat.sub_zero]
 split
 ·rename_i h
  rw[Bool.eq_iff_iff]
  simp only[List.isPrefixOf_iff_prefix,beq_iff_eq]
  rw[List.prefix_iff_eq_take]
  exact eq_comm
 ·rename_i h
  rw[Bool.eq_false_iff]
  intro h2
  rw[List.isPrefixOf_iff_prefix]at h2
  exact h h2.length_le
theorem env3:EnvOk glS Tryz.prog E3:=env2.fn mixed Tryz.func135 (by kernel_rfl) fun β args k r hr=>by
 unfold cHas at hr
 split at hr
 ·rename_i s p
  refine⟨_,_,hr,fun q=>?_⟩
  rw[F44.start,hasP_eq]
  by_cases h:p.size≤s.size
  ·rw[if_pos (by simpa using h),if_pos (by omega),if_pos h];simp
  ·rw[if_neg (by simpa using h),if_neg h]
 ·cases hr
theorem env4:EnvOk glS Tryz.prog E4:=env3.fn mixed Tryz.func124 (by kernel_rfl) fun β args k r hr=>by
 unfold cHas at hr
 split at hr
 ·exact⟨_,_,hr,fun q=>F31.start _ _ q⟩
 ·cases hr
theorem idxS_eq (s:ByteArray) (c:UInt8):idxS s (c.toNat:Int)=indexS s c:=by
 unfold idxS indexS
 rw[B_of s]
 rw[firstIdx_eq,B_list]
 congr 1
 simp
theorem env5:EnvOk glS Tryz.prog E5:=env4.fn mixed Tryz.func138 (by kernel_rfl) fun β args k r hr=>by
 unfold cIndex at hr
 split at hr
 ·rename_i s p
  split at hr
  ·rename_i c hp
   refine⟨_,_,hr,fun q=>?_⟩
   rw[F50.start]
   have hp1:p=B [c]:=by rw[B_of p];congr 1;rw[ByteArray.toList_eq]at hp;exact hp
   have hsz:p.size=1:=by rw[hp1];rfl
   rw[if_neg (by simp[hsz])]
   by_cases h:p.toList=s.toList
   ·rw[if_pos (by simpa using h)]
    have:indexS s c=0:=by unfold indexS;rw[←h,hp];simp[Lib.indexByte]
    rw[this]
   ·rw[if_neg (by simpa using h),if_pos (by simp[hsz])]
    have:p[(0:Nat)]? =some c:=by rw[hp1,B_get];rfl
    rw[this]
    simp only[idxS_eq]
  ·cases hr
 ·cases hr
theorem indexS_lt (s:ByteArray) (c:UInt8):indexS s c<s.size:=by
 unfold indexS
 have h:∀l:T8,Lib.indexByte l c<l.length:=by
  intro l
  induction l with
  |nil=>simp[Lib.indexByte]
  |cons b l ih=>
   unfold Lib.indexByte
   split
   ·simp<;>omega
   ·split
    ·simp<;>omega
    ·simp<;>omega
 have h1:=h s.toList
 have e:s.toList.length=s.size:=by rw[ByteArray.toList_eq];exact Array.length_toList
 rw[e]at h1
 exact h1
theorem indexS_ge (s:ByteArray) (c:UInt8): -1≤indexS s c:=Lib.indexByte_ge _ _
theorem wrap_id {n:Int} (h1: -9223372036854775808≤n) (h2:n≤9223372036854775807):IntKind.wrap .i64 n=n:=by rw[IntKind.wrap_i64];omega
theorem env6:EnvOk glS Tryz.prog E6:=env5.fn mixed Tryz.func136 (by kernel_rfl) fun β args k r hr=>by
 unfold cCut at hr
 split at hr
 ·rename_i s p
  split at hr
  ·rename_i c hp
   unfold chkK at hr
   split at hr
   ·rename_i hs
    have hlt:=indexS_lt s c
    have hge:=indexS_ge s c
    have hsz:p.size=1:=by
     have:p=B [c]:=by rw[B_of p];congr 1;rw[ByteArray.toList_eq]at hp;exact hp
     rw[this];rfl
    unfold small at hs
    have hw:IntKind.wrap .i64 (indexS s c+(p.size:Int))=indexS s c+1:=by rw[hsz];exact wrap_id (by omega) (by omega)
    split at hr
    ·rename_i h
     refine⟨_,_,hr,fun q=>?_⟩
     rw[F45.start,hp]
     simp only
     have h0:indexS s c<0:=by
      simp only[Bool.or_eq_true,Nat.ble_eq,decide_eq_true_eq]at h
      omega
     rw[if_neg (by simp;omega)]
    ·rename_i h
     refine⟨_,_,hr,fun q=>?_⟩
     rw[F45.start,hp]
     simp only
     have h0:0≤indexS s c:=by
      simp only[Bool.or_eq_false_iff,decide_eq_false_iff_not]at h
      omega
     rw[if_pos (by simpa using h0),if_pos (by omega),if_pos (by omega),hw]
     have:(indexS s c+1).toNat=(indexS s c).toNat+1:=by omega
     rw[this];simp
   ·cases hr
  ·cases hr
 ·cases hr
theorem env7:EnvOk glS Tryz.prog E7:=env6.fn mixed Tryz.func125 (by kernel_rfl) fun β args k r hr=>by
 unfold cCut at hr
 split at hr
 ·rename_i s p
  split at hr
  ·rename_i c hp
   unfold chkK at hr
   split at hr
   ·rename_i hs
    split at hr
    ·rename_i h
     refine⟨_,_,hr,fun q=>?_⟩
     rw[F32.start,hp]
     simp only[if_pos hs,h]
    ·rename_i h
     refine⟨_,_,hr,fun q=>?_⟩
     rw[F32.start,hp]
     simp only[if_pos hs,h]
   ·cases hr
  ·cases hr
 ·cases hr
theorem idx_sign (c:Int) (h:0≤c∧c<256):(idxS ⟨#[45,60,62,33,61,46,91,93,40,41,58,59,44,43,42,38,124,63,39]⟩ c≥0)↔c∈[45,60,62,33,61,46,91,93,40,41,58,59,44,43,42,38,124,63,(39:Int)]:=by
 have e:idxS ⟨#[45,60,62,33,61,46,91,93,40,41,58,59,44,43,42,38,124,63,39]⟩ c=Lib.indexByte [45,60,62,33,61,46,91,93,40,41,58,59,44,43,42,38,124,63,39] c.toNat.toUInt8:=firstIdx_eq _ _
 rw[e,ge_iff_le,indexByte_mem]
 obtain⟨n,rfl⟩:=Int.eq_ofNat_of_zero_le h.1
 have hn:n<256:=by omega
 have key:∀m:Nat,m<256→((n.toUInt8=m.toUInt8)↔((n:Int)=(m:Int))):=by
  intro m hm
  constructor
  ·intro he
   have:=congrArg UInt8.toNat he
   simp at this
   omega
  ·intro he
   have:n=m:=by omega
   rw[this]
 simp only[List.mem_cons,List.not_mem_nil,or_false,Int.toNat_natCast]
 have k1:=key 45 (by omega);have k2:=key 60 (by omega);have k3:=key 62 (by omega);have k4:=key 33 (by omega);have k5:=key 61 (by omega)
 have k6:=key 46 (by omega);have k7:=key 91 (by omega);have k8:=key 93 (by omega);have k9:=key 40 (by omega);have k10:=key 41 (by omega)
 have k11:=key 58 (by omega);have k12:=key 59 (by omega);have k13:=key 44 (by omega);have k14:=key 43 (by omega);have k15:=key 42 (by omega)
 have k16:=key 38 (by omega);have k17:=key 124 (by omega);have k18:=key 63 (by omega);have k19:=key 39 (by omega)
 exact or_congr k1 (or_congr k2 (or_congr k3 (or_congr k4 (or_congr k5 (or_congr k6 (or_congr k7 (or_congr k8 (or_congr k9 (or_congr k10 (or_congr k11 (or_congr k12 (or_congr k13 (or_congr k14 (or_congr k15 (or_congr k16 (or_congr k17 (or_congr k18 k19)))))))))))))))))
theorem env8:EnvOk glS Tryz.prog E8:=env7.fn mixed Tryz.func126 (by kernel_rfl) fun β args k r hr=>by
 unfold cKind at hr
 split at hr
 ·rename_i c
  unfold chkK at hr
  split at hr
  ·rename_i hc
   refine⟨_,_,hr,fun q=>?_⟩
   rw[F33.start]
   have hi:=idx_sign c hc
   unfold kindI
   simp only[decide_eq_true_eq,beq_iff_eq,hi]
   repeat' split
   all_goals first|rfl|omega
  ·cases hr
 ·cases hr
theorem env8b:EnvOk glS Tryz.prog E8b:=env8.fn mixed Tryz.func128 (by kernel_rfl) fun β args k r hr=>by
 unfold cMay at hr
 split at hr
 ·rename_i c
  refine⟨_,_,hr,fun q=>?_⟩
  rw[F35.start]
  unfold may1
  split
  ·rename_i h;rw[h];rfl
  ·rename_i h;rw[Bool.not_eq_true]at h;rw[h];rfl
 ·cases hr
theorem env9:EnvOk glS Tryz.prog E9:=env8b.fn mixed Tryz.func129 (by kernel_rfl) fun β args k r hr=>by
 unfold cMay at hr
 split at hr
 ·rename_i c
  exact⟨_,_,hr,fun q=>F36.start _ q⟩
 ·cases hr
end Go.Sd

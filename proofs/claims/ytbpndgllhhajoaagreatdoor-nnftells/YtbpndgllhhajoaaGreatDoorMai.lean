/- The scan laws' seat: contracts of run, digits, quoted, mark, blank. -/
import Derived.Test.YtbpndgllhhajoaaGreatDoorMah
import Derived.Test.YtbpndgllhhajoaaGreatDoorMae
import Derived.Test.YtbpndgllhhajoaaGreatDoorMag
set_option linter.unusedVariables false
set_option linter.unusedSimpArgs false
namespace Go.Sd
open Go Go.Cm Go.Proofs Go.Sc
set_option maxRecDepth 100000
theorem runL_nil (p:Int→Bool):runL p []=0:=rfl
theorem runL_cons (p:Int→Bool) (c:UInt8) (r:T8):runL p (c::r)=if p (kindI c.toNat)=true then runL p r+1 else 0:=by
 unfold runL
 rw[List.takeWhile_cons]
 split<;>rfl
theorem drop_at {L:T8} {i:Nat} (h:i<L.length):∃c,L[i]? =some c∧L.drop i=c::L.drop (i+1):=
 ⟨L[i],List.getElem?_eq_getElem h,List.drop_eq_getElem_cons h⟩
theorem byte_lt (c:UInt8):(0:Int)≤(c.toNat:Int)∧(c.toNat:Int)<256:=⟨by omega,by have:=c.toNat_lt;omega⟩
theorem run_a (L:T8) (hL:L.length≤1152921504606846976) (a:Nat):∀(n x:Nat),a+x+n=L.length→
  Lp F34a.L0 (F34a.s0 (B L) a x)=some (.exit 0,F34a.e0x0 ((x+runL may1 (L.drop (a+x)):Nat)))
 |0,x,hn=>by
  have hw:IntKind.wrap .i64 ((a:Int)+(x:Int))=((a+x:Nat):Int):=by rw[wrap_id (by omega) (by omega)];omega
  refine Lp_exit ((F34a.round0 _ _ _).trans ?_)
  rw[hw,B_size,if_neg (by simp;omega),List.drop_eq_nil_of_le (by omega),runL_nil]
  rfl
 |n+1,x,hn=>by
  have hw:IntKind.wrap .i64 ((a:Int)+(x:Int))=((a+x:Nat):Int):=by rw[wrap_id (by omega) (by omega)];omega
  have hw1:IntKind.wrap .i64 ((x:Int)+1)=((x+1:Nat):Int):=by rw[wrap_id (by omega) (by omega)];omega
  obtain⟨c,hc,hd⟩:=drop_at (L:=L) (i:=a+x) (by omega)
  have hrd:=F34a.round0 (B L) a x
  rw[hw,hw1,B_size,if_pos (by simp;omega),if_pos (by omega),Int.toNat_natCast,B_get,hc]at hrd
  simp only[if_pos (byte_lt c)]at hrd
  rw[hd,runL_cons]
  by_cases h:may1 (kindI c.toNat)=true
  ·rw[if_pos (by simpa[may1]using h)]at hrd
   rw[if_pos h]
   have ih:=run_a L hL a n (x+1) (by omega)
   rw[show a+(x+1)=a+x+1 by omega]at ih
   rw[show x+(runL may1 (L.drop (a+x+1))+1)=x+1+runL may1 (L.drop (a+x+1))by omega]
   exact Lp_step hrd ih
  ·rw[if_neg (by simpa[may1]using h)]at hrd
   rw[if_neg h]
   exact Lp_exit hrd
theorem run_b (L:T8) (hL:L.length≤1152921504606846976) (a:Nat):∀(n x:Nat),a+x+n=L.length→
  Lp F34b.L0 (F34b.s0 (B L) a x)=some (.exit 0,F34b.e0x0 ((x+runL may2 (L.drop (a+x)):Nat)))
 |0,x,hn=>by
  have hw:IntKind.wrap .i64 ((a:Int)+(x:Int))=((a+x:Nat):Int):=by rw[wrap_id (by omega) (by omega)];omega
  refine Lp_exit ((F34b.round0 _ _ _).trans ?_)
  rw[hw,B_size,if_neg (by simp;omega),List.drop_eq_nil_of_le (by omega),runL_nil]
  rfl
 |n+1,x,hn=>by
  have hw:IntKind.wrap .i64 ((a:Int)+(x:Int))=((a+x:Nat):Int):=by rw[wrap_id (by omega) (by omega)];omega
  have hw1:IntKind.wrap .i64 ((x:Int)+1)=((x+1:Nat):Int):=by rw[wrap_id (by omega) (by omega)];omega
  obtain⟨c,hc,hd⟩:=drop_at (L:=L) (i:=a+x) (by omega)
  have hrd:=F34b.round0 (B L) a x
  rw[hw,hw1,B_size,if_pos (by simp;omega),if_pos (by omega),Int.toNat_natCast,B_get,hc]at hrd
  simp only[if_pos (byte_lt c)]at hrd
  rw[hd,runL_cons]
  by_cases h:may2 (kindI c.toNat)=true
  ·rw[if_pos (by simpa[may2]using h)]at hrd
   rw[if_pos h]
   have ih:=run_b L hL a n (x+1) (by omega)
   rw[show a+(x+1)=a+x+1 by omega]at ih
   rw[show x+(runL may2 (L.drop (a+x+1))+1)=x+1+runL may2 (L.drop (a+x+1))by omega]
   exact Lp_step hrd ih
  ·rw[if_neg (by simpa[may2]using h)]at hrd
   rw[if_neg h]
   exact Lp_exit hrd
theorem env10:EnvOk glS Tryz.prog E10:=env9.fn mixed Tryz.func127 (by kernel_rfl) fun β args k r hr=>by
 unfold cRun at hr
 split at hr
 ·rename_i s a g
  unfold chkK at hr
  split at hr
  ·rename_i hi
   obtain⟨h1,h2,h3⟩:=hi
   rw[B_of s]at hr h1 h3 ⊢
   generalize s.data.toList=L at*
   obtain⟨a,rfl⟩:=Int.eq_ofNat_of_zero_le h2
   rw[B_list,Int.toNat_natCast]at hr
   unfold small at h1
   rw[B_size]at h1 h3
   split at hr
   ·rename_i hg
    rw[Cm.beq_true]at hg
    subst hg
    refine⟨_,_,hr,fun q=>?_⟩
    have:=run_a L h1 a (L.length - a) 0 (by omega)
    rw[show((0:Nat):Int)=0 from rfl]at this
    rw[F34a.start,goLp_of this,F34a.behind0x0]
    simp
   ·split at hr
    ·rename_i hg
     rw[Cm.beq_true]at hg
     subst hg
     refine⟨_,_,hr,fun q=>?_⟩
     have:=run_b L h1 a (L.length - a) 0 (by omega)
     rw[show((0:Nat):Int)=0 from rfl]at this
     rw[F34b.start,goLp_of this,F34b.behind0x0]
     simp
    ·cases hr
  ·cases hr
 ·cases hr
theorem wrap_u8 {n:Int} (h1:0≤n) (h2:n<256):IntKind.wrap .u8 n=n:=by
 have e:(2:Int) ^ (IntKind.bits .u8)=256:=rfl
 have e2:IntKind.signed .u8=false:=rfl
 simp only[IntKind.wrap,e,e2,Bool.false_and,Bool.false_eq_true,if_false]
 omega
theorem dig (L:T8) (hL:L.length≤1152921504606846976) (hd:digitsL L):∀(k i:Nat) (n:Int),i+k=L.length→0≤n→n≤9223372036854775807→
  Lp F30.L0 (F30.s0 (B L) n i)=match valI (L.drop i) n with|some m=>some (.exit 0,F30.e0x0 m)|none=>some (.ret,F30.e0r)
 |0,i,n,hk,h0,h1=>by
  have hrd:=F30.round0 (B L) n i
  rw[B_size,if_neg (by simp;omega)]at hrd
  rw[List.drop_eq_nil_of_le (by omega)]
  exact Lp_exit hrd
 |k+1,i,n,hk,h0,h1=>by
  have hrd:=F30.round0 (B L) n i
  obtain⟨c,hc,hdr⟩:=drop_at (L:=L) (i:=i) (by omega)
  have hcd:=hd c (List.mem_of_getElem? hc)
  rw[B_size,if_pos (by simp;omega),if_pos (by omega),Int.toNat_natCast,B_get,hc]at hrd
  have e1:IntKind.wrap .u8 ((c.toNat:Int) - 48)=(c.toNat:Int) - 48:=wrap_u8 (by omega) (by omega)
  have e2:IntKind.wrap .i64 ((c.toNat:Int) - 48)=(c.toNat:Int) - 48:=wrap_id (by omega) (by omega)
  have e3:IntKind.wrap .i64 (9223372036854775807 - ((c.toNat:Int) - 48))=9223372036854775807 - ((c.toNat:Int) - 48):=wrap_id (by omega) (by omega)
  have e4:IntKind.wrap .i64 ((9223372036854775807 - ((c.toNat:Int) - 48)).tdiv 10)=(9223372036854775807 - ((c.toNat:Int) - 48)).tdiv 10:=by
   rw[Int.tdiv_eq_ediv_of_nonneg (by omega)];exact wrap_id (by omega) (by omega)
  have e5:IntKind.wrap .i64 ((i:Int)+1)=((i+1:Nat):Int):=by rw[wrap_id (by omega) (by omega)];omega
  simp only[e1,e2,e3,e4,e5]at hrd
  rw[hdr]
  unfold valI
  by_cases h:n>(9223372036854775807 - ((c.toNat:Int) - 48)).tdiv 10
  ·rw[if_pos (by simpa using h)]at hrd
   rw[if_pos h]
   exact Lp_exit hrd
  ·rw[if_neg (by simpa using h)]at hrd
   rw[if_neg h]
   have h':=h
   rw[Int.tdiv_eq_ediv_of_nonneg (by omega)]at h'
   have e6:IntKind.wrap .i64 (10*n)=10*n:=wrap_id (by omega) (by omega)
   have e7:IntKind.wrap .i64 (10*n+((c.toNat:Int) - 48))=10*n+((c.toNat:Int) - 48):=wrap_id (by omega) (by omega)
   rw[e6,e7]at hrd
   have ih:=dig L hL hd k (i+1) (10*n+((c.toNat:Int) - 48)) (by omega) (by omega) (by omega)
   split at ih
   ·exact Lp_step hrd ih
   ·exact Lp_step hrd ih
theorem env11:EnvOk glS Tryz.prog E11:=env10.fn mixed Tryz.func130 (by kernel_rfl) fun β args k r hr=>by
 unfold cDigits at hr
 split at hr
 ·rename_i s
  unfold chkK at hr
  split at hr
  ·rename_i hi
   obtain⟨h1,h2⟩:=hi
   rw[B_of s]at hr h1 h2 ⊢
   generalize s.data.toList=L at*
   rw[B_list]at hr h2
   unfold small at h1
   rw[B_size]at h1
   have hd:=dig L h1 h2 L.length 0 0 (by omega) (by omega) (by omega)
   rw[List.drop_zero,show((0:Nat):Int)=0 from rfl]at hd
   split at hr
   ·rename_i n hn
    rw[hn]at hd
    exact⟨_,_,hr,fun q=>by rw[F30.start,goLp_of hd,F30.behind0x0]⟩
   ·rename_i hn
    rw[hn]at hd
    exact⟨_,_,hr,fun q=>by rw[F30.start,goLp_of hd,F30.behind0r]⟩
  ·cases hr
 ·cases hr
theorem idx_take (l:T8) (c:UInt8):Lib.indexByte l c=if(l.takeWhile fun x=>x != c).length<l.length then((l.takeWhile fun x=>x != c).length:Int)else -1:=by
 induction l with
 |nil=>simp[Lib.indexByte]
 |cons b l ih=>
  unfold Lib.indexByte
  rw[List.takeWhile_cons]
  by_cases h:b=c
  ·subst h;simp
  ·simp only[bne_iff_ne,ne_eq,h,not_false_eq_true,if_true,beq_iff_eq,if_false]
   rw[ih]
   by_cases h2:(l.takeWhile fun x=>x != c).length<l.length
   ·rw[if_pos h2,if_neg (by omega),if_pos (by simp;omega)]
    simp
   ·rw[if_neg h2,if_pos rfl,if_neg (by simp;omega)]
def okQ (c:UInt8):Bool:=32≤c.toNat&&c.toNat≤126
theorem quo (L:T8) (hL:L.length≤1152921504606846976) (m:Nat) (hm:m<L.length) (hx:idxS ((B L).extract 1 (Int.toNat ((B L).size:Int))) 34=(m:Int)):∀(k i:Nat),i+k=m+1→
  Lp F38.L0 (F38.s0 (B L) i)=if((L.drop i).take k).all okQ=true then some (.exit 0,F38.e0x0 (B L))else some (.ret,F38.e0r)
 |0,i,hk=>by
  have hrd:=F38.round0 (B L) i
  rw[hx,if_neg (by simp;omega)]at hrd
  simpa using Lp_exit hrd
 |k+1,i,hk=>by
  have hrd:=F38.round0 (B L) i
  obtain⟨c,hc,hdr⟩:=drop_at (L:=L) (i:=i) (by omega)
  have e5:IntKind.wrap .i64 ((i:Int)+1)=((i+1:Nat):Int):=by rw[wrap_id (by omega) (by omega)];omega
  rw[hx,if_pos (by simp;omega),if_pos (by omega),Int.toNat_natCast,B_get,hc,e5]at hrd
  simp only[decide_eq_true_eq]at hrd
  rw[hdr,List.take_succ_cons,List.all_cons]
  by_cases h1:(c.toNat:Int)<32
  ·rw[if_pos h1]at hrd
   rw[if_neg (by simp[okQ];omega)]
   exact Lp_exit hrd
  ·rw[if_neg h1,if_pos (by omega)]at hrd
   by_cases h2:(c.toNat:Int)>126
   ·rw[if_pos h2]at hrd
    rw[if_neg (by simp[okQ];omega)]
    exact Lp_exit hrd
   ·rw[if_neg h2]at hrd
    have ih:=quo L hL m hm hx k (i+1) (by omega)
    have hok:okQ c=true:=by simp[okQ];omega
    rw[hok,Bool.true_and]
    split at ih
    ·rename_i h;rw[if_pos h];exact Lp_step hrd ih
    ·rename_i h;rw[if_neg h];exact Lp_step hrd ih
theorem env12:EnvOk glS Tryz.prog E12:=env11.fn mixed Tryz.func132 (by kernel_rfl) fun β args k r hr=>by
 unfold cQuoted at hr
 split at hr
 ·rename_i s
  unfold chkK at hr
  split at hr
  ·rename_i hi
   obtain⟨h1,h2⟩:=hi
   rw[B_of s]at hr h1 h2 ⊢
   generalize s.data.toList=L at*
   rw[B_list]at hr
   unfold small at h1
   rw[B_size]at h1 h2
   refine⟨_,_,hr,fun q=>?_⟩
   cases L with
   |nil=>simp at h2
   |cons b R=>
    have hidx:idxS ((B (b::R)).extract 1 (Int.toNat ((B (b::R)).size:Int))) 34=Lib.indexByte R 34:=by
     rw[B_size,B_cut]
     have:=firstIdx_eq R 34
     simp only[List.length_cons,Int.toNat_natCast,List.drop_succ_cons,List.drop_zero,Nat.add_sub_cancel,List.take_length]
     exact this
    rw[F38.start,hidx,if_pos (by rw[B_size];simp;omega)]
    rw[idx_take]
    simp only[quotedL]
    generalize hn:(R.takeWhile fun c=>c != 34).length=n
    have hle:n≤R.length:=by rw[←hn];exact(List.takeWhile_sublist _).length_le
    by_cases hlt:n<R.length
    ·simp only[if_pos hlt,decide_eq_true_eq]
     rw[if_neg (by omega:¬R.length≤n)]
     by_cases h1n:n<1
     ·rw[if_pos (by omega),if_pos (.inl h1n)];rfl
     ·rw[if_neg (by omega)]
      by_cases h2n:32<n
      ·rw[if_pos (by omega),if_pos (.inr h2n)];rfl
      ·rw[if_neg (by omega),if_neg (by omega)]
       have hx:=hidx
       rw[idx_take,hn,if_pos hlt]at hx
       have hq:=quo (b::R) h1 n (by simp;omega) hx n 1 (by omega)
       rw[show((1:Nat):Int)=1 from rfl]at hq
       simp only[List.drop_succ_cons,List.drop_zero]at hq
       change _=q [.d false 0 (.int .i64 ((if((R.take n).all okQ)=true then n+2 else 0:Nat):Int))] []
       by_cases ha:((R.take n).all okQ)=true
       ·rw[if_pos ha]at hq ⊢
        rw[goLp_of hq,F38.behind0x0,hidx,idx_take,hn,if_pos hlt,wrap_id (by omega) (by omega)]
        rfl
       ·rw[if_neg ha]at hq ⊢
        rw[goLp_of hq,F38.behind0r];rfl
    ·simp only[if_neg hlt]
     rw[if_pos (by simp),if_pos (by omega)];rfl
  ·cases hr
 ·cases hr
theorem hasP_list (l:T8) (p:T8):hasP (B l) ⟨p.toArray⟩=p.isPrefixOf l:=by
 have:(⟨p.toArray⟩:ByteArray)=B p:=rfl
 rw[this]
 unfold hasP;rw[B_list,B_list]
theorem env13:EnvOk glS Tryz.prog E13:=env12.fn mixed Tryz.func133 (by kernel_rfl) fun β args k r hr=>by
 unfold cMark at hr
 split at hr
 ·rename_i s
  unfold chkK at hr
  split at hr
  ·rename_i hi
   rw[B_of s]at hr hi ⊢
   generalize s.data.toList=L at*
   rw[B_list]at hr
   rw[B_size]at hi
   refine⟨_,_,hr,fun q=>?_⟩
   have hl:Lp F39.L0 (F39.s0 (B L) 0)=some (if marks.any (·.isPrefixOf L)=true then(.ret,F39.e0r)else(.exit 0,F39.e0x0 (B L))):=by
    have r0:=F39.round0_0 (B L);have r1:=F39.round0_1 (B L);have r2:=F39.round0_2 (B L);have r3:=F39.round0_3 (B L)
    have r4:=F39.round0_4 (B L);have r5:=F39.round0_5 (B L);have r6:=F39.round0_6 (B L)
    have e0:=hasP_list L [45,62];have e1:=hasP_list L [60,61];have e2:=hasP_list L [62,61];have e3:=hasP_list L [33,61]
    have e4:=hasP_list L [61,62];have e5:=hasP_list L [46,46]
    rw[e0]at r0;rw[e1]at r1;rw[e2]at r2;rw[e3]at r3;rw[e4]at r4;rw[e5]at r5
    simp only[marks,List.any_cons,List.any_nil,Bool.or_false]
    by_cases h0:List.isPrefixOf [45,62] L=true
    ·rw[if_pos h0]at r0;rw[h0];exact Lp_exit r0
    rw[if_neg h0]at r0;rw[Bool.not_eq_true]at h0;rw[h0]
    refine Lp_step r0 ?_
    by_cases h1:List.isPrefixOf [60,61] L=true
    ·rw[if_pos h1]at r1;rw[h1];exact Lp_exit r1
    rw[if_neg h1]at r1;rw[Bool.not_eq_true]at h1;rw[h1]
    refine Lp_step r1 ?_
    by_cases h2:List.isPrefixOf [62,61] L=true
    ·rw[if_pos h2]at r2;rw[h2];exact Lp_exit r2
    rw[if_neg h2]at r2;rw[Bool.not_eq_true]at h2;rw[h2]
    refine Lp_step r2 ?_
    by_cases h3:List.isPrefixOf [33,61] L=true
    ·rw[if_pos h3]at r3;rw[h3];exact Lp_exit r3
    rw[if_neg h3]at r3;rw[Bool.not_eq_true]at h3;rw[h3]
    refine Lp_step r3 ?_
    by_cases h4:List.isPrefixOf [61,62] L=true
    ·rw[if_pos h4]at r4;rw[h4];exact Lp_exit r4
    rw[if_neg h4]at r4;rw[Bool.not_eq_true]at h4;rw[h4]
    refine Lp_step r4 ?_
    by_cases h5:List.isPrefixOf [46,46] L=true
    ·rw[if_pos h5]at r5;rw[h5];exact Lp_exit r5
    rw[if_neg h5]at r5;rw[Bool.not_eq_true]at h5;rw[h5]
    refine Lp_step r5 ?_
    exact Lp_exit r6
   rw[F39.start]
   unfold markL
   by_cases ha:marks.any (·.isPrefixOf L)=true
   ·rw[if_pos ha]at hl ⊢
    rw[goLp_of hl,F39.behind0r];rfl
   ·rw[if_neg ha]at hl ⊢
    rw[goLp_of hl,F39.behind0x0,B_get]
    cases L with
    |nil=>simp at hi
    |cons c R=>
     simp only[List.getElem?_cons_zero,List.head?_cons,Option.some.injEq]
     by_cases h:c=46
     ·subst h;simp
     ·rw[if_neg (fun h2=>h (by
       have h3:((c.toNat:Int))=46:=by simpa using h2
       exact UInt8.toNat_inj.1 (by simpa using(by omega:c.toNat=46)))),if_neg h]
      rfl
  ·cases hr
 ·cases hr
end Go.Sd
namespace Go.Sd
open Go Go.Cm Go.Proofs Go.Sc
set_option maxRecDepth 100000
def lineL (l:T8):Nat:=(l.takeWhile fun c=>c != 10).length
theorem lineL_le (l:T8):lineL l≤l.length:=(List.takeWhile_sublist _).length_le
theorem B_rest (L:T8) (i:Nat):(B L).extract (Int.toNat (i:Int)) (Int.toNat ((B L).size:Int))=B (L.drop i):=by
 rw[B_size,B_cut,Int.toNat_natCast,Int.toNat_natCast,List.take_of_length_le (by simp)]
theorem blk_j (L:T8) (hL:L.length≤1152921504606846976) (a:Nat) (b f:Bool) (i:Nat) (hi:i<L.length):
  applyK F23.X (finR F23.X [(0,34)] (sub [1,1,0,0,0] (body Tryz.f115)))
   [Kf.seq [(2,34),(1,35),(0,34)] (sub [1,1,0,0,0,1,0,0,0,1] (body Tryz.f115)) 34,Kf.block 2 34,
    Kf.seq [(1,35),(0,34)] (sub [1,1,0,0,0,1,0,1] (body Tryz.f115)) 35,Kf.block 1 35] Ex.norm (F23.j0 (B L) a b f i)=
  if b=true then some (.inl (F23.s0 (B L) a false ((i+1:Nat))))else
  if List.isPrefixOf [47,47] (L.drop i)=true then some (.inl (F23.s0 (B L) a false ((i+lineL (L.drop i):Nat))))else some (.inr (.exit 0,F23.e0x0 a f i)):=by
 rw[F23.j0_eq]
 have e5:IntKind.wrap .i64 ((i:Int)+1)=((i+1:Nat):Int):=by rw[wrap_id (by omega) (by omega)];omega
 rw[e5]
 cases b with
 |true=>rfl
 |false=>
  simp only[Bool.false_eq_true,if_false]
  have hb:(0:Int)≤((B L).size:Int)∧((B L).size:Int)≤((B L).size:Int)∧(0:Int)≤(i:Int)∧(i:Int)≤((B L).size:Int):=by rw[B_size];omega
  rw[if_pos hb]
  simp only[B_rest,if_pos hb]
  have hp:hasP (B (L.drop i)) ⟨#[47,47]⟩=List.isPrefixOf [47,47] (L.drop i):=hasP_list _ _
  rw[hp]
  by_cases h:List.isPrefixOf [47,47] (L.drop i)=true
  ·rw[if_pos h,if_pos h,if_pos (by unfold small;rw[B_size];simp;omega)]
   have hix:indexS (B (L.drop i)) (UInt8.ofNat 10)=if lineL (L.drop i)<(L.drop i).length then(lineL (L.drop i):Int)else -1:=by
    unfold indexS;rw[B_list];exact idx_take _ _
   have hle:=lineL_le (L.drop i)
   have hlen:(L.drop i).length=L.length - i:=List.length_drop
   rw[hix]
   by_cases h2:lineL (L.drop i)<(L.drop i).length
   ·simp only[if_pos h2,Int.toNat_natCast,B_size,B_cut,List.drop_zero,Nat.sub_zero,List.length_take]
    have e1:(Nat.ble (L.drop i).length (lineL (L.drop i))||decide ((lineL (L.drop i):Int)<0))=false:=by
     rw[Bool.or_eq_false_iff]
     refine⟨?_,by simp⟩
     rw[Bool.eq_false_iff];intro h3;rw[Nat.ble_eq]at h3;omega
    rw[e1]
    simp only
    rw[wrap_id (by omega) (by omega),Nat.min_eq_left hle]
    rfl
   ·simp only[if_neg h2,B_size]
    have e1:(Nat.ble (L.drop i).length (Int.toNat (-1))||decide ((-1:Int)<0))=true:=by simp
    rw[e1]
    simp only
    rw[wrap_id (by omega) (by omega),show lineL (L.drop i)=(L.drop i).length by omega]
    rfl
  ·rw[if_neg h,if_neg h]
theorem blk_round (L:T8) (hL:L.length≤1152921504606846976) (a:Nat) (f:Bool) (i:Nat) (hi:i<L.length) (c:UInt8) (hc:L[i]? =some c):
  F23.L0 (F23.s0 (B L) a f i)=if isWs c=true then some (.inl (F23.s0 (B L) a false ((i+1:Nat))))else
  if List.isPrefixOf [47,47] (L.drop i)=true then some (.inl (F23.s0 (B L) a false ((i+lineL (L.drop i):Nat))))else some (.inr (.exit 0,F23.e0x0 a f i)):=by
 refine(F23.round0 _ _ _ _).trans ?_
 have key:∀n:Nat,n<256→((((c.toNat:Int)==(n:Int))=(c==n.toUInt8))):=by
  intro n hn
  rw[Bool.eq_iff_iff]
  simp only[beq_iff_eq]
  constructor
  ·intro h
   have:c.toNat=n:=by omega
   exact UInt8.toNat_inj.1 (by simp;omega)
  ·intro h;rw[h];simp;omega
 have k1:=key 32 (by omega);have k2:=key 9 (by omega);have k3:=key 10 (by omega);have k4:=key 13 (by omega)
 have k1:((c.toNat:Int)==32)=(c==32):=k1
 have k2:((c.toNat:Int)==9)=(c==9):=k2
 have k3:((c.toNat:Int)==10)=(c==10):=k3
 have k4:((c.toNat:Int)==13)=(c==13):=k4
 rw[if_pos (by rw[B_size];simp;omega),if_pos (by omega),Int.toNat_natCast,B_get,hc]
 simp only[k1,k2,k3,k4,if_pos (show(0:Int)≤(i:Int)by omega)]
 rw[blk_j L hL a _ f i hi,blk_j L hL a _ f i hi,blk_j L hL a _ f i hi,blk_j L hL a _ f i hi]
 unfold isWs
 cases (c==32)<;>cases (c==9)<;>cases (c==10)<;>cases (c==13)<;>rfl
theorem blankL_nil:blankL []=0:=by rw[blankL]
theorem blankL_ws (c:UInt8) (r:T8) (h:isWs c=true):blankL (c::r)=1+blankL r:=by rw[blankL.eq_def];simp only[h,if_true]
theorem blankL_line (q:T8):blankL (47::47::q)=lineL (47::47::q)+blankL ((47::47::q:T8).drop (lineL (47::47::q))):=by
 have e:lineL (47::47::q)=lineL q+2:=by
  unfold lineL
  rw[List.takeWhile_cons,if_pos (by decide),List.takeWhile_cons,if_pos (by decide)]
  simp
 rw[blankL.eq_def]
 have h:isWs 47=false:=by decide
 simp only[h,Bool.false_eq_true,if_false]
 rw[e]
 simp only[List.drop_succ_cons,lineL]
 omega
theorem blankL_no (c:UInt8) (r:T8) (h:isWs c=false) (h2:List.isPrefixOf [47,47] (c::r)=false):blankL (c::r)=0:=by
 rw[blankL.eq_def]
 simp only[h,Bool.false_eq_true,if_false]
 split
 ·rename_i q
  simp[List.isPrefixOf]at h2
 ·rfl
theorem blk (L:T8) (hL:L.length≤1152921504606846976) (a:Nat):∀(n:Nat) (f:Bool) (i:Nat),L.length - i≤n→i≤L.length→
  ∃f',Lp F23.L0 (F23.s0 (B L) a f i)=some (.exit 0,F23.e0x0 a f' ((i+blankL (L.drop i):Nat)))
 |n,f,i,hn,hi=>by
  by_cases he:i=L.length
  ·refine⟨f,Lp_exit ((F23.round0 _ _ _ _).trans ?_)⟩
   rw[if_neg (by rw[B_size];simp;omega),List.drop_eq_nil_of_le (by omega),blankL_nil];rfl
  cases n with
  |zero=>omega
  |succ n=>
   obtain⟨c,hc,hd⟩:=drop_at (L:=L) (i:=i) (by omega)
   have hr:=blk_round L hL a f i (by omega) c hc
   by_cases h1:isWs c=true
   ·rw[if_pos h1]at hr
    obtain⟨f',ih⟩:=blk L hL a n false (i+1) (by omega) (by omega)
    rw[hd,blankL_ws _ _ h1]
    rw[show i+(1+blankL (L.drop (i+1)))=i+1+blankL (L.drop (i+1))by omega]
    exact⟨f',Lp_step hr ih⟩
   ·rw[if_neg h1]at hr
    rw[Bool.not_eq_true]at h1
    by_cases h2:List.isPrefixOf [47,47] (L.drop i)=true
    ·rw[if_pos h2]at hr
     have hlen:(L.drop i).length=L.length - i:=List.length_drop
     have hle:=lineL_le (L.drop i)
     rw[List.isPrefixOf_iff_prefix]at h2
     obtain⟨q,hq⟩:=h2
     have hq:L.drop i=47::47::q:=hq.symm
     have hb:blankL (L.drop i)=lineL (L.drop i)+blankL (L.drop (i+lineL (L.drop i))):=by
      have:=blankL_line q
      rw[←hq,List.drop_drop]at this
      exact this
     have hpos:2≤lineL (L.drop i):=by
      rw[hq];unfold lineL
      rw[List.takeWhile_cons,if_pos (by decide),List.takeWhile_cons,if_pos (by decide)]
      simp
     obtain⟨f',ih⟩:=blk L hL a n false (i+lineL (L.drop i)) (by omega) (by omega)
     refine⟨f',?_⟩
     rw[hb,show i+(lineL (L.drop i)+blankL (L.drop (i+lineL (L.drop i))))=i+lineL (L.drop i)+blankL (L.drop (i+lineL (L.drop i)))by omega]
     exact Lp_step hr ih
    ·rw[if_neg h2]at hr
     rw[Bool.not_eq_true,hd]at h2
     rw[hd,blankL_no _ _ h1 h2]
     exact⟨f,Lp_exit hr⟩
theorem blankL_le:∀(n:Nat) (l:T8),l.length≤n→blankL l≤l.length
 |n,[],_=>by rw[blankL_nil];exact Nat.le_refl _
 |0,c::r,h=>by simp at h
 |n+1,c::r,h=>by
  by_cases h1:isWs c=true
  ·rw[blankL_ws _ _ h1]
   have:=blankL_le n r (by simpa using h)
   simp;omega
  ·rw[Bool.not_eq_true]at h1
   by_cases h2:List.isPrefixOf [47,47] (c::r)=true
   ·rw[List.isPrefixOf_iff_prefix]at h2
    obtain⟨q,hq⟩:=h2
    have hq:c::r=47::47::q:=hq.symm
    rw[hq,blankL_line]
    have hle:=lineL_le (47::47::q)
    have h3:2≤lineL (47::47::q):=by
     unfold lineL
     rw[List.takeWhile_cons,if_pos (by decide),List.takeWhile_cons,if_pos (by decide)]
     simp
    have hh:(47::47::q).length≤n+1:=by rw[←hq];exact h
    have:=blankL_le n ((47::47::q:T8).drop (lineL (47::47::q))) (by rw[List.length_drop];omega)
    rw[List.length_drop]at this
    omega
   ·rw[Bool.not_eq_true]at h2
    rw[blankL_no _ _ h1 h2];omega
theorem env14:EnvOk glS Tryz.prog E14:=env13.fn mixed Tryz.func115 (by kernel_rfl) fun β args k r hr=>by
 unfold cBlank at hr
 split at hr
 ·rename_i s a
  unfold chkK at hr
  split at hr
  ·rename_i hi
   obtain⟨h1,h2,h3⟩:=hi
   rw[B_of s]at hr h1 h3 ⊢
   generalize s.data.toList=L at*
   obtain⟨a,rfl⟩:=Int.eq_ofNat_of_zero_le h2
   rw[B_list,Int.toNat_natCast]at hr
   unfold small at h1
   rw[B_size]at h1 h3
   refine⟨_,_,hr,fun q=>?_⟩
   obtain⟨f',hl⟩:=blk L h1 a L.length true a (by omega) (by omega)
   have hle:=blankL_le _ (L.drop a) (Nat.le_refl _)
   rw[List.length_drop]at hle
   rw[F23.start,goLp_of hl,F23.behind0x0,wrap_id (by omega) (by omega)]
   congr 5
   omega
  ·cases hr
 ·cases hr
theorem env15:EnvOk glS Tryz.prog E15:=env14.fn mixed Tryz.func131 (by kernel_rfl) fun β args k r hr=>by
 unfold cWrong at hr
 split at hr
 ·exact⟨_,_,hr,fun q=>F37.start _ _ q⟩
 ·cases hr
end Go.Sd
namespace Go.Sd
open Go Go.Cm Go.Proofs Go.Sc
set_option maxRecDepth 100000
theorem runL_le (p:Int→Bool) (l:T8):runL p l≤l.length:=(List.takeWhile_sublist _).length_le
theorem quotedL_le (l:T8):quotedL l≤l.length:=by
 unfold quotedL
 split
 ·omega
 ·rename_i b r
  have h1:(r.takeWhile fun c=>c != 34).length≤r.length:=(List.takeWhile_sublist _).length_le
  simp only[]
  repeat' split
  all_goals simp only[List.length_cons]
  all_goals omega
theorem quotedL_cases (l:T8):quotedL l=0∨3≤quotedL l:=by
 unfold quotedL
 split
 ·exact .inl rfl
 ·simp only[]
  repeat' split
  all_goals first|exact .inl rfl|(right;omega)
theorem markL_le (l:T8) (h:l≠[]):markL l≤l.length:=by
 unfold markL
 split
 ·rename_i h2
  rw[List.any_eq_true]at h2
  obtain⟨m,hm,hp⟩:=h2
  rw[List.isPrefixOf_iff_prefix]at hp
  have:=hp.length_le
  have h3:m.length=2:=by
   simp only[marks,List.mem_cons,List.not_mem_nil,or_false]at hm
   rcases hm with rfl|rfl|rfl|rfl|rfl|rfl<;>rfl
  omega
 ·have:0<l.length:=List.length_pos_iff.2 h
  split<;>omega
theorem digits_run (l:T8):digitsL (l.take (runL may2 l)):=by
 intro c hc
 have h:l.take (runL may2 l)=l.takeWhile fun c=>may2 (kindI c.toNat):=by
  unfold runL
  exact(List.prefix_iff_eq_take.1 (List.takeWhile_prefix _)).symm
 rw[h]at hc
 have h2:=List.all_takeWhile (p:=fun c:UInt8=>may2 (kindI c.toNat)) (l:=l)
 rw[List.all_eq_true]at h2
 have h3:=h2 c hc
 simp only[may2,kindI,beq_iff_eq]at h3
 split at h3
 ·omega
 ·split at h3
  ·omega
  ·split at h3
   ·omega
   ·split at h3<;>omega
theorem oneL_eq {l r:T8} {c:UInt8} (h:l=c::r):oneL l=
  if kindI c.toNat=1 then .inr (1,l.take (runL may1 l),runL may1 l)
  else if kindI c.toNat=2 then(if(valI (l.take (runL may2 l)) 0).isSome=true then .inr (2,l.take (runL may2 l),runL may2 l)else .inl 10)
  else if kindI c.toNat=3 then(if 0<quotedL l then .inr (3,(l.drop 1).take (quotedL l - 2),quotedL l)else .inl 20)
  else if kindI c.toNat=4 then(if markL l=0 then .inl 20 else .inr (4,l.take (markL l),markL l))
  else .inl 20:=by subst h;rfl
theorem env16:EnvOk glS Tryz.prog E16:=env15.fn mixed Tryz.func116 (by kernel_rfl) fun β args k r hr=>by
 unfold cOne at hr
 split at hr
 ·rename_i s a
  unfold chkK at hr
  split at hr
  ·rename_i hi
   obtain⟨⟨h1,h2,h3⟩,h4⟩:=hi
   rw[B_of s]at hr h1 h3 h4 ⊢
   generalize s.data.toList=L at*
   obtain⟨a,rfl⟩:=Int.eq_ofNat_of_zero_le h2
   rw[B_list,Int.toNat_natCast]at hr
   have hin:inS (B L) (a:Int):=⟨h1,h2,h3⟩
   unfold small at h1
   rw[B_size]at h1 h3 h4
   obtain⟨c,hc,hd⟩:=drop_at (L:=L) (i:=a) (by omega)
   have hlen:(L.drop a).length=L.length - a:=List.length_drop
   have cut:∀n:Nat,(B L).extract a (a+n)=B ((L.drop a).take n):=fun n=>by rw[B_cut,show a+n - a=n by omega]
   have hw:∀n:Nat,n≤(L.drop a).length→IntKind.wrap .i64 ((a:Int)+(n:Int))=((a+n:Nat):Int):=fun n hn=>by rw[wrap_id (by omega) (by omega)];omega
   have st:∀{γ:Type} (q:List TV→List TV→Option γ),evalF Tryz.prog E15 Tryz.f116 [TV.d true 0 (D.str (B L)),TV.d true 0 (D.int IntKind.i64 (a:Int))] q=_:=fun q=>F24.start (B L) a q
   simp only[if_pos (show(0:Int)≤(a:Int)by omega),Int.toNat_natCast,B_get,hc,if_pos (byte_lt c),B_list,if_pos hin]at st
   have hb:∀n:Nat,n≤(L.drop a).length→((0:Int)≤((a+n:Nat):Int)∧((a+n:Nat):Int)≤((B L).size:Int)∧(0:Int)≤(a:Int)∧(a:Int)≤((a+n:Nat):Int)):=fun n hn=>by rw[B_size];omega
   by_cases k1:kindI c.toNat=1
   ·have hn:=runL_le may1 (L.drop a)
    have ho:oneL (L.drop a)=.inr (1,(L.drop a).take (runL may1 (L.drop a)),runL may1 (L.drop a)):=by
     rw[oneL_eq hd,if_pos k1]
    have hpos:runL may1 (L.drop a)≠0:=by rw[hd,runL_cons,k1,if_pos (by decide)];omega
    rw[ho]at hr
    refine⟨_,_,hr,fun q=>?_⟩
    rw[st,if_pos (by simp[k1]),if_neg (by simp;omega),hw _ hn,if_pos (hb _ hn),Int.toNat_natCast,cut,k1]
    rfl
   simp only[if_neg (show ¬(kindI (c.toNat:Int)==1)=true by simpa using k1)]at st
   by_cases k2:kindI c.toNat=2
   ·have hn:=runL_le may2 (L.drop a)
    have hpos:runL may2 (L.drop a)≠0:=by rw[hd,runL_cons,k2,if_pos (by decide)];omega
    simp only[k2,if_pos (show((2:Int)==2)=true from rfl),hw _ hn,if_pos (hb _ hn),Int.toNat_natCast,cut,B_list]at st
    have hcond:small (B ((L.drop a).take (runL may2 (L.drop a))))∧digitsL ((L.drop a).take (runL may2 (L.drop a))):=⟨by unfold small;rw[B_size];simp;omega,digits_run _⟩
    simp only[if_pos hcond]at st
    cases hv:valI ((L.drop a).take (runL may2 (L.drop a))) 0 with
    |none=>
     have ho:oneL (L.drop a)=.inl 10:=by
      rw[oneL_eq hd,if_neg k1,if_pos k2,hv];rfl
     rw[ho]at hr
     refine⟨_,_,hr,fun q=>?_⟩
     rw[st,hv];rfl
    |some v=>
     have ho:oneL (L.drop a)=.inr (2,(L.drop a).take (runL may2 (L.drop a)),runL may2 (L.drop a)):=by
      rw[oneL_eq hd,if_neg k1,if_pos k2,hv];rfl
     rw[ho]at hr
     refine⟨_,_,hr,fun q=>?_⟩
     rw[st,hv]
     simp only
     rw[if_neg (by simp;omega)]
     rfl
   simp only[if_neg (show ¬(kindI (c.toNat:Int)==2)=true by simpa using k2)]at st
   have hb0:(0:Int)≤((B L).size:Int)∧((B L).size:Int)≤((B L).size:Int)∧(0:Int)≤(a:Int)∧(a:Int)≤((B L).size:Int):=by rw[B_size];omega
   have hrest:(B L).extract a (B L).size=B (L.drop a):=B_rest L a
   simp only[if_pos hb0,hrest,B_list]at st
   have hsm:small (B (L.drop a)):=by unfold small;rw[B_size];omega
   by_cases k3:kindI c.toNat=3
   ·have hn:=quotedL_le (L.drop a)
    simp only[k3,if_pos (show((3:Int)==3)=true from rfl),if_pos (And.intro hsm (show 0<(B (L.drop a)).size by rw[B_size];omega))]at st
    by_cases hq:0<quotedL (L.drop a)
    ·have ho:oneL (L.drop a)=.inr (3,((L.drop a).drop 1).take (quotedL (L.drop a) - 2),quotedL (L.drop a)):=by
      rw[oneL_eq hd,if_neg k1,if_neg k2,if_pos k3,if_pos hq]
     have hq3:3≤quotedL (L.drop a):=by
      rcases quotedL_cases (L.drop a)with h|h<;>omega
     rw[ho]at hr
     refine⟨_,_,hr,fun q=>?_⟩
     have w1:IntKind.wrap .i64 ((a:Int)+1)=((a+1:Nat):Int):=by rw[wrap_id (by omega) (by omega)];omega
     have w2:IntKind.wrap .i64 (((a+quotedL (L.drop a):Nat):Int) - 1)=((a+quotedL (L.drop a) - 1:Nat):Int):=by rw[wrap_id (by omega) (by omega)];omega
     rw[st,if_pos (by simp;omega),hw _ hn,w2,w1,if_pos (by rw[B_size];omega),Int.toNat_natCast,Int.toNat_natCast,B_cut]
     rw[show a+quotedL (L.drop a) - 1 - (a+1)=quotedL (L.drop a) - 2 by omega]
     rw[List.drop_drop]
     rfl
    ·have ho:oneL (L.drop a)=.inl 20:=by
      rw[oneL_eq hd,if_neg k1,if_neg k2,if_pos k3,if_neg hq]
     rw[ho]at hr
     refine⟨_,_,hr,fun q=>?_⟩
     rw[st,if_neg (by simp;omega),if_pos (by simp;omega)]
     rfl
   simp only[if_neg (show ¬(kindI (c.toNat:Int)==3)=true by simpa using k3)]at st
   by_cases k4:kindI c.toNat=4
   ·have hn:=markL_le (L.drop a) (by rw[hd];simp)
    simp only[k4,if_pos (show((4:Int)==4)=true from rfl),if_pos (show 0<(B (L.drop a)).size by rw[B_size];omega)]at st
    by_cases hq:markL (L.drop a)=0
    ·have ho:oneL (L.drop a)=.inl 20:=by
      rw[oneL_eq hd,if_neg k1,if_neg k2,if_neg k3,if_pos k4,if_pos hq]
     rw[ho]at hr
     refine⟨_,_,hr,fun q=>?_⟩
     rw[st,if_pos (by simp;omega)]
     rfl
    ·have ho:oneL (L.drop a)=.inr (4,(L.drop a).take (markL (L.drop a)),markL (L.drop a)):=by
      rw[oneL_eq hd,if_neg k1,if_neg k2,if_neg k3,if_pos k4,if_neg hq]
     rw[ho]at hr
     refine⟨_,_,hr,fun q=>?_⟩
     rw[st,if_neg (by simp;omega),hw _ hn,if_pos (hb _ hn),Int.toNat_natCast,cut]
     rfl
   simp only[if_neg (show ¬(kindI (c.toNat:Int)==4)=true by simpa using k4)]at st
   have ho:oneL (L.drop a)=.inl 20:=by
    rw[oneL_eq hd,if_neg k1,if_neg k2,if_neg k3,if_neg k4]
   rw[ho]at hr
   refine⟨_,_,hr,fun q=>?_⟩
   rw[st];rfl
  ·cases hr
 ·cases hr
end Go.Sd
namespace Go.Sd
open Go Go.Cm Go.Proofs Go.Sc
set_option maxRecDepth 100000
namespace F14
noncomputable def X:Fx:=⟨Tryz.prog,E17,12,1⟩
theorem start {β:Type} (s:ByteArray) (k:List TV→List TV→Option β):evalF Tryz.prog E17 Tryz.f61 [.d true 0 (.str s)] k=match Nat.ble (ByteArray.size s) 65536 with
   |false=>k [.d false 0 D.nilp,.d false 0 (.ifc 84 (.int .i64 2))] []
   |true=>match tokS s.toList with
    |Sum.inl (n7,p8)=>k [.d false 0 D.nilp,.d false 0 (.ifc 114 (.pt 3 (.ag [D.int .i64 (↑p8:Int),D.ifc 84 (.int .i64 n7)])))] []
    |Sum.inr l12=>k [.ob true [.own false 4 (List.map tokT l12),.d false 0 (.int .i64 0)],.d false 0 D.nili] []:=by kernel_rfl
end F14
namespace F17
noncomputable def X:Fx:=⟨Tryz.prog,E18,4,1⟩
theorem start {β:Type} (xs:List D) (a:Int) (k:List TV→List TV→Option β):evalF Tryz.prog E18 Tryz.f41 [.ob true [.own true 4 xs,.d false 0 (.int .i64 a)]] k=if 0≤a∧a<(xs.length:Int)then match xs[a.toNat]? with
   |some x4=>match x4 with
    |D.ag xs5=>match xs5 with
     |x6::r7=>match x6 with
      |D.int j8 m9=>if j8=IntKind.i64 then match r7 with
       |x10::r11=>match x10 with
        |D.str s12=>match r11 with
         |x13::r14=>match x13 with
          |D.int j15 m16=>if j15=IntKind.i64 then match r14 with
           |[]=>k [.d true 4 (.ag [D.int .i64 m9,D.str s12,D.int .i64 m16])] [.ob true [.own true 4 xs,.d false 0 (.int .i64 a)]]
           |x=>none else none
          |x=>none
         |[]=>none
        |x=>none
       |[]=>none else none
      |x=>none
     |[]=>none
    |x=>none
   |none=>none else none:=by kernel_rfl
end F17
namespace F18
noncomputable def X:Fx:=⟨Tryz.prog,E19,4,1⟩
theorem start {β:Type} (xs:List D) (a:Int) (k:List TV→List TV→Option β):evalF Tryz.prog E19 Tryz.f118 [.ob true [.own true 4 xs,.d false 0 (.int .i64 a)]] k=if 0≤a then match xs[a.toNat]? with
   |some (.ag [D.int .i64 c2,D.str t3,D.int .i64 p4])=>if(!c2==0)=true then k [.d true 4 (.ag [D.int .i64 c2,D.str t3,D.int .i64 p4])] [.ob true [.own true 4 xs,.d false 0 (.int .i64 (IntKind.wrap .i64 (a+1)))]]else k [.d true 4 (.ag [D.int .i64 c2,D.str t3,D.int .i64 p4])] [.ob true [.own true 4 xs,.d false 0 (.int .i64 a)]]
   |x=>none else none:=by kernel_rfl
end F18
namespace F19
noncomputable def X:Fx:=⟨Tryz.prog,E20,16,2⟩
theorem start {β:Type} (xs:List D) (a:Int) (s:ByteArray) (k:List TV→List TV→Option β):evalF Tryz.prog E20 Tryz.f117 [.ob true [.own true 4 xs,.d false 0 (.int .i64 a)],.d true 0 (.str s)] k=if 0≤a then match xs[a.toNat]? with
   |some (.ag [D.int .i64 c2,D.str t3,D.int .i64 p4])=>if(c2==1)=true then k [.d false 0 (.bool (t3.toList==s.toList))] [.ob true [.own true 4 xs,.d false 0 (.int .i64 a)]]else if(c2==4)=true then k [.d false 0 (.bool (t3.toList==s.toList))] [.ob true [.own true 4 xs,.d false 0 (.int .i64 a)]]else k [.d false 0 (.bool false)] [.ob true [.own true 4 xs,.d false 0 (.int .i64 a)]]
   |x=>none else none:=by kernel_rfl
end F19
namespace F20
noncomputable def X:Fx:=⟨Tryz.prog,E21,16,2⟩
theorem start {β:Type} (xs:List D) (a:Int) (s:ByteArray) (k:List TV→List TV→Option β):evalF Tryz.prog E21 Tryz.f93 [.ob true [.own true 4 xs,.d false 0 (.int .i64 a)],.d true 0 (.str s)] k=if 0≤a then match xs[a.toNat]? with
   |some (.ag [D.int .i64 c2,D.str t3,D.int .i64 n4])=>if((c2==1||c2==4)&&t3.toList==s.toList)=true then if 0≤a∧a<34359738368 then match xs[a.toNat]? with
    |some (.ag [D.int .i64 c8,D.str t9,D.int .i64 p10])=>if(!c8==0)=true then k [.d false 0 (.bool ((c2==1||c2==4)&&t3.toList==s.toList))] [.ob true [.own true 4 xs,.d false 0 (.int .i64 (a+1))]]else k [.d false 0 (.bool ((c2==1||c2==4)&&t3.toList==s.toList))] [.ob true [.own true 4 xs,.d false 0 (.int .i64 a)]]
    |x=>none else none else k [.d false 0 (.bool ((c2==1||c2==4)&&t3.toList==s.toList))] [.ob true [.own true 4 xs,.d false 0 (.int .i64 a)]]
   |x=>none else none:=by kernel_rfl
end F20
namespace F29
noncomputable def X:Fx:=⟨Tryz.prog,E22,4,1⟩
theorem start {β:Type} (xs:List D) (a:Int) (k:List TV→List TV→Option β):evalF Tryz.prog E22 Tryz.f134 [.ob true [.own true 4 xs,.d false 0 (.int .i64 a)]] k=if 0≤a then match xs[a.toNat]? with
   |some (.ag [D.int .i64 c4,D.str t5,D.int .i64 p6])=>k [.d false 0 (.ifc 114 (.pt 3 (.ag [D.int .i64 p6,D.ifc 84 (.int .i64 20)])))] [.ob true [.own true 4 xs,.d false 0 (.int .i64 a)]]
   |x=>none else none:=by kernel_rfl
end F29
namespace F21
noncomputable def X:Fx:=⟨Tryz.prog,E23,16,2⟩
theorem start {β:Type} (xs:List D) (a:Int) (s:ByteArray) (k:List TV→List TV→Option β):evalF Tryz.prog E23 Tryz.f119 [.ob true [.own true 4 xs,.d false 0 (.int .i64 a)],.d true 0 (.str s)] k=if 0≤a∧a<34359738368 then match xs[a.toNat]? with
   |some (.ag [D.int .i64 c2,D.str t3,D.int .i64 n4])=>if((c2==1||c2==4)&&t3.toList==s.toList)=true then k [.d false 0 D.nili] [.ob true [.own true 4 xs,.d false 0 (.int .i64 (a+1))]]else if 0≤a then match xs[a.toNat]? with
    |some (.ag [D.int .i64 n9,D.str s10,D.int .i64 p11])=>k [.d false 0 (.ifc 114 (.pt 3 (.ag [D.int .i64 p11,D.ifc 84 (.int .i64 20)])))] [.ob true [.own true 4 xs,.d false 0 (.int .i64 a)]]
    |x=>none else none
   |x=>none else none:=by kernel_rfl
end F21
end Go.Sd
namespace Go.Sd
open Go Go.Cm Go.Proofs Go.Sc
set_option maxRecDepth 100000
theorem oneL_len {l:T8} {k:Int} {t:T8} {m:Nat} (h:oneL l=.inr (k,t,m)):1≤m∧m≤l.length:=by
 cases l with
 |nil=>simp[oneL]at h
 |cons c r=>
  rw[oneL_eq rfl]at h
  split at h
  ·rename_i h1
   simp only[Sum.inr.injEq,Prod.mk.injEq]at h
   obtain⟨_,_,rfl⟩:=h
   refine⟨?_,runL_le _ _⟩
   rw[runL_cons,h1,if_pos (by decide)];omega
  ·split at h
   ·rename_i h1
    split at h
    ·simp only[Sum.inr.injEq,Prod.mk.injEq]at h
     obtain⟨_,_,rfl⟩:=h
     refine⟨?_,runL_le _ _⟩
     rw[runL_cons,h1,if_pos (by decide)];omega
    ·cases h
   ·split at h
    ·split at h
     ·rename_i hq
      simp only[Sum.inr.injEq,Prod.mk.injEq]at h
      obtain⟨_,_,rfl⟩:=h
      exact⟨hq,quotedL_le _⟩
     ·cases h
    ·split at h
     ·split at h
      ·cases h
      ·rename_i hq
       simp only[Sum.inr.injEq,Prod.mk.injEq]at h
       obtain⟨_,_,rfl⟩:=h
       exact⟨by omega,markL_le _ (by simp)⟩
     ·cases h
theorem tok_loop (L:T8) (hL:L.length≤65536):∀(n:Nat) (xs:List D) (p:Nat),L.length - p<n→p≤L.length→xs.length≤p→
  match toksL n (L.drop p) p with
  |.inl (e,q)=>Lp F10.L0 (F10.s0 (B L) xs p)=some (.ret,F10.e0r q e)
  |.inr ts=>∃us:List Tok,ts=us++[(0,[],L.length)]∧Lp F10.L0 (F10.s0 (B L) xs p)=some (.exit 0,F10.e0x0 (B L) (xs++us.map tokT))∧xs.length+us.length≤L.length
 |0,xs,p,hn,hp,hx=>by omega
 |n+1,xs,p,hn,hp,hx=>by
  have hr:=F10.round0 (B L) xs p
  rw[B_size]at hr
  by_cases he:p=L.length
  ·subst he
   rw[if_neg (by simp)]at hr
   rw[List.drop_length]
   simp only[toksL]
   exact⟨[],rfl,by simpa using Lp_exit hr,by simpa using hx⟩
  ·have hlt:p<L.length:=by omega
   have hin:inS (B L) (p:Int):=by unfold inS small;rw[B_size];omega
   rw[if_pos (by simp;omega),if_pos ⟨hin,by omega⟩,Int.toNat_natCast,B_list]at hr
   obtain⟨c,hc,hd⟩:=drop_at hlt
   have ht:toksL (n+1) (L.drop p) p=(match oneL (L.drop p)with
    |.inl e=>.inl (e,p)
    |.inr (k,t,m)=>match toksL n (((L.drop p).drop m).drop (blankL ((L.drop p).drop m))) (p+m+blankL ((L.drop p).drop m))with
     |.inl e=>.inl e
     |.inr r=>.inr ((k,t,p)::r)):=by
    rw[hd];rfl
   rw[ht]
   cases ho:oneL (L.drop p)with
   |inl e=>
    rw[ho]at hr
    exact Lp_exit hr
   |inr x=>
    obtain⟨k,t,m⟩:=x
    rw[ho]at hr
    simp only at hr ⊢
    obtain⟨m1,m2⟩:=oneL_len ho
    rw[List.length_drop]at m2
    have hw:IntKind.wrap .i64 ((p:Int)+(m:Int))=((p+m:Nat):Int):=by rw[wrap_id (by omega) (by omega)];omega
    have hb:=blankL_le _ (L.drop (p+m)) (Nat.le_refl _)
    rw[List.length_drop]at hb
    have hw2:IntKind.wrap .i64 (((p+m:Nat):Int)+(blankL (L.drop (p+m)):Int))=((p+m+blankL (L.drop (p+m)):Nat):Int):=by rw[wrap_id (by omega) (by omega)];omega
    rw[if_pos (by omega),hw,if_pos (by unfold inS small;rw[B_size];omega),Int.toNat_natCast,hw2]at hr
    have e0:(L.drop p).drop m=L.drop (p+m):=List.drop_drop
    have e1:(L.drop (p+m)).drop (blankL (L.drop (p+m)))=L.drop (p+m+blankL (L.drop (p+m))):=List.drop_drop
    rw[e0,e1]
    have ih:=tok_loop L hL n (xs++[tokT (k,t,p)]) (p+m+blankL (L.drop (p+m))) (by omega) (by omega) (by simp;omega)
    cases hk:toksL n (L.drop (p+m+blankL (L.drop (p+m)))) (p+m+blankL (L.drop (p+m)))with
    |inl e=>
     rw[hk]at ih
     exact Lp_step hr ih
    |inr ts=>
     rw[hk]at ih
     obtain⟨us,e1,e2,e3⟩:=ih
     refine⟨(k,t,p)::us,by rw[e1];rfl,?_,by simp at e3 ⊢;omega⟩
     rw[List.map_cons, ←List.singleton_append, ←List.append_assoc]
     exact Lp_step hr e2
theorem tokS_last {L:T8} {ts:List Tok} (hL:L.length≤65536) (h:tokS L=.inr ts):∃us,ts=us++[(0,[],L.length)]∧us.length≤L.length∧
  Lp F10.L0 (F10.s0 (B L) [] (blankL L))=some (.exit 0,F10.e0x0 (B L) (us.map tokT)):=by
 have hb:=blankL_le _ L (Nat.le_refl _)
 have hl:=tok_loop L hL (L.length+1) [] (blankL L) (by omega) hb (by simp)
 unfold tokS at h
 rw[h]at hl
 obtain⟨us,h1,h2,h3⟩:=hl
 exact⟨us,h1,by simpa using h3,by simpa using h2⟩
theorem env17:EnvOk glS Tryz.prog E17:=env16.fn mixed Tryz.func92 (by kernel_rfl) fun β args k r hr=>by
 unfold cTokens at hr
 split at hr
 ·rename_i s
  rw[B_of s]at hr ⊢
  generalize s.data.toList=L at*
  rw[B_list,B_size]at hr
  split at hr
  ·rename_i hs
   refine⟨_,_,hr,fun q=>?_⟩
   have:65536<L.length:=by
    rcases Nat.lt_or_ge 65536 L.length with h|h
    ·exact h
    ·rw[Nat.ble_eq_true_of_le h]at hs;cases hs
   rw[F10.start,B_size,if_pos (by simp;omega)];rfl
  ·rename_i hs
   rw[Nat.ble_eq]at hs
   have hb:=blankL_le _ L (Nat.le_refl _)
   have hst:∀{γ:Type} (q:List TV→List TV→Option γ),evalF Tryz.prog E16 Tryz.f92 [TV.d true 0 (D.str (B L))] q=_:=fun q=>F10.start (B L) q
   have hin:inS (B L) 0:=by unfold inS small;rw[B_size];omega
   simp only[B_size,if_neg (show ¬decide ((L.length:Int)>65536)=true by simp;omega),if_pos hin,B_list,List.drop_zero]at hst
   cases ht:tokS L with
   |inl e=>
    obtain⟨e,p⟩:=e
    rw[ht]at hr
    refine⟨_,_,hr,fun q=>?_⟩
    have hl:=tok_loop L hs (L.length+1) [] (blankL L) (by omega) hb (by simp)
    unfold tokS at ht
    rw[ht]at hl
    rw[hst,goLp_of hl,F10.behind0r];rfl
   |inr ts=>
    rw[ht]at hr
    refine⟨_,_,hr,fun q=>?_⟩
    obtain⟨us,e1,e2,e3⟩:=tokS_last hs ht
    rw[hst,goLp_of e3,F10.behind0x0,if_pos (by simp;omega),e1,B_size]
    rw[List.map_append];rfl
 ·cases hr
theorem env18:EnvOk glS Tryz.prog E18:=env17.fn mixed Tryz.func61 (by kernel_rfl) fun β args k r hr=>by
 unfold cNew at hr
 split at hr
 ·rename_i s
  split at hr
  ·rename_i hs
   exact⟨_,_,hr,fun q=>by rw[F14.start,hs];rfl⟩
  ·rename_i hs
   split at hr
   ·rename_i n p ht
    exact⟨_,_,hr,fun q=>by rw[F14.start,hs,ht];rfl⟩
   ·rename_i l ht
    exact⟨_,_,hr,fun q=>by rw[F14.start,hs,ht]⟩
 ·cases hr
end Go.Sd
namespace Go.Sd
open Go Go.Cm Go.Proofs Go.Sc
set_option maxRecDepth 100000
theorem at_lt {xs:List D} {a:Int} {x:D} (h0:0≤a) (h:xs[a.toNat]? =some x):0≤a∧a<(xs.length:Int):=by
 have:=(List.getElem?_eq_some_iff.1 h).1
 omega
theorem env19:EnvOk glS Tryz.prog E19:=env18.fn mixed Tryz.func41 (by kernel_rfl) fun β args k r hr=>by
 unfold cPeek at hr
 split at hr
 ·rename_i xs a
  unfold chkK at hr
  split at hr
  ·rename_i h0
   split at hr
   ·rename_i c t p hx
    refine⟨_,_,hr,fun q=>?_⟩
    rw[F17.start,if_pos (at_lt h0 hx),hx];rfl
   ·cases hr
  ·cases hr
 ·cases hr
theorem env20:EnvOk glS Tryz.prog E20:=env19.fn mixed Tryz.func118 (by kernel_rfl) fun β args k r hr=>by
 unfold cTake at hr
 split at hr
 ·rename_i xs a
  unfold chkK at hr
  split at hr
  ·rename_i h0
   have hw:IntKind.wrap .i64 (a+1)=a+1:=wrap_id (by omega) (by omega)
   split at hr
   ·rename_i c t p hx
    split at hr
    ·rename_i hc
     refine⟨_,_,hr,fun q=>?_⟩
     rw[F18.start,if_pos h0.1,hx]
     simp only[if_pos hc,hw];rfl
    ·rename_i hc
     refine⟨_,_,hr,fun q=>?_⟩
     rw[F18.start,if_pos h0.1,hx]
     simp only[if_neg hc];rfl
   ·cases hr
  ·cases hr
 ·cases hr
theorem env21:EnvOk glS Tryz.prog E21:=env20.fn mixed Tryz.func117 (by kernel_rfl) fun β args k r hr=>by
 unfold cIs at hr
 split at hr
 ·rename_i xs a s
  unfold chkK at hr
  split at hr
  ·rename_i h0
   split at hr
   ·rename_i c t p hx
    refine⟨_,_,hr,fun q=>?_⟩
    rw[F19.start,if_pos h0,hx]
    simp only[isB]
    by_cases h1:(c==1)=true
    ·rw[if_pos h1,h1];rfl
    ·rw[if_neg h1]
     rw[Bool.not_eq_true]at h1
     by_cases h4:(c==4)=true
     ·rw[if_pos h4,h1,h4];rfl
     ·rw[if_neg h4]
      rw[Bool.not_eq_true]at h4
      rw[h1,h4];rfl
   ·cases hr
  ·cases hr
 ·cases hr
theorem env22:EnvOk glS Tryz.prog E22:=env21.fn mixed Tryz.func93 (by kernel_rfl) fun β args k r hr=>by
 unfold cSkip at hr
 split at hr
 ·rename_i xs a s
  unfold chkK at hr
  split at hr
  ·rename_i h0
   split at hr
   ·rename_i c t p hx
    have st:∀{γ:Type} (q:List TV→List TV→Option γ),evalF Tryz.prog E21 Tryz.f93 [TV.ob true [TV.own true 4 xs,TV.d false 0 (D.int IntKind.i64 a)],TV.d true 0 (D.str s)] q=_:=fun q=>F20.start xs a s q
    simp only[if_pos h0.1,hx,if_pos h0]at st
    split at hr
    ·rename_i hb
     refine⟨_,_,hr,fun q=>?_⟩
     have hb':=hb
     simp only[isB]at hb'
     have hc:(!c==0)=true:=by
      have h:=(Bool.and_eq_true_iff.1 hb').1
      simp only[Bool.or_eq_true,beq_iff_eq]at h
      simp;omega
     rw[st,if_pos hb',if_pos hc,hb'];rfl
    ·rename_i hb
     refine⟨_,_,hr,fun q=>?_⟩
     simp only[isB]at hb
     rw[st,if_neg hb]
     rw[Bool.not_eq_true]at hb
     rw[hb];rfl
   ·cases hr
  ·cases hr
 ·cases hr
theorem env23:EnvOk glS Tryz.prog E23:=env22.fn mixed Tryz.func134 (by kernel_rfl) fun β args k r hr=>by
 unfold cBad at hr
 split at hr
 ·rename_i xs a
  unfold chkK at hr
  split at hr
  ·rename_i h0
   split at hr
   ·rename_i c t p hx
    refine⟨_,_,hr,fun q=>?_⟩
    rw[F29.start,if_pos h0,hx];rfl
   ·cases hr
  ·cases hr
 ·cases hr
theorem env24:EnvOk glS Tryz.prog E24:=env23.fn mixed Tryz.func119 (by kernel_rfl) fun β args k r hr=>by
 unfold cWant at hr
 split at hr
 ·rename_i xs a s
  unfold chkK at hr
  split at hr
  ·rename_i h0
   split at hr
   ·rename_i c t p hx
    have st:∀{γ:Type} (q:List TV→List TV→Option γ),evalF Tryz.prog E23 Tryz.f119 [TV.ob true [TV.own true 4 xs,TV.d false 0 (D.int IntKind.i64 a)],TV.d true 0 (D.str s)] q=_:=fun q=>F21.start xs a s q
    simp only[if_pos h0.1,hx,if_pos h0]at st
    split at hr
    ·rename_i hb
     refine⟨_,_,hr,fun q=>?_⟩
     simp only[isB]at hb
     rw[st,if_pos hb];rfl
    ·rename_i hb
     refine⟨_,_,hr,fun q=>?_⟩
     simp only[isB]at hb
     rw[st,if_neg hb];rfl
   ·cases hr
  ·cases hr
 ·cases hr
end Go.Sd
namespace Go.Sd
open Go Go.Cm Go.Proofs Go.Sc
set_option maxRecDepth 100000
def pars (xs:List D) (a d:Int):TV:=.ob true [.ob true [.own true 4 xs,.d false 0 (.int .i64 a)],.d false 0 (.int .i64 d)]
def zF:D:=.ag [.str ⟨#[]⟩,.str ⟨#[]⟩,.sl 5 [],.int .i64 0]
def ansP {β:Type} (o:Int→TV) (k:List TV→List TV→Option β):PR→Option β
 |.ok op nm ks p a=>k [.d true 5 (fmD op nm ks p),.d false 0 .nili] [o a]
 |.syn p a=>k [.d false 5 zF,.d false 0 (atD p (noD 20))] [o a]
 |.deep p a=>k [.d false 5 zF,.d true 0 (atD p (noD 21))] [o a]
 |.no=>none
def cAt {β:Type} (args:List TV) (k:List TV→List TV→Option β):Option β:=
 match args with
 |[.ob true [.ob true [.own true 4 xs,.d false 0 (.int .i64 a)],.d false 0 (.int .i64 d)],.d true 0 (.ifc 84 (.int .i64 n))]=>chkK (0≤a) (match xs[a.toNat]? with
  |some (.ag [.int .i64 _,.str _,.int .i64 p])=>k [.d true 0 (atD p (noD n))] [pars xs a d]
  |_=>none)
 |_=>none
def cTwo {β:Type} (args:List TV) (k:List TV→List TV→Option β):Option β:=
 match args with
 |[.d true 0 (.str op),.d true 5 (.ag [.str o1,.str n1,.sl 5 k1,.int .i64 p1]),.d true 5 (.ag [.str o2,.str n2,.sl 5 k2,.int .i64 p2])]=>
  k [.d true 5 (fmD op ⟨#[]⟩ [fmD o1 n1 k1 p1,fmD o2 n2 k2 p2] p1)] []
 |_=>none
def cSingle {β:Type} (n:Nat) (args:List TV) (k:List TV→List TV→Option β):Option β:=
 match args with
 |[.ob true [.ob true [.own true 4 xs,.d false 0 (.int .i64 a)],.d false 0 (.int .i64 d)],.d true 0 (.int .i64 lv)]=>
  chkK (okP xs a d lv n) (ansP (fun a=>pars xs a d) k (pSingle xs (d+1 - lv).toNat a))
 |_=>none
def cUntl {β:Type} (n:Nat) (args:List TV) (k:List TV→List TV→Option β):Option β:=
 match args with
 |[.ob true [.ob true [.own true 4 xs,.d false 0 (.int .i64 a)],.d false 0 (.int .i64 d)],.d true 0 (.int .i64 lv)]=>
  chkK (okP xs a d lv n) (ansP (fun a=>pars xs a d) k (pUntl xs (d+1 - lv).toNat a))
 |_=>none
def cImply {β:Type} (n:Nat) (args:List TV) (k:List TV→List TV→Option β):Option β:=
 match args with
 |[.ob true [.ob true [.own true 4 xs,.d false 0 (.int .i64 a)],.d false 0 (.int .i64 d)],.d true 0 (.int .i64 lv)]=>
  chkK (okP xs a d lv n) (ansP (fun a=>pars xs a d) k (pImply xs (d+1 - lv).toNat a))
 |_=>none
def cK {β:Type} (n:Nat) (args:List TV) (k:List TV→List TV→Option β):Option β:=
 match args with
 |[.d true 0 (.int .i64 lv),.cpo true (.ob true [.ob true [.own true 4 xs,.d false 0 (.int .i64 a)],.d false 0 (.int .i64 d)])]=>
  chkK (okP xs a d lv n) (ansP (fun a=>.cpo true (pars xs a d)) k (pK xs (d+1 - lv).toNat a))
 |_=>none
def cChain {β:Type} (nk nu:Nat) (args:List TV) (k:List TV→List TV→Option β):Option β:=
 match args with
 |[.ob true [.ob true [.own true 4 xs,.d false 0 (.int .i64 a)],.d false 0 (.int .i64 d)],.d true 0 (.str op),.d true 0 (.int .i64 lv),.fc true true 64 [(0,false)]]=>
  chkK (okP xs a d lv nu) (ansP (fun a=>pars xs a d) k (pChain xs op (d+1 - lv).toNat true a))
 |[.ob true [.ob true [.own true 4 xs,.d false 0 (.int .i64 a)],.d false 0 (.int .i64 d)],.d true 0 (.str op),.d true 0 (.int .i64 lv),.fc true false 63 [(0,true)]]=>
  chkK (okP xs a d lv nk) (ansP (fun a=>pars xs a d) k (pChain xs op (d+1 - lv).toNat false a))
 |_=>none
def cRight {β:Type} (ni nu:Nat) (args:List TV) (k:List TV→List TV→Option β):Option β:=
 match args with
 |[.ob true [.ob true [.own true 4 xs,.d false 0 (.int .i64 a)],.d false 0 (.int .i64 d)],.d true 0 (.int .i64 lv),.d true 5 (.ag [.str o,.str nm,.sl 5 ks,.int .i64 p]),.fc true true 64 [(0,false)],.d true 0 (.sl 0 [.str s1,.str s2,.str s3])]=>
  chkK (okP xs a d (lv+1) nu) (ansP (fun a=>pars xs a d) k (pRight xs (d - lv).toNat true o nm ks p [s1,s2,s3] a))
 |[.ob true [.ob true [.own true 4 xs,.d false 0 (.int .i64 a)],.d false 0 (.int .i64 d)],.d true 0 (.int .i64 lv),.d true 5 (.ag [.str o,.str nm,.sl 5 ks,.int .i64 p]),.fc true true 40 [(0,false)],.d true 0 (.sl 0 [.str s1])]=>
  chkK (okP xs a d (lv+1) ni) (ansP (fun a=>pars xs a d) k (pRight xs (d - lv).toNat false o nm ks p [s1] a))
 |_=>none
def io2:Nat→Bool:=fun j=>Nat.beq j 1
def Q0:Env:=E24.add 16 io0 cNum
def Q1:Env:=Q0.add 42 io1 cAt
def Q2:Env:=Q1.add 94 io0 cTwo
def QP (B:Bd):Env:=((((((Q2.add 95 io1 (cSingle B.ns)).add 64 io1 (cUntl B.nu)).add 63 io2 (cK B.nk)).add 62 io1 (cChain B.nck B.ncu)).add 65 io1 (cRight B.nri B.nru)).add 40 io1 (cImply B.ni))
end Go.Sd
namespace Go.Sd
open Go Go.Cm Go.Proofs Go.Sc
set_option maxRecDepth 100000
namespace A57
noncomputable def X:Fx:=⟨Tryz.prog,Q0,16,2⟩
theorem start {β:Type} (xs:List D) (a:Int) (d:Int) (n:Int) (k:List TV→List TV→Option β):evalF Tryz.prog Q0 Tryz.f42 [.ob true [.ob true [.own true 4 xs,.d false 0 (.int .i64 a)],.d false 0 (.int .i64 d)],.d true 0 (.ifc (84:TypeId) (.int .i64 n))] k=if 0≤a then match xs[a.toNat]? with
   |some (.ag [D.int .i64 c2,D.str t3,D.int .i64 p4])=>k [.d true 0 (.ifc 114 (.pt 3 (.ag [D.int .i64 p4,D.ifc 84 (.int .i64 n)])))] [.ob true [.ob true [.own true 4 xs,.d false 0 (.int .i64 a)],.d false 0 (.int .i64 d)]]
   |x=>none else none:=by kernel_rfl
end A57
namespace A107
noncomputable def X:Fx:=⟨Tryz.prog,Q1,64,3⟩
theorem start {β:Type} (s:ByteArray) (o:ByteArray) (nm:ByteArray) (o2:ByteArray) (nm2:ByteArray) (ks:List D) (ks2:List D) (p:Int) (p2:Int) (k:List TV→List TV→Option β):evalF Tryz.prog Q1 Tryz.f94 [.d true 0 (.str s),.d true 5 (.ag [D.str o,D.str nm,D.sl 5 ks,D.int .i64 p]),.d true 5 (.ag [D.str o2,D.str nm2,D.sl 5 ks2,D.int .i64 p2])] k=k [.d true 5 (.ag [D.str s,D.str (ByteArray.mk #[]),D.sl 5 [D.ag [D.str o,D.str nm,D.sl 5 ks,D.int .i64 p],D.ag [D.str o2,D.str nm2,D.sl 5 ks2,D.int .i64 p2]],D.int .i64 p])] []:=by kernel_rfl
end A107
end Go.Sd
namespace Go.Sd
open Go Go.Cm Go.Proofs Go.Sc
set_option maxRecDepth 100000
namespace B108
  section
  variable (B:Bd)
noncomputable def X:Fx:=⟨Tryz.prog,QP B,48,2⟩
theorem start {β:Type} (xs:List D) (a:Int) (d:Int) (lv:Int) (k:List TV→List TV→Option β):evalF Tryz.prog (QP B) Tryz.f95 [.ob true [.ob true [.own true 4 xs,.d false 0 (.int .i64 a)],.d false 0 (.int .i64 d)],.d true 0 (.int .i64 lv)] k=if decide (lv>d)=true then if 0≤a then match xs[a.toNat]? with
   |some (.ag [D.int .i64 n4,D.str s5,D.int .i64 p6])=>k [.d false 5 (.ag [D.str (ByteArray.mk #[]),D.str (ByteArray.mk #[]),D.sl 5 [],D.int .i64 0]),.d true 0 (.ifc 114 (.pt 3 (.ag [D.int .i64 p6,D.ifc 84 (.int .i64 21)])))] [.ob true [.ob true [.own true 4 xs,.d false 0 (.int .i64 a)],.d false 0 (.int .i64 d)]]
   |x=>none else none else if 0≤a then match xs[a.toNat]? with
   |some (.ag [D.int .i64 c8,D.str t9,D.int .i64 p10])=>if(c8==3)=true then if 0≤a∧a<34359738368 then match xs[a.toNat]? with
    |some (.ag [D.int .i64 c14,D.str t15,D.int .i64 p16])=>if(!c14==0)=true then k [.d true 5 (.ag [D.str (ByteArray.mk #[108,97,98,101,108]),D.str t9,D.sl 5 [],D.int .i64 p10]),.d false 0 D.nili] [.ob true [.ob true [.own true 4 xs,.d false 0 (.int .i64 (a+1))],.d false 0 (.int .i64 d)]]else k [.d true 5 (.ag [D.str (ByteArray.mk #[108,97,98,101,108]),D.str t9,D.sl 5 [],D.int .i64 p10]),.d false 0 D.nili] [.ob true [.ob true [.own true 4 xs,.d false 0 (.int .i64 a)],.d false 0 (.int .i64 d)]]
    |x=>none else none else if 0≤a then match xs[a.toNat]? with
    |some (.ag [D.int .i64 c20,D.str t21,D.int .i64 n22])=>if((c20==1||c20==4)&&t21.toList==[116,114,117,101])=true then if((c20==1||c20==4)&&t21.toList==[116,114,117,101])=true then if 0≤a∧a<34359738368 then match xs[a.toNat]? with
     |some (.ag [D.int .i64 c26,D.str t27,D.int .i64 p28])=>if(!c26==0)=true then k [.d true 5 (.ag [D.str t9,D.str (ByteArray.mk #[]),D.sl 5 [],D.int .i64 p10]),.d false 0 D.nili] [.ob true [.ob true [.own true 4 xs,.d false 0 (.int .i64 (a+1))],.d false 0 (.int .i64 d)]]else k [.d true 5 (.ag [D.str t9,D.str (ByteArray.mk #[]),D.sl 5 [],D.int .i64 p10]),.d false 0 D.nili] [.ob true [.ob true [.own true 4 xs,.d false 0 (.int .i64 a)],.d false 0 (.int .i64 d)]]
     |x=>none else none else if 0≤a then match xs[a.toNat]? with
     |some (.ag [D.int .i64 c32,D.str t33,D.int .i64 n34])=>if((c32==1||c32==4)&&t33.toList==[33])=true then if((c32==1||c32==4)&&t33.toList==[33])=true then if 0≤a∧a<34359738368 then match xs[a.toNat]? with
      |some (.ag [D.int .i64 c38,D.str t39,D.int .i64 p40])=>if(!c38==0)=true then if okP xs (a+1) d (IntKind.wrap .i64 (lv+1)) B.ns then match pSingle xs (Int.toNat (d+1 - IntKind.wrap .i64 (lv+1))) (a+1)with
       |PR.ok op42 nm43 ks44 p45 a46=>k [.d true 5 (.ag [D.str t9,D.str (ByteArray.mk #[]),D.sl 5 [D.ag [D.str op42,D.str nm43,D.sl 5 ks44,D.int .i64 p45]],D.int .i64 p10]),.d false 0 D.nili] [.ob true [.ob true [.own true 4 xs,.d false 0 (.int .i64 a46)],.d false 0 (.int .i64 d)]]
       |PR.syn p50 a51=>k [.d false 5 (.ag [D.str (ByteArray.mk #[]),D.str (ByteArray.mk #[]),D.sl 5 [],D.int .i64 0]),.d false 0 (.ifc 114 (.pt 3 (.ag [D.int .i64 p50,D.ifc 84 (.int .i64 20)])))] [.ob true [.ob true [.own true 4 xs,.d false 0 (.int .i64 a51)],.d false 0 (.int .i64 d)]]
       |PR.deep p55 a56=>k [.d false 5 (.ag [D.str (ByteArray.mk #[]),D.str (ByteArray.mk #[]),D.sl 5 [],D.int .i64 0]),.d true 0 (.ifc 114 (.pt 3 (.ag [D.int .i64 p55,D.ifc 84 (.int .i64 21)])))] [.ob true [.ob true [.own true 4 xs,.d false 0 (.int .i64 a56)],.d false 0 (.int .i64 d)]]
       |PR.no=>none else none else if okP xs a d (IntKind.wrap .i64 (lv+1)) B.ns then match pSingle xs (Int.toNat (d+1 - IntKind.wrap .i64 (lv+1))) a with
       |PR.ok op61 nm62 ks63 p64 a65=>k [.d true 5 (.ag [D.str t9,D.str (ByteArray.mk #[]),D.sl 5 [D.ag [D.str op61,D.str nm62,D.sl 5 ks63,D.int .i64 p64]],D.int .i64 p10]),.d false 0 D.nili] [.ob true [.ob true [.own true 4 xs,.d false 0 (.int .i64 a65)],.d false 0 (.int .i64 d)]]
       |PR.syn p69 a70=>k [.d false 5 (.ag [D.str (ByteArray.mk #[]),D.str (ByteArray.mk #[]),D.sl 5 [],D.int .i64 0]),.d false 0 (.ifc 114 (.pt 3 (.ag [D.int .i64 p69,D.ifc 84 (.int .i64 20)])))] [.ob true [.ob true [.own true 4 xs,.d false 0 (.int .i64 a70)],.d false 0 (.int .i64 d)]]
       |PR.deep p74 a75=>k [.d false 5 (.ag [D.str (ByteArray.mk #[]),D.str (ByteArray.mk #[]),D.sl 5 [],D.int .i64 0]),.d true 0 (.ifc 114 (.pt 3 (.ag [D.int .i64 p74,D.ifc 84 (.int .i64 21)])))] [.ob true [.ob true [.own true 4 xs,.d false 0 (.int .i64 a75)],.d false 0 (.int .i64 d)]]
       |PR.no=>none else none
      |x=>none else none else if 0≤a∧a<34359738368 then match xs[a.toNat]? with
      |some (.ag [D.int .i64 c80,D.str t81,D.int .i64 p82])=>if((c80==1||c80==4)&&t81.toList==[40])=true then if okP xs (a+1) d (IntKind.wrap .i64 (lv+1)) B.ni then match pImply xs (Int.toNat (d+1 - IntKind.wrap .i64 (lv+1))) (a+1)with
       |PR.ok op86 nm87 ks88 p89 a90=>if 0≤a90∧a90<34359738368 then match xs[a90.toNat]? with
        |some (.ag [D.int .i64 c94,D.str t95,D.int .i64 p96])=>if((c94==1||c94==4)&&t95.toList==[41])=true then k [.d true 5 (.ag [D.str op86,D.str nm87,D.sl 5 ks88,D.int .i64 p10]),.d false 0 D.nili] [.ob true [.ob true [.own true 4 xs,.d false 0 (.int .i64 (a90+1))],.d false 0 (.int .i64 d)]]else k [.d false 5 (.ag [D.str (ByteArray.mk #[]),D.str (ByteArray.mk #[]),D.sl 5 [],D.int .i64 0]),.d false 0 (.ifc 114 (.pt 3 (.ag [D.int .i64 p96,D.ifc 84 (.int .i64 20)])))] [.ob true [.ob true [.own true 4 xs,.d false 0 (.int .i64 a90)],.d false 0 (.int .i64 d)]]
        |x=>none else none
       |PR.syn p104 a105=>k [.d false 5 (.ag [D.str (ByteArray.mk #[]),D.str (ByteArray.mk #[]),D.sl 5 [],D.int .i64 0]),.d false 0 (.ifc 114 (.pt 3 (.ag [D.int .i64 p104,D.ifc 84 (.int .i64 20)])))] [.ob true [.ob true [.own true 4 xs,.d false 0 (.int .i64 a105)],.d false 0 (.int .i64 d)]]
       |PR.deep p109 a110=>k [.d false 5 (.ag [D.str (ByteArray.mk #[]),D.str (ByteArray.mk #[]),D.sl 5 [],D.int .i64 0]),.d true 0 (.ifc 114 (.pt 3 (.ag [D.int .i64 p109,D.ifc 84 (.int .i64 21)])))] [.ob true [.ob true [.own true 4 xs,.d false 0 (.int .i64 a110)],.d false 0 (.int .i64 d)]]
       |PR.no=>none else none else k [.d false 5 (.ag [D.str (ByteArray.mk #[]),D.str (ByteArray.mk #[]),D.sl 5 [],D.int .i64 0]),.d false 0 (.ifc 114 (.pt 3 (.ag [D.int .i64 p82,D.ifc 84 (.int .i64 20)])))] [.ob true [.ob true [.own true 4 xs,.d false 0 (.int .i64 a)],.d false 0 (.int .i64 d)]]
      |x=>none else none else if 0≤a then match xs[a.toNat]? with
      |some (.ag [D.int .i64 c118,D.str t119,D.int .i64 n120])=>if((c118==1||c118==4)&&t119.toList==[88])=true then if((c118==1||c118==4)&&t119.toList==[88])=true then if 0≤a∧a<34359738368 then match xs[a.toNat]? with
       |some (.ag [D.int .i64 c124,D.str t125,D.int .i64 p126])=>if(!c124==0)=true then if okP xs (a+1) d (IntKind.wrap .i64 (lv+1)) B.ns then match pSingle xs (Int.toNat (d+1 - IntKind.wrap .i64 (lv+1))) (a+1)with
        |PR.ok op128 nm129 ks130 p131 a132=>k [.d true 5 (.ag [D.str t9,D.str (ByteArray.mk #[]),D.sl 5 [D.ag [D.str op128,D.str nm129,D.sl 5 ks130,D.int .i64 p131]],D.int .i64 p10]),.d false 0 D.nili] [.ob true [.ob true [.own true 4 xs,.d false 0 (.int .i64 a132)],.d false 0 (.int .i64 d)]]
        |PR.syn p136 a137=>k [.d false 5 (.ag [D.str (ByteArray.mk #[]),D.str (ByteArray.mk #[]),D.sl 5 [],D.int .i64 0]),.d false 0 (.ifc 114 (.pt 3 (.ag [D.int .i64 p136,D.ifc 84 (.int .i64 20)])))] [.ob true [.ob true [.own true 4 xs,.d false 0 (.int .i64 a137)],.d false 0 (.int .i64 d)]]
        |PR.deep p141 a142=>k [.d false 5 (.ag [D.str (ByteArray.mk #[]),D.str (ByteArray.mk #[]),D.sl 5 [],D.int .i64 0]),.d true 0 (.ifc 114 (.pt 3 (.ag [D.int .i64 p141,D.ifc 84 (.int .i64 21)])))] [.ob true [.ob true [.own true 4 xs,.d false 0 (.int .i64 a142)],.d false 0 (.int .i64 d)]]
        |PR.no=>none else none else if okP xs a d (IntKind.wrap .i64 (lv+1)) B.ns then match pSingle xs (Int.toNat (d+1 - IntKind.wrap .i64 (lv+1))) a with
        |PR.ok op147 nm148 ks149 p150 a151=>k [.d true 5 (.ag [D.str t9,D.str (ByteArray.mk #[]),D.sl 5 [D.ag [D.str op147,D.str nm148,D.sl 5 ks149,D.int .i64 p150]],D.int .i64 p10]),.d false 0 D.nili] [.ob true [.ob true [.own true 4 xs,.d false 0 (.int .i64 a151)],.d false 0 (.int .i64 d)]]
        |PR.syn p155 a156=>k [.d false 5 (.ag [D.str (ByteArray.mk #[]),D.str (ByteArray.mk #[]),D.sl 5 [],D.int .i64 0]),.d false 0 (.ifc 114 (.pt 3 (.ag [D.int .i64 p155,D.ifc 84 (.int .i64 20)])))] [.ob true [.ob true [.own true 4 xs,.d false 0 (.int .i64 a156)],.d false 0 (.int .i64 d)]]
        |PR.deep p160 a161=>k [.d false 5 (.ag [D.str (ByteArray.mk #[]),D.str (ByteArray.mk #[]),D.sl 5 [],D.int .i64 0]),.d true 0 (.ifc 114 (.pt 3 (.ag [D.int .i64 p160,D.ifc 84 (.int .i64 21)])))] [.ob true [.ob true [.own true 4 xs,.d false 0 (.int .i64 a161)],.d false 0 (.int .i64 d)]]
        |PR.no=>none else none
       |x=>none else none else if 0≤a∧a<34359738368 then match xs[a.toNat]? with
       |some (.ag [D.int .i64 c166,D.str t167,D.int .i64 p168])=>if((c166==1||c166==4)&&t167.toList==[40])=true then if okP xs (a+1) d (IntKind.wrap .i64 (lv+1)) B.ni then match pImply xs (Int.toNat (d+1 - IntKind.wrap .i64 (lv+1))) (a+1)with
        |PR.ok op172 nm173 ks174 p175 a176=>if 0≤a176∧a176<34359738368 then match xs[a176.toNat]? with
         |some (.ag [D.int .i64 c180,D.str t181,D.int .i64 p182])=>if((c180==1||c180==4)&&t181.toList==[41])=true then k [.d true 5 (.ag [D.str op172,D.str nm173,D.sl 5 ks174,D.int .i64 p10]),.d false 0 D.nili] [.ob true [.ob true [.own true 4 xs,.d false 0 (.int .i64 (a176+1))],.d false 0 (.int .i64 d)]]else k [.d false 5 (.ag [D.str (ByteArray.mk #[]),D.str (ByteArray.mk #[]),D.sl 5 [],D.int .i64 0]),.d false 0 (.ifc 114 (.pt 3 (.ag [D.int .i64 p182,D.ifc 84 (.int .i64 20)])))] [.ob true [.ob true [.own true 4 xs,.d false 0 (.int .i64 a176)],.d false 0 (.int .i64 d)]]
         |x=>none else none
        |PR.syn p190 a191=>k [.d false 5 (.ag [D.str (ByteArray.mk #[]),D.str (ByteArray.mk #[]),D.sl 5 [],D.int .i64 0]),.d false 0 (.ifc 114 (.pt 3 (.ag [D.int .i64 p190,D.ifc 84 (.int .i64 20)])))] [.ob true [.ob true [.own true 4 xs,.d false 0 (.int .i64 a191)],.d false 0 (.int .i64 d)]]
        |PR.deep p195 a196=>k [.d false 5 (.ag [D.str (ByteArray.mk #[]),D.str (ByteArray.mk #[]),D.sl 5 [],D.int .i64 0]),.d true 0 (.ifc 114 (.pt 3 (.ag [D.int .i64 p195,D.ifc 84 (.int .i64 21)])))] [.ob true [.ob true [.own true 4 xs,.d false 0 (.int .i64 a196)],.d false 0 (.int .i64 d)]]
        |PR.no=>none else none else k [.d false 5 (.ag [D.str (ByteArray.mk #[]),D.str (ByteArray.mk #[]),D.sl 5 [],D.int .i64 0]),.d false 0 (.ifc 114 (.pt 3 (.ag [D.int .i64 p168,D.ifc 84 (.int .i64 20)])))] [.ob true [.ob true [.own true 4 xs,.d false 0 (.int .i64 a)],.d false 0 (.int .i64 d)]]
       |x=>none else none else if 0≤a then match xs[a.toNat]? with
       |some (.ag [D.int .i64 c204,D.str t205,D.int .i64 n206])=>if((c204==1||c204==4)&&t205.toList==[70])=true then if((c204==1||c204==4)&&t205.toList==[70])=true then if 0≤a∧a<34359738368 then match xs[a.toNat]? with
        |some (.ag [D.int .i64 c210,D.str t211,D.int .i64 p212])=>if(!c210==0)=true then if okP xs (a+1) d (IntKind.wrap .i64 (lv+1)) B.ns then match pSingle xs (Int.toNat (d+1 - IntKind.wrap .i64 (lv+1))) (a+1)with
         |PR.ok op214 nm215 ks216 p217 a218=>k [.d true 5 (.ag [D.str t9,D.str (ByteArray.mk #[]),D.sl 5 [D.ag [D.str op214,D.str nm215,D.sl 5 ks216,D.int .i64 p217]],D.int .i64 p10]),.d false 0 D.nili] [.ob true [.ob true [.own true 4 xs,.d false 0 (.int .i64 a218)],.d false 0 (.int .i64 d)]]
         |PR.syn p222 a223=>k [.d false 5 (.ag [D.str (ByteArray.mk #[]),D.str (ByteArray.mk #[]),D.sl 5 [],D.int .i64 0]),.d false 0 (.ifc 114 (.pt 3 (.ag [D.int .i64 p222,D.ifc 84 (.int .i64 20)])))] [.ob true [.ob true [.own true 4 xs,.d false 0 (.int .i64 a223)],.d false 0 (.int .i64 d)]]
         |PR.deep p227 a228=>k [.d false 5 (.ag [D.str (ByteArray.mk #[]),D.str (ByteArray.mk #[]),D.sl 5 [],D.int .i64 0]),.d true 0 (.ifc 114 (.pt 3 (.ag [D.int .i64 p227,D.ifc 84 (.int .i64 21)])))] [.ob true [.ob true [.own true 4 xs,.d false 0 (.int .i64 a228)],.d false 0 (.int .i64 d)]]
         |PR.no=>none else none else if okP xs a d (IntKind.wrap .i64 (lv+1)) B.ns then match pSingle xs (Int.toNat (d+1 - IntKind.wrap .i64 (lv+1))) a with
         |PR.ok op233 nm234 ks235 p236 a237=>k [.d true 5 (.ag [D.str t9,D.str (ByteArray.mk #[]),D.sl 5 [D.ag [D.str op233,D.str nm234,D.sl 5 ks235,D.int .i64 p236]],D.int .i64 p10]),.d false 0 D.nili] [.ob true [.ob true [.own true 4 xs,.d false 0 (.int .i64 a237)],.d false 0 (.int .i64 d)]]
         |PR.syn p241 a242=>k [.d false 5 (.ag [D.str (ByteArray.mk #[]),D.str (ByteArray.mk #[]),D.sl 5 [],D.int .i64 0]),.d false 0 (.ifc 114 (.pt 3 (.ag [D.int .i64 p241,D.ifc 84 (.int .i64 20)])))] [.ob true [.ob true [.own true 4 xs,.d false 0 (.int .i64 a242)],.d false 0 (.int .i64 d)]]
         |PR.deep p246 a247=>k [.d false 5 (.ag [D.str (ByteArray.mk #[]),D.str (ByteArray.mk #[]),D.sl 5 [],D.int .i64 0]),.d true 0 (.ifc 114 (.pt 3 (.ag [D.int .i64 p246,D.ifc 84 (.int .i64 21)])))] [.ob true [.ob true [.own true 4 xs,.d false 0 (.int .i64 a247)],.d false 0 (.int .i64 d)]]
         |PR.no=>none else none
        |x=>none else none else if 0≤a∧a<34359738368 then match xs[a.toNat]? with
        |some (.ag [D.int .i64 c252,D.str t253,D.int .i64 p254])=>if((c252==1||c252==4)&&t253.toList==[40])=true then if okP xs (a+1) d (IntKind.wrap .i64 (lv+1)) B.ni then match pImply xs (Int.toNat (d+1 - IntKind.wrap .i64 (lv+1))) (a+1)with
         |PR.ok op258 nm259 ks260 p261 a262=>if 0≤a262∧a262<34359738368 then match xs[a262.toNat]? with
          |some (.ag [D.int .i64 c266,D.str t267,D.int .i64 p268])=>if((c266==1||c266==4)&&t267.toList==[41])=true then k [.d true 5 (.ag [D.str op258,D.str nm259,D.sl 5 ks260,D.int .i64 p10]),.d false 0 D.nili] [.ob true [.ob true [.own true 4 xs,.d false 0 (.int .i64 (a262+1))],.d false 0 (.int .i64 d)]]else k [.d false 5 (.ag [D.str (ByteArray.mk #[]),D.str (ByteArray.mk #[]),D.sl 5 [],D.int .i64 0]),.d false 0 (.ifc 114 (.pt 3 (.ag [D.int .i64 p268,D.ifc 84 (.int .i64 20)])))] [.ob true [.ob true [.own true 4 xs,.d false 0 (.int .i64 a262)],.d false 0 (.int .i64 d)]]
          |x=>none else none
         |PR.syn p276 a277=>k [.d false 5 (.ag [D.str (ByteArray.mk #[]),D.str (ByteArray.mk #[]),D.sl 5 [],D.int .i64 0]),.d false 0 (.ifc 114 (.pt 3 (.ag [D.int .i64 p276,D.ifc 84 (.int .i64 20)])))] [.ob true [.ob true [.own true 4 xs,.d false 0 (.int .i64 a277)],.d false 0 (.int .i64 d)]]
         |PR.deep p281 a282=>k [.d false 5 (.ag [D.str (ByteArray.mk #[]),D.str (ByteArray.mk #[]),D.sl 5 [],D.int .i64 0]),.d true 0 (.ifc 114 (.pt 3 (.ag [D.int .i64 p281,D.ifc 84 (.int .i64 21)])))] [.ob true [.ob true [.own true 4 xs,.d false 0 (.int .i64 a282)],.d false 0 (.int .i64 d)]]
         |PR.no=>none else none else k [.d false 5 (.ag [D.str (ByteArray.mk #[]),D.str (ByteArray.mk #[]),D.sl 5 [],D.int .i64 0]),.d false 0 (.ifc 114 (.pt 3 (.ag [D.int .i64 p254,D.ifc 84 (.int .i64 20)])))] [.ob true [.ob true [.own true 4 xs,.d false 0 (.int .i64 a)],.d false 0 (.int .i64 d)]]
        |x=>none else none else if 0≤a then match xs[a.toNat]? with
        |some (.ag [D.int .i64 c290,D.str t291,D.int .i64 n292])=>if((c290==1||c290==4)&&t291.toList==[71])=true then if 0≤a∧a<34359738368 then match xs[a.toNat]? with
         |some (.ag [D.int .i64 c295,D.str t296,D.int .i64 p297])=>if(!c295==0)=true then if okP xs (a+1) d (IntKind.wrap .i64 (lv+1)) B.ns then match pSingle xs (Int.toNat (d+1 - IntKind.wrap .i64 (lv+1))) (a+1)with
          |PR.ok op299 nm300 ks301 p302 a303=>k [.d true 5 (.ag [D.str t9,D.str (ByteArray.mk #[]),D.sl 5 [D.ag [D.str op299,D.str nm300,D.sl 5 ks301,D.int .i64 p302]],D.int .i64 p10]),.d false 0 D.nili] [.ob true [.ob true [.own true 4 xs,.d false 0 (.int .i64 a303)],.d false 0 (.int .i64 d)]]
          |PR.syn p307 a308=>k [.d false 5 (.ag [D.str (ByteArray.mk #[]),D.str (ByteArray.mk #[]),D.sl 5 [],D.int .i64 0]),.d false 0 (.ifc 114 (.pt 3 (.ag [D.int .i64 p307,D.ifc 84 (.int .i64 20)])))] [.ob true [.ob true [.own true 4 xs,.d false 0 (.int .i64 a308)],.d false 0 (.int .i64 d)]]
          |PR.deep p312 a313=>k [.d false 5 (.ag [D.str (ByteArray.mk #[]),D.str (ByteArray.mk #[]),D.sl 5 [],D.int .i64 0]),.d true 0 (.ifc 114 (.pt 3 (.ag [D.int .i64 p312,D.ifc 84 (.int .i64 21)])))] [.ob true [.ob true [.own true 4 xs,.d false 0 (.int .i64 a313)],.d false 0 (.int .i64 d)]]
          |PR.no=>none else none else if okP xs a d (IntKind.wrap .i64 (lv+1)) B.ns then match pSingle xs (Int.toNat (d+1 - IntKind.wrap .i64 (lv+1))) a with
          |PR.ok op318 nm319 ks320 p321 a322=>k [.d true 5 (.ag [D.str t9,D.str (ByteArray.mk #[]),D.sl 5 [D.ag [D.str op318,D.str nm319,D.sl 5 ks320,D.int .i64 p321]],D.int .i64 p10]),.d false 0 D.nili] [.ob true [.ob true [.own true 4 xs,.d false 0 (.int .i64 a322)],.d false 0 (.int .i64 d)]]
          |PR.syn p326 a327=>k [.d false 5 (.ag [D.str (ByteArray.mk #[]),D.str (ByteArray.mk #[]),D.sl 5 [],D.int .i64 0]),.d false 0 (.ifc 114 (.pt 3 (.ag [D.int .i64 p326,D.ifc 84 (.int .i64 20)])))] [.ob true [.ob true [.own true 4 xs,.d false 0 (.int .i64 a327)],.d false 0 (.int .i64 d)]]
          |PR.deep p331 a332=>k [.d false 5 (.ag [D.str (ByteArray.mk #[]),D.str (ByteArray.mk #[]),D.sl 5 [],D.int .i64 0]),.d true 0 (.ifc 114 (.pt 3 (.ag [D.int .i64 p331,D.ifc 84 (.int .i64 21)])))] [.ob true [.ob true [.own true 4 xs,.d false 0 (.int .i64 a332)],.d false 0 (.int .i64 d)]]
          |PR.no=>none else none
         |x=>none else none else if 0≤a∧a<34359738368 then match xs[a.toNat]? with
         |some (.ag [D.int .i64 c337,D.str t338,D.int .i64 p339])=>if((c337==1||c337==4)&&t338.toList==[40])=true then if okP xs (a+1) d (IntKind.wrap .i64 (lv+1)) B.ni then match pImply xs (Int.toNat (d+1 - IntKind.wrap .i64 (lv+1))) (a+1)with
          |PR.ok op343 nm344 ks345 p346 a347=>if 0≤a347∧a347<34359738368 then match xs[a347.toNat]? with
           |some (.ag [D.int .i64 c351,D.str t352,D.int .i64 p353])=>if((c351==1||c351==4)&&t352.toList==[41])=true then k [.d true 5 (.ag [D.str op343,D.str nm344,D.sl 5 ks345,D.int .i64 p10]),.d false 0 D.nili] [.ob true [.ob true [.own true 4 xs,.d false 0 (.int .i64 (a347+1))],.d false 0 (.int .i64 d)]]else k [.d false 5 (.ag [D.str (ByteArray.mk #[]),D.str (ByteArray.mk #[]),D.sl 5 [],D.int .i64 0]),.d false 0 (.ifc 114 (.pt 3 (.ag [D.int .i64 p353,D.ifc 84 (.int .i64 20)])))] [.ob true [.ob true [.own true 4 xs,.d false 0 (.int .i64 a347)],.d false 0 (.int .i64 d)]]
           |x=>none else none
          |PR.syn p361 a362=>k [.d false 5 (.ag [D.str (ByteArray.mk #[]),D.str (ByteArray.mk #[]),D.sl 5 [],D.int .i64 0]),.d false 0 (.ifc 114 (.pt 3 (.ag [D.int .i64 p361,D.ifc 84 (.int .i64 20)])))] [.ob true [.ob true [.own true 4 xs,.d false 0 (.int .i64 a362)],.d false 0 (.int .i64 d)]]
          |PR.deep p366 a367=>k [.d false 5 (.ag [D.str (ByteArray.mk #[]),D.str (ByteArray.mk #[]),D.sl 5 [],D.int .i64 0]),.d true 0 (.ifc 114 (.pt 3 (.ag [D.int .i64 p366,D.ifc 84 (.int .i64 21)])))] [.ob true [.ob true [.own true 4 xs,.d false 0 (.int .i64 a367)],.d false 0 (.int .i64 d)]]
          |PR.no=>none else none else k [.d false 5 (.ag [D.str (ByteArray.mk #[]),D.str (ByteArray.mk #[]),D.sl 5 [],D.int .i64 0]),.d false 0 (.ifc 114 (.pt 3 (.ag [D.int .i64 p339,D.ifc 84 (.int .i64 20)])))] [.ob true [.ob true [.own true 4 xs,.d false 0 (.int .i64 a)],.d false 0 (.int .i64 d)]]
         |x=>none else none
        |x=>none else none
       |x=>none else none
      |x=>none else none
     |x=>none else none else if 0≤a then match xs[a.toNat]? with
     |some (.ag [D.int .i64 c375,D.str t376,D.int .i64 n377])=>if((c375==1||c375==4)&&t376.toList==[102,97,108,115,101])=true then if 0≤a∧a<34359738368 then match xs[a.toNat]? with
      |some (.ag [D.int .i64 c380,D.str t381,D.int .i64 p382])=>if(!c380==0)=true then k [.d true 5 (.ag [D.str t9,D.str (ByteArray.mk #[]),D.sl 5 [],D.int .i64 p10]),.d false 0 D.nili] [.ob true [.ob true [.own true 4 xs,.d false 0 (.int .i64 (a+1))],.d false 0 (.int .i64 d)]]else k [.d true 5 (.ag [D.str t9,D.str (ByteArray.mk #[]),D.sl 5 [],D.int .i64 p10]),.d false 0 D.nili] [.ob true [.ob true [.own true 4 xs,.d false 0 (.int .i64 a)],.d false 0 (.int .i64 d)]]
      |x=>none else none else if 0≤a then match xs[a.toNat]? with
      |some (.ag [D.int .i64 c386,D.str t387,D.int .i64 n388])=>if((c386==1||c386==4)&&t387.toList==[33])=true then if((c386==1||c386==4)&&t387.toList==[33])=true then if 0≤a∧a<34359738368 then match xs[a.toNat]? with
       |some (.ag [D.int .i64 c392,D.str t393,D.int .i64 p394])=>if(!c392==0)=true then if okP xs (a+1) d (IntKind.wrap .i64 (lv+1)) B.ns then match pSingle xs (Int.toNat (d+1 - IntKind.wrap .i64 (lv+1))) (a+1)with
        |PR.ok op396 nm397 ks398 p399 a400=>k [.d true 5 (.ag [D.str t9,D.str (ByteArray.mk #[]),D.sl 5 [D.ag [D.str op396,D.str nm397,D.sl 5 ks398,D.int .i64 p399]],D.int .i64 p10]),.d false 0 D.nili] [.ob true [.ob true [.own true 4 xs,.d false 0 (.int .i64 a400)],.d false 0 (.int .i64 d)]]
        |PR.syn p404 a405=>k [.d false 5 (.ag [D.str (ByteArray.mk #[]),D.str (ByteArray.mk #[]),D.sl 5 [],D.int .i64 0]),.d false 0 (.ifc 114 (.pt 3 (.ag [D.int .i64 p404,D.ifc 84 (.int .i64 20)])))] [.ob true [.ob true [.own true 4 xs,.d false 0 (.int .i64 a405)],.d false 0 (.int .i64 d)]]
        |PR.deep p409 a410=>k [.d false 5 (.ag [D.str (ByteArray.mk #[]),D.str (ByteArray.mk #[]),D.sl 5 [],D.int .i64 0]),.d true 0 (.ifc 114 (.pt 3 (.ag [D.int .i64 p409,D.ifc 84 (.int .i64 21)])))] [.ob true [.ob true [.own true 4 xs,.d false 0 (.int .i64 a410)],.d false 0 (.int .i64 d)]]
        |PR.no=>none else none else if okP xs a d (IntKind.wrap .i64 (lv+1)) B.ns then match pSingle xs (Int.toNat (d+1 - IntKind.wrap .i64 (lv+1))) a with
        |PR.ok op415 nm416 ks417 p418 a419=>k [.d true 5 (.ag [D.str t9,D.str (ByteArray.mk #[]),D.sl 5 [D.ag [D.str op415,D.str nm416,D.sl 5 ks417,D.int .i64 p418]],D.int .i64 p10]),.d false 0 D.nili] [.ob true [.ob true [.own true 4 xs,.d false 0 (.int .i64 a419)],.d false 0 (.int .i64 d)]]
        |PR.syn p423 a424=>k [.d false 5 (.ag [D.str (ByteArray.mk #[]),D.str (ByteArray.mk #[]),D.sl 5 [],D.int .i64 0]),.d false 0 (.ifc 114 (.pt 3 (.ag [D.int .i64 p423,D.ifc 84 (.int .i64 20)])))] [.ob true [.ob true [.own true 4 xs,.d false 0 (.int .i64 a424)],.d false 0 (.int .i64 d)]]
        |PR.deep p428 a429=>k [.d false 5 (.ag [D.str (ByteArray.mk #[]),D.str (ByteArray.mk #[]),D.sl 5 [],D.int .i64 0]),.d true 0 (.ifc 114 (.pt 3 (.ag [D.int .i64 p428,D.ifc 84 (.int .i64 21)])))] [.ob true [.ob true [.own true 4 xs,.d false 0 (.int .i64 a429)],.d false 0 (.int .i64 d)]]
        |PR.no=>none else none
       |x=>none else none else if 0≤a∧a<34359738368 then match xs[a.toNat]? with
       |some (.ag [D.int .i64 c434,D.str t435,D.int .i64 p436])=>if((c434==1||c434==4)&&t435.toList==[40])=true then if okP xs (a+1) d (IntKind.wrap .i64 (lv+1)) B.ni then match pImply xs (Int.toNat (d+1 - IntKind.wrap .i64 (lv+1))) (a+1)with
        |PR.ok op440 nm441 ks442 p443 a444=>if 0≤a444∧a444<34359738368 then match xs[a444.toNat]? with
         |some (.ag [D.int .i64 c448,D.str t449,D.int .i64 p450])=>if((c448==1||c448==4)&&t449.toList==[41])=true then k [.d true 5 (.ag [D.str op440,D.str nm441,D.sl 5 ks442,D.int .i64 p10]),.d false 0 D.nili] [.ob true [.ob true [.own true 4 xs,.d false 0 (.int .i64 (a444+1))],.d false 0 (.int .i64 d)]]else k [.d false 5 (.ag [D.str (ByteArray.mk #[]),D.str (ByteArray.mk #[]),D.sl 5 [],D.int .i64 0]),.d false 0 (.ifc 114 (.pt 3 (.ag [D.int .i64 p450,D.ifc 84 (.int .i64 20)])))] [.ob true [.ob true [.own true 4 xs,.d false 0 (.int .i64 a444)],.d false 0 (.int .i64 d)]]
         |x=>none else none
        |PR.syn p458 a459=>k [.d false 5 (.ag [D.str (ByteArray.mk #[]),D.str (ByteArray.mk #[]),D.sl 5 [],D.int .i64 0]),.d false 0 (.ifc 114 (.pt 3 (.ag [D.int .i64 p458,D.ifc 84 (.int .i64 20)])))] [.ob true [.ob true [.own true 4 xs,.d false 0 (.int .i64 a459)],.d false 0 (.int .i64 d)]]
        |PR.deep p463 a464=>k [.d false 5 (.ag [D.str (ByteArray.mk #[]),D.str (ByteArray.mk #[]),D.sl 5 [],D.int .i64 0]),.d true 0 (.ifc 114 (.pt 3 (.ag [D.int .i64 p463,D.ifc 84 (.int .i64 21)])))] [.ob true [.ob true [.own true 4 xs,.d false 0 (.int .i64 a464)],.d false 0 (.int .i64 d)]]
        |PR.no=>none else none else k [.d false 5 (.ag [D.str (ByteArray.mk #[]),D.str (ByteArray.mk #[]),D.sl 5 [],D.int .i64 0]),.d false 0 (.ifc 114 (.pt 3 (.ag [D.int .i64 p436,D.ifc 84 (.int .i64 20)])))] [.ob true [.ob true [.own true 4 xs,.d false 0 (.int .i64 a)],.d false 0 (.int .i64 d)]]
       |x=>none else none else if 0≤a then match xs[a.toNat]? with
       |some (.ag [D.int .i64 c472,D.str t473,D.int .i64 n474])=>if((c472==1||c472==4)&&t473.toList==[88])=true then if((c472==1||c472==4)&&t473.toList==[88])=true then if 0≤a∧a<34359738368 then match xs[a.toNat]? with
        |some (.ag [D.int .i64 c478,D.str t479,D.int .i64 p480])=>if(!c478==0)=true then if okP xs (a+1) d (IntKind.wrap .i64 (lv+1)) B.ns then match pSingle xs (Int.toNat (d+1 - IntKind.wrap .i64 (lv+1))) (a+1)with
         |PR.ok op482 nm483 ks484 p485 a486=>k [.d true 5 (.ag [D.str t9,D.str (ByteArray.mk #[]),D.sl 5 [D.ag [D.str op482,D.str nm483,D.sl 5 ks484,D.int .i64 p485]],D.int .i64 p10]),.d false 0 D.nili] [.ob true [.ob true [.own true 4 xs,.d false 0 (.int .i64 a486)],.d false 0 (.int .i64 d)]]
         |PR.syn p490 a491=>k [.d false 5 (.ag [D.str (ByteArray.mk #[]),D.str (ByteArray.mk #[]),D.sl 5 [],D.int .i64 0]),.d false 0 (.ifc 114 (.pt 3 (.ag [D.int .i64 p490,D.ifc 84 (.int .i64 20)])))] [.ob true [.ob true [.own true 4 xs,.d false 0 (.int .i64 a491)],.d false 0 (.int .i64 d)]]
         |PR.deep p495 a496=>k [.d false 5 (.ag [D.str (ByteArray.mk #[]),D.str (ByteArray.mk #[]),D.sl 5 [],D.int .i64 0]),.d true 0 (.ifc 114 (.pt 3 (.ag [D.int .i64 p495,D.ifc 84 (.int .i64 21)])))] [.ob true [.ob true [.own true 4 xs,.d false 0 (.int .i64 a496)],.d false 0 (.int .i64 d)]]
         |PR.no=>none else none else if okP xs a d (IntKind.wrap .i64 (lv+1)) B.ns then match pSingle xs (Int.toNat (d+1 - IntKind.wrap .i64 (lv+1))) a with
         |PR.ok op501 nm502 ks503 p504 a505=>k [.d true 5 (.ag [D.str t9,D.str (ByteArray.mk #[]),D.sl 5 [D.ag [D.str op501,D.str nm502,D.sl 5 ks503,D.int .i64 p504]],D.int .i64 p10]),.d false 0 D.nili] [.ob true [.ob true [.own true 4 xs,.d false 0 (.int .i64 a505)],.d false 0 (.int .i64 d)]]
         |PR.syn p509 a510=>k [.d false 5 (.ag [D.str (ByteArray.mk #[]),D.str (ByteArray.mk #[]),D.sl 5 [],D.int .i64 0]),.d false 0 (.ifc 114 (.pt 3 (.ag [D.int .i64 p509,D.ifc 84 (.int .i64 20)])))] [.ob true [.ob true [.own true 4 xs,.d false 0 (.int .i64 a510)],.d false 0 (.int .i64 d)]]
         |PR.deep p514 a515=>k [.d false 5 (.ag [D.str (ByteArray.mk #[]),D.str (ByteArray.mk #[]),D.sl 5 [],D.int .i64 0]),.d true 0 (.ifc 114 (.pt 3 (.ag [D.int .i64 p514,D.ifc 84 (.int .i64 21)])))] [.ob true [.ob true [.own true 4 xs,.d false 0 (.int .i64 a515)],.d false 0 (.int .i64 d)]]
         |PR.no=>none else none
        |x=>none else none else if 0≤a∧a<34359738368 then match xs[a.toNat]? with
        |some (.ag [D.int .i64 c520,D.str t521,D.int .i64 p522])=>if((c520==1||c520==4)&&t521.toList==[40])=true then if okP xs (a+1) d (IntKind.wrap .i64 (lv+1)) B.ni then match pImply xs (Int.toNat (d+1 - IntKind.wrap .i64 (lv+1))) (a+1)with
         |PR.ok op526 nm527 ks528 p529 a530=>if 0≤a530∧a530<34359738368 then match xs[a530.toNat]? with
          |some (.ag [D.int .i64 c534,D.str t535,D.int .i64 p536])=>if((c534==1||c534==4)&&t535.toList==[41])=true then k [.d true 5 (.ag [D.str op526,D.str nm527,D.sl 5 ks528,D.int .i64 p10]),.d false 0 D.nili] [.ob true [.ob true [.own true 4 xs,.d false 0 (.int .i64 (a530+1))],.d false 0 (.int .i64 d)]]else k [.d false 5 (.ag [D.str (ByteArray.mk #[]),D.str (ByteArray.mk #[]),D.sl 5 [],D.int .i64 0]),.d false 0 (.ifc 114 (.pt 3 (.ag [D.int .i64 p536,D.ifc 84 (.int .i64 20)])))] [.ob true [.ob true [.own true 4 xs,.d false 0 (.int .i64 a530)],.d false 0 (.int .i64 d)]]
          |x=>none else none
         |PR.syn p544 a545=>k [.d false 5 (.ag [D.str (ByteArray.mk #[]),D.str (ByteArray.mk #[]),D.sl 5 [],D.int .i64 0]),.d false 0 (.ifc 114 (.pt 3 (.ag [D.int .i64 p544,D.ifc 84 (.int .i64 20)])))] [.ob true [.ob true [.own true 4 xs,.d false 0 (.int .i64 a545)],.d false 0 (.int .i64 d)]]
         |PR.deep p549 a550=>k [.d false 5 (.ag [D.str (ByteArray.mk #[]),D.str (ByteArray.mk #[]),D.sl 5 [],D.int .i64 0]),.d true 0 (.ifc 114 (.pt 3 (.ag [D.int .i64 p549,D.ifc 84 (.int .i64 21)])))] [.ob true [.ob true [.own true 4 xs,.d false 0 (.int .i64 a550)],.d false 0 (.int .i64 d)]]
         |PR.no=>none else none else k [.d false 5 (.ag [D.str (ByteArray.mk #[]),D.str (ByteArray.mk #[]),D.sl 5 [],D.int .i64 0]),.d false 0 (.ifc 114 (.pt 3 (.ag [D.int .i64 p522,D.ifc 84 (.int .i64 20)])))] [.ob true [.ob true [.own true 4 xs,.d false 0 (.int .i64 a)],.d false 0 (.int .i64 d)]]
        |x=>none else none else if 0≤a then match xs[a.toNat]? with
        |some (.ag [D.int .i64 c558,D.str t559,D.int .i64 n560])=>if((c558==1||c558==4)&&t559.toList==[70])=true then if((c558==1||c558==4)&&t559.toList==[70])=true then if 0≤a∧a<34359738368 then match xs[a.toNat]? with
         |some (.ag [D.int .i64 c564,D.str t565,D.int .i64 p566])=>if(!c564==0)=true then if okP xs (a+1) d (IntKind.wrap .i64 (lv+1)) B.ns then match pSingle xs (Int.toNat (d+1 - IntKind.wrap .i64 (lv+1))) (a+1)with
          |PR.ok op568 nm569 ks570 p571 a572=>k [.d true 5 (.ag [D.str t9,D.str (ByteArray.mk #[]),D.sl 5 [D.ag [D.str op568,D.str nm569,D.sl 5 ks570,D.int .i64 p571]],D.int .i64 p10]),.d false 0 D.nili] [.ob true [.ob true [.own true 4 xs,.d false 0 (.int .i64 a572)],.d false 0 (.int .i64 d)]]
          |PR.syn p576 a577=>k [.d false 5 (.ag [D.str (ByteArray.mk #[]),D.str (ByteArray.mk #[]),D.sl 5 [],D.int .i64 0]),.d false 0 (.ifc 114 (.pt 3 (.ag [D.int .i64 p576,D.ifc 84 (.int .i64 20)])))] [.ob true [.ob true [.own true 4 xs,.d false 0 (.int .i64 a577)],.d false 0 (.int .i64 d)]]
          |PR.deep p581 a582=>k [.d false 5 (.ag [D.str (ByteArray.mk #[]),D.str (ByteArray.mk #[]),D.sl 5 [],D.int .i64 0]),.d true 0 (.ifc 114 (.pt 3 (.ag [D.int .i64 p581,D.ifc 84 (.int .i64 21)])))] [.ob true [.ob true [.own true 4 xs,.d false 0 (.int .i64 a582)],.d false 0 (.int .i64 d)]]
          |PR.no=>none else none else if okP xs a d (IntKind.wrap .i64 (lv+1)) B.ns then match pSingle xs (Int.toNat (d+1 - IntKind.wrap .i64 (lv+1))) a with
          |PR.ok op587 nm588 ks589 p590 a591=>k [.d true 5 (.ag [D.str t9,D.str (ByteArray.mk #[]),D.sl 5 [D.ag [D.str op587,D.str nm588,D.sl 5 ks589,D.int .i64 p590]],D.int .i64 p10]),.d false 0 D.nili] [.ob true [.ob true [.own true 4 xs,.d false 0 (.int .i64 a591)],.d false 0 (.int .i64 d)]]
          |PR.syn p595 a596=>k [.d false 5 (.ag [D.str (ByteArray.mk #[]),D.str (ByteArray.mk #[]),D.sl 5 [],D.int .i64 0]),.d false 0 (.ifc 114 (.pt 3 (.ag [D.int .i64 p595,D.ifc 84 (.int .i64 20)])))] [.ob true [.ob true [.own true 4 xs,.d false 0 (.int .i64 a596)],.d false 0 (.int .i64 d)]]
          |PR.deep p600 a601=>k [.d false 5 (.ag [D.str (ByteArray.mk #[]),D.str (ByteArray.mk #[]),D.sl 5 [],D.int .i64 0]),.d true 0 (.ifc 114 (.pt 3 (.ag [D.int .i64 p600,D.ifc 84 (.int .i64 21)])))] [.ob true [.ob true [.own true 4 xs,.d false 0 (.int .i64 a601)],.d false 0 (.int .i64 d)]]
          |PR.no=>none else none
         |x=>none else none else if 0≤a∧a<34359738368 then match xs[a.toNat]? with
         |some (.ag [D.int .i64 c606,D.str t607,D.int .i64 p608])=>if((c606==1||c606==4)&&t607.toList==[40])=true then if okP xs (a+1) d (IntKind.wrap .i64 (lv+1)) B.ni then match pImply xs (Int.toNat (d+1 - IntKind.wrap .i64 (lv+1))) (a+1)with
          |PR.ok op612 nm613 ks614 p615 a616=>if 0≤a616∧a616<34359738368 then match xs[a616.toNat]? with
           |some (.ag [D.int .i64 c620,D.str t621,D.int .i64 p622])=>if((c620==1||c620==4)&&t621.toList==[41])=true then k [.d true 5 (.ag [D.str op612,D.str nm613,D.sl 5 ks614,D.int .i64 p10]),.d false 0 D.nili] [.ob true [.ob true [.own true 4 xs,.d false 0 (.int .i64 (a616+1))],.d false 0 (.int .i64 d)]]else k [.d false 5 (.ag [D.str (ByteArray.mk #[]),D.str (ByteArray.mk #[]),D.sl 5 [],D.int .i64 0]),.d false 0 (.ifc 114 (.pt 3 (.ag [D.int .i64 p622,D.ifc 84 (.int .i64 20)])))] [.ob true [.ob true [.own true 4 xs,.d false 0 (.int .i64 a616)],.d false 0 (.int .i64 d)]]
           |x=>none else none
          |PR.syn p630 a631=>k [.d false 5 (.ag [D.str (ByteArray.mk #[]),D.str (ByteArray.mk #[]),D.sl 5 [],D.int .i64 0]),.d false 0 (.ifc 114 (.pt 3 (.ag [D.int .i64 p630,D.ifc 84 (.int .i64 20)])))] [.ob true [.ob true [.own true 4 xs,.d false 0 (.int .i64 a631)],.d false 0 (.int .i64 d)]]
          |PR.deep p635 a636=>k [.d false 5 (.ag [D.str (ByteArray.mk #[]),D.str (ByteArray.mk #[]),D.sl 5 [],D.int .i64 0]),.d true 0 (.ifc 114 (.pt 3 (.ag [D.int .i64 p635,D.ifc 84 (.int .i64 21)])))] [.ob true [.ob true [.own true 4 xs,.d false 0 (.int .i64 a636)],.d false 0 (.int .i64 d)]]
          |PR.no=>none else none else k [.d false 5 (.ag [D.str (ByteArray.mk #[]),D.str (ByteArray.mk #[]),D.sl 5 [],D.int .i64 0]),.d false 0 (.ifc 114 (.pt 3 (.ag [D.int .i64 p608,D.ifc 84 (.int .i64 20)])))] [.ob true [.ob true [.own true 4 xs,.d false 0 (.int .i64 a)],.d false 0 (.int .i64 d)]]
         |x=>none else none else if 0≤a then match xs[a.toNat]? with
         |some (.ag [D.int .i64 c644,D.str t645,D.int .i64 n646])=>if((c644==1||c644==4)&&t645.toList==[71])=true then if 0≤a∧a<34359738368 then match xs[a.toNat]? with
          |some (.ag [D.int .i64 c649,D.str t650,D.int .i64 p651])=>if(!c649==0)=true then if okP xs (a+1) d (IntKind.wrap .i64 (lv+1)) B.ns then match pSingle xs (Int.toNat (d+1 - IntKind.wrap .i64 (lv+1))) (a+1)with
           |PR.ok op653 nm654 ks655 p656 a657=>k [.d true 5 (.ag [D.str t9,D.str (ByteArray.mk #[]),D.sl 5 [D.ag [D.str op653,D.str nm654,D.sl 5 ks655,D.int .i64 p656]],D.int .i64 p10]),.d false 0 D.nili] [.ob true [.ob true [.own true 4 xs,.d false 0 (.int .i64 a657)],.d false 0 (.int .i64 d)]]
           |PR.syn p661 a662=>k [.d false 5 (.ag [D.str (ByteArray.mk #[]),D.str (ByteArray.mk #[]),D.sl 5 [],D.int .i64 0]),.d false 0 (.ifc 114 (.pt 3 (.ag [D.int .i64 p661,D.ifc 84 (.int .i64 20)])))] [.ob true [.ob true [.own true 4 xs,.d false 0 (.int .i64 a662)],.d false 0 (.int .i64 d)]]
           |PR.deep p666 a667=>k [.d false 5 (.ag [D.str (ByteArray.mk #[]),D.str (ByteArray.mk #[]),D.sl 5 [],D.int .i64 0]),.d true 0 (.ifc 114 (.pt 3 (.ag [D.int .i64 p666,D.ifc 84 (.int .i64 21)])))] [.ob true [.ob true [.own true 4 xs,.d false 0 (.int .i64 a667)],.d false 0 (.int .i64 d)]]
           |PR.no=>none else none else if okP xs a d (IntKind.wrap .i64 (lv+1)) B.ns then match pSingle xs (Int.toNat (d+1 - IntKind.wrap .i64 (lv+1))) a with
           |PR.ok op672 nm673 ks674 p675 a676=>k [.d true 5 (.ag [D.str t9,D.str (ByteArray.mk #[]),D.sl 5 [D.ag [D.str op672,D.str nm673,D.sl 5 ks674,D.int .i64 p675]],D.int .i64 p10]),.d false 0 D.nili] [.ob true [.ob true [.own true 4 xs,.d false 0 (.int .i64 a676)],.d false 0 (.int .i64 d)]]
           |PR.syn p680 a681=>k [.d false 5 (.ag [D.str (ByteArray.mk #[]),D.str (ByteArray.mk #[]),D.sl 5 [],D.int .i64 0]),.d false 0 (.ifc 114 (.pt 3 (.ag [D.int .i64 p680,D.ifc 84 (.int .i64 20)])))] [.ob true [.ob true [.own true 4 xs,.d false 0 (.int .i64 a681)],.d false 0 (.int .i64 d)]]
           |PR.deep p685 a686=>k [.d false 5 (.ag [D.str (ByteArray.mk #[]),D.str (ByteArray.mk #[]),D.sl 5 [],D.int .i64 0]),.d true 0 (.ifc 114 (.pt 3 (.ag [D.int .i64 p685,D.ifc 84 (.int .i64 21)])))] [.ob true [.ob true [.own true 4 xs,.d false 0 (.int .i64 a686)],.d false 0 (.int .i64 d)]]
           |PR.no=>none else none
          |x=>none else none else if 0≤a∧a<34359738368 then match xs[a.toNat]? with
          |some (.ag [D.int .i64 c691,D.str t692,D.int .i64 p693])=>if((c691==1||c691==4)&&t692.toList==[40])=true then if okP xs (a+1) d (IntKind.wrap .i64 (lv+1)) B.ni then match pImply xs (Int.toNat (d+1 - IntKind.wrap .i64 (lv+1))) (a+1)with
           |PR.ok op697 nm698 ks699 p700 a701=>if 0≤a701∧a701<34359738368 then match xs[a701.toNat]? with
            |some (.ag [D.int .i64 c705,D.str t706,D.int .i64 p707])=>if((c705==1||c705==4)&&t706.toList==[41])=true then k [.d true 5 (.ag [D.str op697,D.str nm698,D.sl 5 ks699,D.int .i64 p10]),.d false 0 D.nili] [.ob true [.ob true [.own true 4 xs,.d false 0 (.int .i64 (a701+1))],.d false 0 (.int .i64 d)]]else k [.d false 5 (.ag [D.str (ByteArray.mk #[]),D.str (ByteArray.mk #[]),D.sl 5 [],D.int .i64 0]),.d false 0 (.ifc 114 (.pt 3 (.ag [D.int .i64 p707,D.ifc 84 (.int .i64 20)])))] [.ob true [.ob true [.own true 4 xs,.d false 0 (.int .i64 a701)],.d false 0 (.int .i64 d)]]
            |x=>none else none
           |PR.syn p715 a716=>k [.d false 5 (.ag [D.str (ByteArray.mk #[]),D.str (ByteArray.mk #[]),D.sl 5 [],D.int .i64 0]),.d false 0 (.ifc 114 (.pt 3 (.ag [D.int .i64 p715,D.ifc 84 (.int .i64 20)])))] [.ob true [.ob true [.own true 4 xs,.d false 0 (.int .i64 a716)],.d false 0 (.int .i64 d)]]
           |PR.deep p720 a721=>k [.d false 5 (.ag [D.str (ByteArray.mk #[]),D.str (ByteArray.mk #[]),D.sl 5 [],D.int .i64 0]),.d true 0 (.ifc 114 (.pt 3 (.ag [D.int .i64 p720,D.ifc 84 (.int .i64 21)])))] [.ob true [.ob true [.own true 4 xs,.d false 0 (.int .i64 a721)],.d false 0 (.int .i64 d)]]
           |PR.no=>none else none else k [.d false 5 (.ag [D.str (ByteArray.mk #[]),D.str (ByteArray.mk #[]),D.sl 5 [],D.int .i64 0]),.d false 0 (.ifc 114 (.pt 3 (.ag [D.int .i64 p693,D.ifc 84 (.int .i64 20)])))] [.ob true [.ob true [.own true 4 xs,.d false 0 (.int .i64 a)],.d false 0 (.int .i64 d)]]
          |x=>none else none
         |x=>none else none
        |x=>none else none
       |x=>none else none
      |x=>none else none
     |x=>none else none
    |x=>none else none
   |x=>none else none:=by kernel_rfl
end
end B108
namespace B80
  section
  variable (B:Bd)
noncomputable def X:Fx:=⟨Tryz.prog,QP B,48,2⟩
theorem start {β:Type} (xs:List D) (a:Int) (d:Int) (lv:Int) (k:List TV→List TV→Option β):evalF Tryz.prog (QP B) Tryz.f64 [.ob true [.ob true [.own true 4 xs,.d false 0 (.int .i64 a)],.d false 0 (.int .i64 d)],.d true 0 (.int .i64 lv)] k=if decide (lv>d)=true then if 0≤a then match xs[a.toNat]? with
   |some (.ag [D.int .i64 n4,D.str s5,D.int .i64 p6])=>k [.d false 5 (.ag [D.str (ByteArray.mk #[]),D.str (ByteArray.mk #[]),D.sl 5 [],D.int .i64 0]),.d true 0 (.ifc 114 (.pt 3 (.ag [D.int .i64 p6,D.ifc 84 (.int .i64 21)])))] [.ob true [.ob true [.own true 4 xs,.d false 0 (.int .i64 a)],.d false 0 (.int .i64 d)]]
   |x=>none else none else if okP xs a d lv B.ns then match pSingle xs (Int.toNat (d+1 - lv)) a with
   |PR.ok op8 nm9 ks10 p11 a12=>if okP xs a12 d (lv+1) B.nru then match pRight xs (Int.toNat (d - lv)) true op8 nm9 ks10 p11 [ByteArray.mk #[85],ByteArray.mk #[87],ByteArray.mk #[82]] a12 with
    |PR.ok op16 nm17 ks18 p19 a20=>k [.d true 5 (.ag [D.str op16,D.str nm17,D.sl 5 ks18,D.int .i64 p19]),.d false 0 D.nili] [.ob true [.ob true [.own true 4 xs,.d false 0 (.int .i64 a20)],.d false 0 (.int .i64 d)]]
    |PR.syn p21 a22=>k [.d false 5 (.ag [D.str (ByteArray.mk #[]),D.str (ByteArray.mk #[]),D.sl 5 [],D.int .i64 0]),.d false 0 (.ifc 114 (.pt 3 (.ag [D.int .i64 p21,D.ifc 84 (.int .i64 20)])))] [.ob true [.ob true [.own true 4 xs,.d false 0 (.int .i64 a22)],.d false 0 (.int .i64 d)]]
    |PR.deep p23 a24=>k [.d false 5 (.ag [D.str (ByteArray.mk #[]),D.str (ByteArray.mk #[]),D.sl 5 [],D.int .i64 0]),.d true 0 (.ifc 114 (.pt 3 (.ag [D.int .i64 p23,D.ifc 84 (.int .i64 21)])))] [.ob true [.ob true [.own true 4 xs,.d false 0 (.int .i64 a24)],.d false 0 (.int .i64 d)]]
    |PR.no=>none else none
   |PR.syn p25 a26=>k [.d false 5 (.ag [D.str (ByteArray.mk #[]),D.str (ByteArray.mk #[]),D.sl 5 [],D.int .i64 0]),.d false 0 (.ifc 114 (.pt 3 (.ag [D.int .i64 p25,D.ifc 84 (.int .i64 20)])))] [.ob true [.ob true [.own true 4 xs,.d false 0 (.int .i64 a26)],.d false 0 (.int .i64 d)]]
   |PR.deep p30 a31=>k [.d false 5 (.ag [D.str (ByteArray.mk #[]),D.str (ByteArray.mk #[]),D.sl 5 [],D.int .i64 0]),.d true 0 (.ifc 114 (.pt 3 (.ag [D.int .i64 p30,D.ifc 84 (.int .i64 21)])))] [.ob true [.ob true [.own true 4 xs,.d false 0 (.int .i64 a31)],.d false 0 (.int .i64 d)]]
   |PR.no=>none else none:=by kernel_rfl
end
end B80
namespace B79
  section
  variable (B:Bd)
noncomputable def X:Fx:=⟨Tryz.prog,QP B,24,2⟩
theorem start {β:Type} (xs:List D) (a:Int) (d:Int) (lv:Int) (k:List TV→List TV→Option β):evalF Tryz.prog (QP B) Tryz.f63 [.d true 0 (.int .i64 lv),.cpo true (.ob true [.ob true [.own true 4 xs,.d false 0 (.int .i64 a)],.d false 0 (.int .i64 d)])] k=if okP xs a d lv B.ncu then match pChain xs (ByteArray.mk #[38]) (Int.toNat (d+1 - lv)) true a with
   |PR.ok op2 nm3 ks4 p5 a6=>k [.d true 5 (.ag [D.str op2,D.str nm3,D.sl 5 ks4,D.int .i64 p5]),.d false 0 D.nili] [.cpo true (.ob true [.ob true [.own true 4 xs,.d false 0 (.int .i64 a6)],.d false 0 (.int .i64 d)])]
   |PR.syn p7 a8=>k [.d false 5 (.ag [D.str (ByteArray.mk #[]),D.str (ByteArray.mk #[]),D.sl 5 [],D.int .i64 0]),.d false 0 (.ifc 114 (.pt 3 (.ag [D.int .i64 p7,D.ifc 84 (.int .i64 20)])))] [.cpo true (.ob true [.ob true [.own true 4 xs,.d false 0 (.int .i64 a8)],.d false 0 (.int .i64 d)])]
   |PR.deep p9 a10=>k [.d false 5 (.ag [D.str (ByteArray.mk #[]),D.str (ByteArray.mk #[]),D.sl 5 [],D.int .i64 0]),.d true 0 (.ifc 114 (.pt 3 (.ag [D.int .i64 p9,D.ifc 84 (.int .i64 21)])))] [.cpo true (.ob true [.ob true [.own true 4 xs,.d false 0 (.int .i64 a10)],.d false 0 (.int .i64 d)])]
   |PR.no=>none else none:=by kernel_rfl
end
end B79
namespace B55
  section
  variable (B:Bd)
noncomputable def X:Fx:=⟨Tryz.prog,QP B,48,2⟩
theorem start {β:Type} (xs:List D) (a:Int) (d:Int) (lv:Int) (k:List TV→List TV→Option β):evalF Tryz.prog (QP B) Tryz.f40 [.ob true [.ob true [.own true 4 xs,.d false 0 (.int .i64 a)],.d false 0 (.int .i64 d)],.d true 0 (.int .i64 lv)] k=if decide (lv>d)=true then if 0≤a then match xs[a.toNat]? with
   |some (.ag [D.int .i64 n4,D.str s5,D.int .i64 p6])=>k [.d false 5 (.ag [D.str (ByteArray.mk #[]),D.str (ByteArray.mk #[]),D.sl 5 [],D.int .i64 0]),.d true 0 (.ifc 114 (.pt 3 (.ag [D.int .i64 p6,D.ifc 84 (.int .i64 21)])))] [.ob true [.ob true [.own true 4 xs,.d false 0 (.int .i64 a)],.d false 0 (.int .i64 d)]]
   |x=>none else none else if okP xs a d lv B.nck then match pChain xs (ByteArray.mk #[124]) (Int.toNat (d+1 - lv)) false a with
   |PR.ok op8 nm9 ks10 p11 a12=>if okP xs a12 d (lv+1) B.nri then match pRight xs (Int.toNat (d - lv)) false op8 nm9 ks10 p11 [ByteArray.mk #[61,62]] a12 with
    |PR.ok op16 nm17 ks18 p19 a20=>k [.d true 5 (.ag [D.str op16,D.str nm17,D.sl 5 ks18,D.int .i64 p19]),.d false 0 D.nili] [.ob true [.ob true [.own true 4 xs,.d false 0 (.int .i64 a20)],.d false 0 (.int .i64 d)]]
    |PR.syn p21 a22=>k [.d false 5 (.ag [D.str (ByteArray.mk #[]),D.str (ByteArray.mk #[]),D.sl 5 [],D.int .i64 0]),.d false 0 (.ifc 114 (.pt 3 (.ag [D.int .i64 p21,D.ifc 84 (.int .i64 20)])))] [.ob true [.ob true [.own true 4 xs,.d false 0 (.int .i64 a22)],.d false 0 (.int .i64 d)]]
    |PR.deep p23 a24=>k [.d false 5 (.ag [D.str (ByteArray.mk #[]),D.str (ByteArray.mk #[]),D.sl 5 [],D.int .i64 0]),.d true 0 (.ifc 114 (.pt 3 (.ag [D.int .i64 p23,D.ifc 84 (.int .i64 21)])))] [.ob true [.ob true [.own true 4 xs,.d false 0 (.int .i64 a24)],.d false 0 (.int .i64 d)]]
    |PR.no=>none else none
   |PR.syn p25 a26=>k [.d false 5 (.ag [D.str (ByteArray.mk #[]),D.str (ByteArray.mk #[]),D.sl 5 [],D.int .i64 0]),.d false 0 (.ifc 114 (.pt 3 (.ag [D.int .i64 p25,D.ifc 84 (.int .i64 20)])))] [.ob true [.ob true [.own true 4 xs,.d false 0 (.int .i64 a26)],.d false 0 (.int .i64 d)]]
   |PR.deep p30 a31=>k [.d false 5 (.ag [D.str (ByteArray.mk #[]),D.str (ByteArray.mk #[]),D.sl 5 [],D.int .i64 0]),.d true 0 (.ifc 114 (.pt 3 (.ag [D.int .i64 p30,D.ifc 84 (.int .i64 21)])))] [.ob true [.ob true [.own true 4 xs,.d false 0 (.int .i64 a31)],.d false 0 (.int .i64 d)]]
   |PR.no=>none else none:=by kernel_rfl
end
end B55
end Go.Sd
namespace Go.Sd
open Go Go.Cm Go.Proofs Go.Sc
set_option maxRecDepth 100000
namespace C78u
  section
  variable (B:Bd)
noncomputable def X:Fx:=⟨Tryz.prog,QP B,768,4⟩
def s0 (xs:List D) (d:Int) (lv:Int) (s:ByteArray) (x9:D) (x10:Bool) (x11:ByteArray) (x12:Bool) (x13:ByteArray) (x14:Bool) (x15:List D) (x16:Bool) (x17:Int) (x18:Int) (x25:Bool):S:=⟨Tm.mk 46 [(0,.rp 1 0),(1,.d true 0 (.str s)),(2,.d true 0 (.int .i64 lv)),(3,.fb 64 [.rp 1 0]),(8,.rp 9 0),(10,.rp 11 0),(11,.d x25 0 x9)],[(1,true,[.rp 69632 0,.d false 0 (.int .i64 d)]),(9,true,[.d false 0 (.str (ByteArray.mk #[])),.d false 0 (.str (ByteArray.mk #[])),.own false 5 [],.d false 0 (.int .i64 0)]),(11,true,[.d x10 0 (.str x11),.d x12 0 (.str x13),.d x14 0 (.sl 5 x15),.d x16 0 (.int .i64 x17)]),(69632,true,[.own true 4 xs,.d false 0 (.int .i64 x18)]),(2305843009213693952,true,[.rp 1 0])]⟩
def e0x0 (xs:List D) (d:Int) (x134:ByteArray) (x135:ByteArray) (x136:List D) (x137:Int) (x138:Int):S:=⟨Tm.mk 46 [(8,.rp 9 0),(10,.rp 11 0),(11,.d false 0 D.nili)],[(1,true,[.rp 69632 0,.d false 0 (.int .i64 d)]),(9,true,[.d false 0 (.str (ByteArray.mk #[])),.d false 0 (.str (ByteArray.mk #[])),.own false 5 [],.d false 0 (.int .i64 0)]),(11,true,[.d true 0 (.str x134),.d true 0 (.str x135),.d true 0 (.sl 5 x136),.d true 0 (.int .i64 x137)]),(69632,true,[.own true 4 xs,.d false 0 (.int .i64 x138)]),(2305843009213693952,true,[.rp 1 0])]⟩
def e0x0_1 (xs:List D) (d:Int) (x21:Bool) (x22:Int) (x23:Int) (x24:Int) (x68:Bool) (x69:ByteArray) (x70:Bool) (x71:ByteArray) (x72:Bool) (x73:List D) (x74:Bool) (x75:Int):S:=⟨Tm.mk 46 [(8,.rp 9 0),(10,.rp 11 0),(11,.d x21 0 (.ifc 114 (.pt 3 (.ag [D.int .i64 x22,D.ifc 84 (.int .i64 x23)]))))],[(1,true,[.rp 69632 0,.d false 0 (.int .i64 d)]),(9,true,[.d false 0 (.str (ByteArray.mk #[])),.d false 0 (.str (ByteArray.mk #[])),.own false 5 [],.d false 0 (.int .i64 0)]),(11,true,[.d x68 0 (.str x69),.d x70 0 (.str x71),.d x72 0 (.sl 5 x73),.d x74 0 (.int .i64 x75)]),(69632,true,[.own true 4 xs,.d false 0 (.int .i64 x24)]),(2305843009213693952,true,[.rp 1 0])]⟩
noncomputable abbrev L0:S→Option (S ⊕ (Ex×S)):=roundK (X B) [(0,3328)] (sub [1,1,0,0,0] (body Tryz.f62))
theorem start {β:Type} (xs:List D) (a:Int) (d:Int) (lv:Int) (s:ByteArray) (k:List TV→List TV→Option β):evalF Tryz.prog (QP B) Tryz.f62 [.ob true [.ob true [.own true 4 xs,.d false 0 (.int .i64 a)],.d false 0 (.int .i64 d)],.d true 0 (.str s),.d true 0 (.int .i64 lv),.fc true true (64:FuncId) [(0,false)]] k=if okP xs a d lv B.nu then match pUntl xs (Int.toNat (d+1 - lv)) a with
   |PR.ok op149 nm150 ks151 p152 a153=>goLp (X B) [(0,3328)] (sub [1,1,0,0,0] (body Tryz.f62)) [Kf.block 0 3328,Kf.seq [] (sub [1,1,1] (body Tryz.f62)) 768] (finK Tryz.prog Tryz.f62 [.ob true [.ob true [.own true 4 xs,.d false 0 (.int .i64 a)],.d false 0 (.int .i64 d)],.d true 0 (.str s),.d true 0 (.int .i64 lv),.fc true true (64:FuncId) [(0,false)]] k) (s0 xs d lv s D.nili true op149 true nm150 true ks151 true p152 a153 false)
   |PR.syn p154 a155=>goLp (X B) [(0,3328)] (sub [1,1,0,0,0] (body Tryz.f62)) [Kf.block 0 3328,Kf.seq [] (sub [1,1,1] (body Tryz.f62)) 768] (finK Tryz.prog Tryz.f62 [.ob true [.ob true [.own true 4 xs,.d false 0 (.int .i64 a)],.d false 0 (.int .i64 d)],.d true 0 (.str s),.d true 0 (.int .i64 lv),.fc true true (64:FuncId) [(0,false)]] k) (s0 xs d lv s (.ifc 114 (.pt 3 (.ag [D.int .i64 p154,D.ifc 84 (.int .i64 20)]))) false (ByteArray.mk #[]) false (ByteArray.mk #[]) false [] false (0:Int) a155 false)
   |PR.deep p156 a157=>goLp (X B) [(0,3328)] (sub [1,1,0,0,0] (body Tryz.f62)) [Kf.block 0 3328,Kf.seq [] (sub [1,1,1] (body Tryz.f62)) 768] (finK Tryz.prog Tryz.f62 [.ob true [.ob true [.own true 4 xs,.d false 0 (.int .i64 a)],.d false 0 (.int .i64 d)],.d true 0 (.str s),.d true 0 (.int .i64 lv),.fc true true (64:FuncId) [(0,false)]] k) (s0 xs d lv s (.ifc 114 (.pt 3 (.ag [D.int .i64 p156,D.ifc 84 (.int .i64 21)]))) false (ByteArray.mk #[]) false (ByteArray.mk #[]) false [] false (0:Int) a157 true)
   |PR.no=>none else none:=by kernel_rfl
theorem round0_0 (xs:List D) (d:Int) (lv:Int) (s:ByteArray) (x64:ByteArray) (x65:ByteArray) (x66:List D) (x67:Int) (x91:Int):roundK (X B) [(0,3328)] (sub [1,1,0,0,0] (body Tryz.f62)) (s0 xs d lv s D.nili true x64 true x65 true x66 true x91 x67 false)=if 0≤x67∧x67<34359738368 then match xs[x67.toNat]? with
   |some (.ag [D.int .i64 c159,D.str t160,D.int .i64 n161])=>if((c159==1||c159==4)&&t160.toList==s.toList)=true then if okP xs (x67+1) d lv B.nu then match pUntl xs (Int.toNat (d+1 - lv)) (x67+1)with
    |PR.ok op165 nm166 ks167 p168 a169=>some (Sum.inl (s0 xs d lv s D.nili true s true (ByteArray.mk #[]) true [fmD x64 x65 x66 x91,fmD op165 nm166 ks167 p168] true x91 a169 false))
    |PR.syn p173 a174=>some (Sum.inl (s0 xs d lv s (.ifc 114 (.pt 3 (.ag [D.int .i64 p173,D.ifc 84 (.int .i64 20)]))) true x64 true x65 true x66 true x91 a174 false))
    |PR.deep p177 a178=>some (Sum.inl (s0 xs d lv s (.ifc 114 (.pt 3 (.ag [D.int .i64 p177,D.ifc 84 (.int .i64 21)]))) true x64 true x65 true x66 true x91 a178 true))
    |PR.no=>none else none else some (Sum.inr (Ex.exit 0,e0x0 xs d x64 x65 x66 x91 x67))
   |x=>none else none:=by kernel_rfl
theorem round0_1 (xs:List D) (d:Int) (lv:Int) (s:ByteArray) (x21:Bool) (x22:Int) (x23:Int) (x24:Int) (x68:Bool) (x69:ByteArray) (x70:Bool) (x71:ByteArray) (x72:Bool) (x73:List D) (x74:Bool) (x75:Int):roundK (X B) [(0,3328)] (sub [1,1,0,0,0] (body Tryz.f62)) (s0 xs d lv s (.ifc 114 (.pt 3 (.ag [D.int .i64 x22,D.ifc 84 (.int .i64 x23)]))) x68 x69 x70 x71 x72 x73 x74 x75 x24 x21)=some (Sum.inr (Ex.exit 0,e0x0_1 xs d x21 x22 x23 x24 x68 x69 x70 x71 x72 x73 x74 x75)):=by kernel_rfl
theorem behind0x0 {β:Type} (a:Int) (lv:Int) (s:ByteArray) (xs:List D) (d:Int) (x134:ByteArray) (x135:ByteArray) (x136:List D) (x137:Int) (x138:Int) (k:List TV→List TV→Option β):applyK (X B) (finK Tryz.prog Tryz.f62 [.ob true [.ob true [.own true 4 xs,.d false 0 (.int .i64 a)],.d false 0 (.int .i64 d)],.d true 0 (.str s),.d true 0 (.int .i64 lv),.fc true true (64:FuncId) [(0,false)]] k) [Kf.block 0 3328,Kf.seq [] (sub [1,1,1] (body Tryz.f62)) 768] (Ex.exit 0) (e0x0 xs d x134 x135 x136 x137 x138)=k [.d true 5 (.ag [D.str x134,D.str x135,D.sl 5 x136,D.int .i64 x137]),.d false 0 D.nili] [.ob true [.ob true [.own true 4 xs,.d false 0 (.int .i64 x138)],.d false 0 (.int .i64 d)]]:=by kernel_rfl
theorem behind0x0_1 {β:Type} (a:Int) (lv:Int) (s:ByteArray) (xs:List D) (d:Int) (x21:Bool) (x22:Int) (x23:Int) (x24:Int) (x68:Bool) (x69:ByteArray) (x70:Bool) (x71:ByteArray) (x72:Bool) (x73:List D) (x74:Bool) (x75:Int) (k:List TV→List TV→Option β):applyK (X B) (finK Tryz.prog Tryz.f62 [.ob true [.ob true [.own true 4 xs,.d false 0 (.int .i64 a)],.d false 0 (.int .i64 d)],.d true 0 (.str s),.d true 0 (.int .i64 lv),.fc true true (64:FuncId) [(0,false)]] k) [Kf.block 0 3328,Kf.seq [] (sub [1,1,1] (body Tryz.f62)) 768] (Ex.exit 0) (e0x0_1 xs d x21 x22 x23 x24 x68 x69 x70 x71 x72 x73 x74 x75)=k [.d false 5 (.ag [D.str (ByteArray.mk #[]),D.str (ByteArray.mk #[]),D.sl 5 [],D.int .i64 0]),.d x21 0 (.ifc 114 (.pt 3 (.ag [D.int .i64 x22,D.ifc 84 (.int .i64 x23)])))] [.ob true [.ob true [.own true 4 xs,.d false 0 (.int .i64 x24)],.d false 0 (.int .i64 d)]]:=by kernel_rfl
end
end C78u
namespace C78k
  section
  variable (B:Bd)
noncomputable def X:Fx:=⟨Tryz.prog,QP B,768,4⟩
def s0 (xs:List D) (d:Int) (lv:Int) (s:ByteArray) (x9:D) (x10:Bool) (x11:ByteArray) (x12:Bool) (x13:ByteArray) (x14:Bool) (x15:List D) (x16:Bool) (x17:Int) (x18:Int) (x25:Bool):S:=⟨Tm.mk 46 [(0,.rp 1 0),(1,.d true 0 (.str s)),(2,.d true 0 (.int .i64 lv)),(3,.fn 63 [.cp true (.rp 1 0)]),(8,.rp 9 0),(10,.rp 11 0),(11,.d x25 0 x9)],[(1,true,[.rp 69632 0,.d false 0 (.int .i64 d)]),(9,true,[.d false 0 (.str (ByteArray.mk #[])),.d false 0 (.str (ByteArray.mk #[])),.own false 5 [],.d false 0 (.int .i64 0)]),(11,true,[.d x10 0 (.str x11),.d x12 0 (.str x13),.d x14 0 (.sl 5 x15),.d x16 0 (.int .i64 x17)]),(69632,true,[.own true 4 xs,.d false 0 (.int .i64 x18)]),(2305843009213693952,true,[.rp 1 0])]⟩
def e0x0 (xs:List D) (d:Int) (x134:ByteArray) (x135:ByteArray) (x136:List D) (x137:Int) (x138:Int):S:=⟨Tm.mk 46 [(8,.rp 9 0),(10,.rp 11 0),(11,.d false 0 D.nili)],[(1,true,[.rp 69632 0,.d false 0 (.int .i64 d)]),(9,true,[.d false 0 (.str (ByteArray.mk #[])),.d false 0 (.str (ByteArray.mk #[])),.own false 5 [],.d false 0 (.int .i64 0)]),(11,true,[.d true 0 (.str x134),.d true 0 (.str x135),.d true 0 (.sl 5 x136),.d true 0 (.int .i64 x137)]),(69632,true,[.own true 4 xs,.d false 0 (.int .i64 x138)]),(2305843009213693952,true,[.rp 1 0])]⟩
def e0x0_1 (xs:List D) (d:Int) (x21:Bool) (x22:Int) (x23:Int) (x24:Int) (x68:Bool) (x69:ByteArray) (x70:Bool) (x71:ByteArray) (x72:Bool) (x73:List D) (x74:Bool) (x75:Int):S:=⟨Tm.mk 46 [(8,.rp 9 0),(10,.rp 11 0),(11,.d x21 0 (.ifc 114 (.pt 3 (.ag [D.int .i64 x22,D.ifc 84 (.int .i64 x23)]))))],[(1,true,[.rp 69632 0,.d false 0 (.int .i64 d)]),(9,true,[.d false 0 (.str (ByteArray.mk #[])),.d false 0 (.str (ByteArray.mk #[])),.own false 5 [],.d false 0 (.int .i64 0)]),(11,true,[.d x68 0 (.str x69),.d x70 0 (.str x71),.d x72 0 (.sl 5 x73),.d x74 0 (.int .i64 x75)]),(69632,true,[.own true 4 xs,.d false 0 (.int .i64 x24)]),(2305843009213693952,true,[.rp 1 0])]⟩
noncomputable abbrev L0:S→Option (S ⊕ (Ex×S)):=roundK (X B) [(0,3328)] (sub [1,1,0,0,0] (body Tryz.f62))
theorem start {β:Type} (xs:List D) (a:Int) (d:Int) (lv:Int) (s:ByteArray) (k:List TV→List TV→Option β):evalF Tryz.prog (QP B) Tryz.f62 [.ob true [.ob true [.own true 4 xs,.d false 0 (.int .i64 a)],.d false 0 (.int .i64 d)],.d true 0 (.str s),.d true 0 (.int .i64 lv),.fc true false (63:FuncId) [(0,true)]] k=if okP xs a d lv B.nk then match pK xs (Int.toNat (d+1 - lv)) a with
   |PR.ok op149 nm150 ks151 p152 a153=>goLp (X B) [(0,3328)] (sub [1,1,0,0,0] (body Tryz.f62)) [Kf.block 0 3328,Kf.seq [] (sub [1,1,1] (body Tryz.f62)) 768] (finK Tryz.prog Tryz.f62 [.ob true [.ob true [.own true 4 xs,.d false 0 (.int .i64 a)],.d false 0 (.int .i64 d)],.d true 0 (.str s),.d true 0 (.int .i64 lv),.fc true false (63:FuncId) [(0,true)]] k) (s0 xs d lv s D.nili true op149 true nm150 true ks151 true p152 a153 false)
   |PR.syn p154 a155=>goLp (X B) [(0,3328)] (sub [1,1,0,0,0] (body Tryz.f62)) [Kf.block 0 3328,Kf.seq [] (sub [1,1,1] (body Tryz.f62)) 768] (finK Tryz.prog Tryz.f62 [.ob true [.ob true [.own true 4 xs,.d false 0 (.int .i64 a)],.d false 0 (.int .i64 d)],.d true 0 (.str s),.d true 0 (.int .i64 lv),.fc true false (63:FuncId) [(0,true)]] k) (s0 xs d lv s (.ifc 114 (.pt 3 (.ag [D.int .i64 p154,D.ifc 84 (.int .i64 20)]))) false (ByteArray.mk #[]) false (ByteArray.mk #[]) false [] false (0:Int) a155 false)
   |PR.deep p156 a157=>goLp (X B) [(0,3328)] (sub [1,1,0,0,0] (body Tryz.f62)) [Kf.block 0 3328,Kf.seq [] (sub [1,1,1] (body Tryz.f62)) 768] (finK Tryz.prog Tryz.f62 [.ob true [.ob true [.own true 4 xs,.d false 0 (.int .i64 a)],.d false 0 (.int .i64 d)],.d true 0 (.str s),.d true 0 (.int .i64 lv),.fc true false (63:FuncId) [(0,true)]] k) (s0 xs d lv s (.ifc 114 (.pt 3 (.ag [D.int .i64 p156,D.ifc 84 (.int .i64 21)]))) false (ByteArray.mk #[]) false (ByteArray.mk #[]) false [] false (0:Int) a157 true)
   |PR.no=>none else none:=by kernel_rfl
theorem round0_0 (xs:List D) (d:Int) (lv:Int) (s:ByteArray) (x64:ByteArray) (x65:ByteArray) (x66:List D) (x67:Int) (x91:Int):roundK (X B) [(0,3328)] (sub [1,1,0,0,0] (body Tryz.f62)) (s0 xs d lv s D.nili true x64 true x65 true x66 true x91 x67 false)=if 0≤x67∧x67<34359738368 then match xs[x67.toNat]? with
   |some (.ag [D.int .i64 c159,D.str t160,D.int .i64 n161])=>if((c159==1||c159==4)&&t160.toList==s.toList)=true then if okP xs (x67+1) d lv B.nk then match pK xs (Int.toNat (d+1 - lv)) (x67+1)with
    |PR.ok op165 nm166 ks167 p168 a169=>some (Sum.inl (s0 xs d lv s D.nili true s true (ByteArray.mk #[]) true [fmD x64 x65 x66 x91,fmD op165 nm166 ks167 p168] true x91 a169 false))
    |PR.syn p173 a174=>some (Sum.inl (s0 xs d lv s (.ifc 114 (.pt 3 (.ag [D.int .i64 p173,D.ifc 84 (.int .i64 20)]))) true x64 true x65 true x66 true x91 a174 false))
    |PR.deep p177 a178=>some (Sum.inl (s0 xs d lv s (.ifc 114 (.pt 3 (.ag [D.int .i64 p177,D.ifc 84 (.int .i64 21)]))) true x64 true x65 true x66 true x91 a178 true))
    |PR.no=>none else none else some (Sum.inr (Ex.exit 0,e0x0 xs d x64 x65 x66 x91 x67))
   |x=>none else none:=by kernel_rfl
theorem round0_1 (xs:List D) (d:Int) (lv:Int) (s:ByteArray) (x21:Bool) (x22:Int) (x23:Int) (x24:Int) (x68:Bool) (x69:ByteArray) (x70:Bool) (x71:ByteArray) (x72:Bool) (x73:List D) (x74:Bool) (x75:Int):roundK (X B) [(0,3328)] (sub [1,1,0,0,0] (body Tryz.f62)) (s0 xs d lv s (.ifc 114 (.pt 3 (.ag [D.int .i64 x22,D.ifc 84 (.int .i64 x23)]))) x68 x69 x70 x71 x72 x73 x74 x75 x24 x21)=some (Sum.inr (Ex.exit 0,e0x0_1 xs d x21 x22 x23 x24 x68 x69 x70 x71 x72 x73 x74 x75)):=by kernel_rfl
theorem behind0x0 {β:Type} (a:Int) (lv:Int) (s:ByteArray) (xs:List D) (d:Int) (x134:ByteArray) (x135:ByteArray) (x136:List D) (x137:Int) (x138:Int) (k:List TV→List TV→Option β):applyK (X B) (finK Tryz.prog Tryz.f62 [.ob true [.ob true [.own true 4 xs,.d false 0 (.int .i64 a)],.d false 0 (.int .i64 d)],.d true 0 (.str s),.d true 0 (.int .i64 lv),.fc true false (63:FuncId) [(0,true)]] k) [Kf.block 0 3328,Kf.seq [] (sub [1,1,1] (body Tryz.f62)) 768] (Ex.exit 0) (e0x0 xs d x134 x135 x136 x137 x138)=k [.d true 5 (.ag [D.str x134,D.str x135,D.sl 5 x136,D.int .i64 x137]),.d false 0 D.nili] [.ob true [.ob true [.own true 4 xs,.d false 0 (.int .i64 x138)],.d false 0 (.int .i64 d)]]:=by kernel_rfl
theorem behind0x0_1 {β:Type} (a:Int) (lv:Int) (s:ByteArray) (xs:List D) (d:Int) (x21:Bool) (x22:Int) (x23:Int) (x24:Int) (x68:Bool) (x69:ByteArray) (x70:Bool) (x71:ByteArray) (x72:Bool) (x73:List D) (x74:Bool) (x75:Int) (k:List TV→List TV→Option β):applyK (X B) (finK Tryz.prog Tryz.f62 [.ob true [.ob true [.own true 4 xs,.d false 0 (.int .i64 a)],.d false 0 (.int .i64 d)],.d true 0 (.str s),.d true 0 (.int .i64 lv),.fc true false (63:FuncId) [(0,true)]] k) [Kf.block 0 3328,Kf.seq [] (sub [1,1,1] (body Tryz.f62)) 768] (Ex.exit 0) (e0x0_1 xs d x21 x22 x23 x24 x68 x69 x70 x71 x72 x73 x74 x75)=k [.d false 5 (.ag [D.str (ByteArray.mk #[]),D.str (ByteArray.mk #[]),D.sl 5 [],D.int .i64 0]),.d x21 0 (.ifc 114 (.pt 3 (.ag [D.int .i64 x22,D.ifc 84 (.int .i64 x23)])))] [.ob true [.ob true [.own true 4 xs,.d false 0 (.int .i64 x24)],.d false 0 (.int .i64 d)]]:=by kernel_rfl
end
end C78k
end Go.Sd
namespace Go.Sd
open Go Go.Cm Go.Proofs Go.Sc
set_option maxRecDepth 100000
namespace D81u
  section
  variable (B:Bd)
noncomputable def X:Fx:=⟨Tryz.prog,QP B,3072,5⟩
def s0 (xs:List D) (a:Int) (d:Int) (lv:Int) (o:ByteArray) (nm:ByteArray) (ks:List D) (p:Int) (s1:ByteArray) (s2:ByteArray) (s3:ByteArray) (x50:Int):S:=⟨Tm.mk 45 [(0,.rp 1 0),(1,.d true 0 (.int .i64 lv)),(3,.fb 64 [.rp 1 0]),(7,.rp 8 0),(10,.rp 11 0),(16,.d true 0 (.sl 0 [D.str s1,D.str s2,D.str s3])),(17,.d false 0 (.int .i64 3)),(18,.d false 0 (.int .i64 x50))],[(1,true,[.rp 69632 0,.d false 0 (.int .i64 d)]),(8,true,[.d true 0 (.str o),.d true 0 (.str nm),.d true 0 (.sl 5 ks),.d true 0 (.int .i64 p)]),(11,true,[.d false 0 (.str (ByteArray.mk #[])),.d false 0 (.str (ByteArray.mk #[])),.own false 5 [],.d false 0 (.int .i64 0)]),(69632,true,[.own true 4 xs,.d false 0 (.int .i64 a)]),(2305843009213693952,true,[.rp 1 0])]⟩
def e0r (xs:List D) (d:Int) (p:Int) (x102:ByteArray) (x103:List D) (x104:Int):S:=⟨Tm.mk 45 [(10,.rp 11 0),(11,.d false 0 D.nili)],[(1,true,[.rp 69632 0,.d false 0 (.int .i64 d)]),(11,true,[.d true 0 (.str x102),.d true 0 (.str (ByteArray.mk #[])),.d true 0 (.sl 5 x103),.d true 0 (.int .i64 p)]),(69632,true,[.own true 4 xs,.d false 0 (.int .i64 x104)]),(2305843009213693952,true,[.rp 1 0])]⟩
def e0r_1 (xs:List D) (d:Int) (x45:Bool) (x46:Int) (x47:Int) (x48:Int):S:=⟨Tm.mk 45 [(10,.rp 11 0),(11,.d x45 0 (.ifc 114 (.pt 3 (.ag [D.int .i64 x46,D.ifc 84 (.int .i64 x47)]))))],[(1,true,[.rp 69632 0,.d false 0 (.int .i64 d)]),(11,true,[.d false 0 (.str (ByteArray.mk #[])),.d false 0 (.str (ByteArray.mk #[])),.own false 5 [],.d false 0 (.int .i64 0)]),(69632,true,[.own true 4 xs,.d false 0 (.int .i64 x48)]),(2305843009213693952,true,[.rp 1 0])]⟩
def e0x0 (xs:List D) (a:Int) (d:Int) (o:ByteArray) (nm:ByteArray) (ks:List D) (p:Int):S:=⟨Tm.mk 45 [(7,.rp 8 0),(10,.rp 11 0)],[(1,true,[.rp 69632 0,.d false 0 (.int .i64 d)]),(8,true,[.d true 0 (.str o),.d true 0 (.str nm),.d true 0 (.sl 5 ks),.d true 0 (.int .i64 p)]),(11,true,[.d false 0 (.str (ByteArray.mk #[])),.d false 0 (.str (ByteArray.mk #[])),.own false 5 [],.d false 0 (.int .i64 0)]),(69632,true,[.own true 4 xs,.d false 0 (.int .i64 a)]),(2305843009213693952,true,[.rp 1 0])]⟩
noncomputable abbrev L0:S→Option (S ⊕ (Ex×S)):=roundK (X B) [(0,1152)] (sub [1,0,1,0,0] (body Tryz.f65))
theorem start {β:Type} (xs:List D) (a:Int) (d:Int) (lv:Int) (o:ByteArray) (nm:ByteArray) (ks:List D) (p:Int) (s1:ByteArray) (s2:ByteArray) (s3:ByteArray) (k:List TV→List TV→Option β):evalF Tryz.prog (QP B) Tryz.f65 [.ob true [.ob true [.own true 4 xs,.d false 0 (.int .i64 a)],.d false 0 (.int .i64 d)],.d true 0 (.int .i64 lv),.d true 5 (.ag [D.str o,D.str nm,D.sl 5 ks,D.int .i64 p]),.fc true true (64:FuncId) [(0,false)],.d true 0 (.sl 0 [D.str s1,D.str s2,D.str s3])] k=goLp (X B) [(0,1152)] (sub [1,0,1,0,0] (body Tryz.f65)) [Kf.block 0 1152,Kf.seq [] (sub [1,1] (body Tryz.f65)) 3072] (finK Tryz.prog Tryz.f65 [.ob true [.ob true [.own true 4 xs,.d false 0 (.int .i64 a)],.d false 0 (.int .i64 d)],.d true 0 (.int .i64 lv),.d true 5 (.ag [D.str o,D.str nm,D.sl 5 ks,D.int .i64 p]),.fc true true (64:FuncId) [(0,false)],.d true 0 (.sl 0 [D.str s1,D.str s2,D.str s3])] k) (s0 xs a d lv o nm ks p s1 s2 s3 (0:Int)):=by kernel_rfl
theorem round0_0 (xs:List D) (a:Int) (d:Int) (lv:Int) (o:ByteArray) (nm:ByteArray) (ks:List D) (p:Int) (s1:ByteArray) (s2:ByteArray) (s3:ByteArray) (x49:Int):roundK (X B) [(0,1152)] (sub [1,0,1,0,0] (body Tryz.f65)) (s0 xs a d lv o nm ks p s1 s2 s3 x49)=if decide (x49<3)=true then if 0≤x49 then match[D.str s1,D.str s2,D.str s3][x49.toNat]? with
   |some x111=>match x111 with
    |D.str s112=>if 0≤a∧a<34359738368 then match xs[a.toNat]? with
     |some (.ag [D.int .i64 c114,D.str t115,D.int .i64 n116])=>if((c114==1||c114==4)&&t115.toList==s112.toList)=true then if okP xs (a+1) d (IntKind.wrap .i64 (lv+1)) B.nu then match pUntl xs (Int.toNat (d+1 - IntKind.wrap .i64 (lv+1))) (a+1)with
      |PR.ok op119 nm120 ks121 p122 a123=>some (Sum.inr (Ex.ret,e0r xs d p s112 [fmD o nm ks p,fmD op119 nm120 ks121 p122] a123))
      |PR.syn p127 a128=>some (Sum.inr (Ex.ret,e0r_1 xs d false p127 (20:Int) a128))
      |PR.deep p132 a133=>some (Sum.inr (Ex.ret,e0r_1 xs d true p132 (21:Int) a133))
      |PR.no=>none else none else some (Sum.inl (s0 xs a d lv o nm ks p s1 s2 s3 (IntKind.wrap .i64 (x49+1))))
     |x=>none else none
    |x=>none
   |none=>none else none else some (Sum.inr (Ex.exit 0,e0x0 xs a d o nm ks p)):=by kernel_rfl
theorem behind0r {β:Type} (a:Int) (lv:Int) (o:ByteArray) (nm:ByteArray) (ks:List D) (s1:ByteArray) (s2:ByteArray) (s3:ByteArray) (xs:List D) (d:Int) (p:Int) (x102:ByteArray) (x103:List D) (x104:Int) (k:List TV→List TV→Option β):applyK (X B) (finK Tryz.prog Tryz.f65 [.ob true [.ob true [.own true 4 xs,.d false 0 (.int .i64 a)],.d false 0 (.int .i64 d)],.d true 0 (.int .i64 lv),.d true 5 (.ag [D.str o,D.str nm,D.sl 5 ks,D.int .i64 p]),.fc true true (64:FuncId) [(0,false)],.d true 0 (.sl 0 [D.str s1,D.str s2,D.str s3])] k) [Kf.block 0 1152,Kf.seq [] (sub [1,1] (body Tryz.f65)) 3072] Ex.ret (e0r xs d p x102 x103 x104)=k [.d true 5 (.ag [D.str x102,D.str (ByteArray.mk #[]),D.sl 5 x103,D.int .i64 p]),.d false 0 D.nili] [.ob true [.ob true [.own true 4 xs,.d false 0 (.int .i64 x104)],.d false 0 (.int .i64 d)]]:=by kernel_rfl
theorem behind0r_1 {β:Type} (a:Int) (lv:Int) (o:ByteArray) (nm:ByteArray) (ks:List D) (p:Int) (s1:ByteArray) (s2:ByteArray) (s3:ByteArray) (xs:List D) (d:Int) (x45:Bool) (x46:Int) (x47:Int) (x48:Int) (k:List TV→List TV→Option β):applyK (X B) (finK Tryz.prog Tryz.f65 [.ob true [.ob true [.own true 4 xs,.d false 0 (.int .i64 a)],.d false 0 (.int .i64 d)],.d true 0 (.int .i64 lv),.d true 5 (.ag [D.str o,D.str nm,D.sl 5 ks,D.int .i64 p]),.fc true true (64:FuncId) [(0,false)],.d true 0 (.sl 0 [D.str s1,D.str s2,D.str s3])] k) [Kf.block 0 1152,Kf.seq [] (sub [1,1] (body Tryz.f65)) 3072] Ex.ret (e0r_1 xs d x45 x46 x47 x48)=k [.d false 5 (.ag [D.str (ByteArray.mk #[]),D.str (ByteArray.mk #[]),D.sl 5 [],D.int .i64 0]),.d x45 0 (.ifc 114 (.pt 3 (.ag [D.int .i64 x46,D.ifc 84 (.int .i64 x47)])))] [.ob true [.ob true [.own true 4 xs,.d false 0 (.int .i64 x48)],.d false 0 (.int .i64 d)]]:=by kernel_rfl
theorem behind0x0 {β:Type} (lv:Int) (s1:ByteArray) (s2:ByteArray) (s3:ByteArray) (xs:List D) (a:Int) (d:Int) (o:ByteArray) (nm:ByteArray) (ks:List D) (p:Int) (k:List TV→List TV→Option β):applyK (X B) (finK Tryz.prog Tryz.f65 [.ob true [.ob true [.own true 4 xs,.d false 0 (.int .i64 a)],.d false 0 (.int .i64 d)],.d true 0 (.int .i64 lv),.d true 5 (.ag [D.str o,D.str nm,D.sl 5 ks,D.int .i64 p]),.fc true true (64:FuncId) [(0,false)],.d true 0 (.sl 0 [D.str s1,D.str s2,D.str s3])] k) [Kf.block 0 1152,Kf.seq [] (sub [1,1] (body Tryz.f65)) 3072] (Ex.exit 0) (e0x0 xs a d o nm ks p)=k [.d true 5 (.ag [D.str o,D.str nm,D.sl 5 ks,D.int .i64 p]),.d false 0 D.nili] [.ob true [.ob true [.own true 4 xs,.d false 0 (.int .i64 a)],.d false 0 (.int .i64 d)]]:=by kernel_rfl
end
end D81u
namespace D81i
  section
  variable (B:Bd)
noncomputable def X:Fx:=⟨Tryz.prog,QP B,3072,5⟩
def s0 (xs:List D) (a:Int) (d:Int) (lv:Int) (o:ByteArray) (nm:ByteArray) (ks:List D) (p:Int) (s1:ByteArray) (x50:Int):S:=⟨Tm.mk 45 [(0,.rp 1 0),(1,.d true 0 (.int .i64 lv)),(3,.fb 40 [.rp 1 0]),(7,.rp 8 0),(10,.rp 11 0),(16,.d true 0 (.sl 0 [D.str s1])),(17,.d false 0 (.int .i64 1)),(18,.d false 0 (.int .i64 x50))],[(1,true,[.rp 69632 0,.d false 0 (.int .i64 d)]),(8,true,[.d true 0 (.str o),.d true 0 (.str nm),.d true 0 (.sl 5 ks),.d true 0 (.int .i64 p)]),(11,true,[.d false 0 (.str (ByteArray.mk #[])),.d false 0 (.str (ByteArray.mk #[])),.own false 5 [],.d false 0 (.int .i64 0)]),(69632,true,[.own true 4 xs,.d false 0 (.int .i64 a)]),(2305843009213693952,true,[.rp 1 0])]⟩
def e0r (xs:List D) (d:Int) (p:Int) (x102:ByteArray) (x103:List D) (x104:Int):S:=⟨Tm.mk 45 [(10,.rp 11 0),(11,.d false 0 D.nili)],[(1,true,[.rp 69632 0,.d false 0 (.int .i64 d)]),(11,true,[.d true 0 (.str x102),.d true 0 (.str (ByteArray.mk #[])),.d true 0 (.sl 5 x103),.d true 0 (.int .i64 p)]),(69632,true,[.own true 4 xs,.d false 0 (.int .i64 x104)]),(2305843009213693952,true,[.rp 1 0])]⟩
def e0r_1 (xs:List D) (d:Int) (x45:Bool) (x46:Int) (x47:Int) (x48:Int):S:=⟨Tm.mk 45 [(10,.rp 11 0),(11,.d x45 0 (.ifc 114 (.pt 3 (.ag [D.int .i64 x46,D.ifc 84 (.int .i64 x47)]))))],[(1,true,[.rp 69632 0,.d false 0 (.int .i64 d)]),(11,true,[.d false 0 (.str (ByteArray.mk #[])),.d false 0 (.str (ByteArray.mk #[])),.own false 5 [],.d false 0 (.int .i64 0)]),(69632,true,[.own true 4 xs,.d false 0 (.int .i64 x48)]),(2305843009213693952,true,[.rp 1 0])]⟩
def e0x0 (xs:List D) (a:Int) (d:Int) (o:ByteArray) (nm:ByteArray) (ks:List D) (p:Int):S:=⟨Tm.mk 45 [(7,.rp 8 0),(10,.rp 11 0)],[(1,true,[.rp 69632 0,.d false 0 (.int .i64 d)]),(8,true,[.d true 0 (.str o),.d true 0 (.str nm),.d true 0 (.sl 5 ks),.d true 0 (.int .i64 p)]),(11,true,[.d false 0 (.str (ByteArray.mk #[])),.d false 0 (.str (ByteArray.mk #[])),.own false 5 [],.d false 0 (.int .i64 0)]),(69632,true,[.own true 4 xs,.d false 0 (.int .i64 a)]),(2305843009213693952,true,[.rp 1 0])]⟩
noncomputable abbrev L0:S→Option (S ⊕ (Ex×S)):=roundK (X B) [(0,1152)] (sub [1,0,1,0,0] (body Tryz.f65))
theorem start {β:Type} (xs:List D) (a:Int) (d:Int) (lv:Int) (o:ByteArray) (nm:ByteArray) (ks:List D) (p:Int) (s1:ByteArray) (k:List TV→List TV→Option β):evalF Tryz.prog (QP B) Tryz.f65 [.ob true [.ob true [.own true 4 xs,.d false 0 (.int .i64 a)],.d false 0 (.int .i64 d)],.d true 0 (.int .i64 lv),.d true 5 (.ag [D.str o,D.str nm,D.sl 5 ks,D.int .i64 p]),.fc true true (40:FuncId) [(0,false)],.d true 0 (.sl 0 [D.str s1])] k=goLp (X B) [(0,1152)] (sub [1,0,1,0,0] (body Tryz.f65)) [Kf.block 0 1152,Kf.seq [] (sub [1,1] (body Tryz.f65)) 3072] (finK Tryz.prog Tryz.f65 [.ob true [.ob true [.own true 4 xs,.d false 0 (.int .i64 a)],.d false 0 (.int .i64 d)],.d true 0 (.int .i64 lv),.d true 5 (.ag [D.str o,D.str nm,D.sl 5 ks,D.int .i64 p]),.fc true true (40:FuncId) [(0,false)],.d true 0 (.sl 0 [D.str s1])] k) (s0 xs a d lv o nm ks p s1 (0:Int)):=by kernel_rfl
theorem round0_0 (xs:List D) (a:Int) (d:Int) (lv:Int) (o:ByteArray) (nm:ByteArray) (ks:List D) (p:Int) (s1:ByteArray) (x49:Int):roundK (X B) [(0,1152)] (sub [1,0,1,0,0] (body Tryz.f65)) (s0 xs a d lv o nm ks p s1 x49)=if decide (x49<1)=true then if 0≤x49 then match[D.str s1][x49.toNat]? with
   |some x111=>match x111 with
    |D.str s112=>if 0≤a∧a<34359738368 then match xs[a.toNat]? with
     |some (.ag [D.int .i64 c114,D.str t115,D.int .i64 n116])=>if((c114==1||c114==4)&&t115.toList==s112.toList)=true then if okP xs (a+1) d (IntKind.wrap .i64 (lv+1)) B.ni then match pImply xs (Int.toNat (d+1 - IntKind.wrap .i64 (lv+1))) (a+1)with
      |PR.ok op119 nm120 ks121 p122 a123=>some (Sum.inr (Ex.ret,e0r xs d p s112 [fmD o nm ks p,fmD op119 nm120 ks121 p122] a123))
      |PR.syn p127 a128=>some (Sum.inr (Ex.ret,e0r_1 xs d false p127 (20:Int) a128))
      |PR.deep p132 a133=>some (Sum.inr (Ex.ret,e0r_1 xs d true p132 (21:Int) a133))
      |PR.no=>none else none else some (Sum.inl (s0 xs a d lv o nm ks p s1 (IntKind.wrap .i64 (x49+1))))
     |x=>none else none
    |x=>none
   |none=>none else none else some (Sum.inr (Ex.exit 0,e0x0 xs a d o nm ks p)):=by kernel_rfl
theorem behind0r {β:Type} (a:Int) (lv:Int) (o:ByteArray) (nm:ByteArray) (ks:List D) (s1:ByteArray) (xs:List D) (d:Int) (p:Int) (x102:ByteArray) (x103:List D) (x104:Int) (k:List TV→List TV→Option β):applyK (X B) (finK Tryz.prog Tryz.f65 [.ob true [.ob true [.own true 4 xs,.d false 0 (.int .i64 a)],.d false 0 (.int .i64 d)],.d true 0 (.int .i64 lv),.d true 5 (.ag [D.str o,D.str nm,D.sl 5 ks,D.int .i64 p]),.fc true true (40:FuncId) [(0,false)],.d true 0 (.sl 0 [D.str s1])] k) [Kf.block 0 1152,Kf.seq [] (sub [1,1] (body Tryz.f65)) 3072] Ex.ret (e0r xs d p x102 x103 x104)=k [.d true 5 (.ag [D.str x102,D.str (ByteArray.mk #[]),D.sl 5 x103,D.int .i64 p]),.d false 0 D.nili] [.ob true [.ob true [.own true 4 xs,.d false 0 (.int .i64 x104)],.d false 0 (.int .i64 d)]]:=by kernel_rfl
theorem behind0r_1 {β:Type} (a:Int) (lv:Int) (o:ByteArray) (nm:ByteArray) (ks:List D) (p:Int) (s1:ByteArray) (xs:List D) (d:Int) (x45:Bool) (x46:Int) (x47:Int) (x48:Int) (k:List TV→List TV→Option β):applyK (X B) (finK Tryz.prog Tryz.f65 [.ob true [.ob true [.own true 4 xs,.d false 0 (.int .i64 a)],.d false 0 (.int .i64 d)],.d true 0 (.int .i64 lv),.d true 5 (.ag [D.str o,D.str nm,D.sl 5 ks,D.int .i64 p]),.fc true true (40:FuncId) [(0,false)],.d true 0 (.sl 0 [D.str s1])] k) [Kf.block 0 1152,Kf.seq [] (sub [1,1] (body Tryz.f65)) 3072] Ex.ret (e0r_1 xs d x45 x46 x47 x48)=k [.d false 5 (.ag [D.str (ByteArray.mk #[]),D.str (ByteArray.mk #[]),D.sl 5 [],D.int .i64 0]),.d x45 0 (.ifc 114 (.pt 3 (.ag [D.int .i64 x46,D.ifc 84 (.int .i64 x47)])))] [.ob true [.ob true [.own true 4 xs,.d false 0 (.int .i64 x48)],.d false 0 (.int .i64 d)]]:=by kernel_rfl
theorem behind0x0 {β:Type} (lv:Int) (s1:ByteArray) (xs:List D) (a:Int) (d:Int) (o:ByteArray) (nm:ByteArray) (ks:List D) (p:Int) (k:List TV→List TV→Option β):applyK (X B) (finK Tryz.prog Tryz.f65 [.ob true [.ob true [.own true 4 xs,.d false 0 (.int .i64 a)],.d false 0 (.int .i64 d)],.d true 0 (.int .i64 lv),.d true 5 (.ag [D.str o,D.str nm,D.sl 5 ks,D.int .i64 p]),.fc true true (40:FuncId) [(0,false)],.d true 0 (.sl 0 [D.str s1])] k) [Kf.block 0 1152,Kf.seq [] (sub [1,1] (body Tryz.f65)) 3072] (Ex.exit 0) (e0x0 xs a d o nm ks p)=k [.d true 5 (.ag [D.str o,D.str nm,D.sl 5 ks,D.int .i64 p]),.d false 0 D.nili] [.ob true [.ob true [.own true 4 xs,.d false 0 (.int .i64 a)],.d false 0 (.int .i64 d)]]:=by kernel_rfl
end
end D81i
end Go.Sd
namespace Go.Sd
open Go Go.Cm Go.Proofs Go.Sc
set_option maxRecDepth 100000
theorem envq0:EnvOk glS Tryz.prog Q0:=env_num env24
theorem envq1:EnvOk glS Tryz.prog Q1:=envq0.fn mixed Tryz.func42 (by kernel_rfl) fun β args k r hr=>by
 unfold cAt at hr
 split at hr
 ·rename_i xs a d n
  unfold chkK at hr
  split at hr
  ·rename_i h0
   split at hr
   ·rename_i c t p hx
    refine⟨_,_,hr,fun q=>?_⟩
    rw[A57.start,if_pos h0,hx];rfl
   ·cases hr
  ·cases hr
 ·cases hr
theorem envq2:EnvOk glS Tryz.prog Q2:=envq1.fn mixed Tryz.func94 (by kernel_rfl) fun β args k r hr=>by
 unfold cTwo at hr
 split at hr
 ·rename_i op o1 n1 k1 p1 o2 n2 k2 p2
  refine⟨_,_,hr,fun q=>?_⟩
  rw[A107.start];rfl
 ·cases hr
theorem ansP_out {β:Type} {o:Int→TV} {k:List TV→List TV→Option β} {x:PR} {r:β} (h:ansP o k x=some r):
  ∃res outs,k res outs=some r∧∀{γ:Type} (q:List TV→List TV→Option γ),ansP o q x=q res outs:=by
 cases x with
 |ok op nm ks p a=>exact⟨_,_,h,fun q=>rfl⟩
 |syn p a=>exact⟨_,_,h,fun q=>rfl⟩
 |deep p a=>exact⟨_,_,h,fun q=>rfl⟩
 |no=>cases h
theorem ansP_no {β:Type} {o:Int→TV} {k:List TV→List TV→Option β}:ansP o k .no=none:=rfl
def Ev (B:Bd) (fn:Func) (c:{β:Type}→List TV→(List TV→List TV→Option β)→Option β):Prop:=
 ∀(β:Type) (args:List TV) (k:List TV→List TV→Option β) (r:β),c args k=some r→∃res outs,k res outs=some r∧∀{γ:Type} (q:List TV→List TV→Option γ),evalF Tryz.prog (QP B) fn args q=q res outs
theorem EnvOk.upd {B:Bd} {E':Env} {f:FuncId} {fn:Func} {c:{β:Type}→List TV→(List TV→List TV→Option β)→Option β} (h:EnvOk glS Tryz.prog (QP B)) (hf:Tryz.prog.funcs[f]? =some fn) (hn:(fn.name== "runtime.NumGoroutine")=false) (hc:Ev B fn c)
  (hE:∀(β:Type) (g:FuncId) (args:List TV) (k:List TV→List TV→Option β) (r:β),E'.c g args k=some r→(QP B).c g args k=some r∨(g=f∧c args k=some r)):EnvOk glS Tryz.prog E':=by
 intro β g args k r hr
 rcases hE β g args k r hr with h1|⟨rfl,h1⟩
 ·exact h β g args k r h1
 ·obtain⟨res,outs,h2,h3⟩:=hc β args k r h1
  exact⟨res,outs,h2,valid_of h mixed hf hn (h3 _)⟩
theorem okP_mono {xs:List D} {a d lv:Int} {m n:Nat} (h:okP xs a d lv m) (hn:m≤n):okP xs a d lv n:=⟨h.1,h.2.1,h.2.2.1,h.2.2.2.1,h.2.2.2.2.1,Nat.lt_of_lt_of_le h.2.2.2.2.2 hn⟩
theorem okP_at {xs:List D} {a d lv b:Int} {n:Nat} (h:okP xs a d lv n) (hb:a≤b):okP xs b d lv n:=⟨h.1,Int.le_trans h.2.1 hb,h.2.2⟩
theorem wlv {lv:Int} (h1: -1≤lv) (h2:lv≤1001):IntKind.wrap .i64 (lv+1)=lv+1:=wrap_id (by omega) (by omega)
theorem Lp_unfold {σ α:Type} {f:σ→Option (σ ⊕ α)} {s s':σ} (h:f s=some (.inl s')):Lp f s=Lp f s':=by
 cases h2:Lp f s' with
 |some r=>exact Lp_step h h2
 |none=>
  cases h3:Lp f s with
  |none=>rfl
  |some r=>
   obtain⟨n,hn⟩:=Lp.of_some h3
   cases n with
   |zero=>simp[Lp.iter]at hn
   |succ n=>
    simp only[Lp.iter,h]at hn
    rw[Lp.eq_of hn]at h2;cases h2
theorem right_round {B:Bd} {xs:List D} {a d lv:Int} (h:okP xs a d (lv+1) B.nu) (o nm:ByteArray) (ks:List D) (p:Int) (s1 s2 s3:ByteArray) {β:Type} (q:List TV→List TV→Option β):
  ∀(ops:List ByteArray) (i:Nat),[s1,s2,s3].drop i=ops→i≤3→rightP xs (pUntl xs (d - lv).toNat) o nm ks p ops a≠.no→
   goLp (D81u.X B) [((0:Nat),(1152:Nat))] (sub [(1:Nat),(0:Nat),(1:Nat),(0:Nat),(0:Nat)] (body Tryz.f65)) [Kf.block (0:Nat) (1152:Nat),Kf.seq [] (sub [(1:Nat),(1:Nat)] (body Tryz.f65)) (3072:Nat)]
    (finK Tryz.prog Tryz.f65 [pars xs a d,TV.d true 0 (D.int .i64 lv),TV.d true 5 (fmD o nm ks p),TV.fc true true 64 [(0,false)],TV.d true 0 (.sl 0 [.str s1,.str s2,.str s3])] q)
    (D81u.s0 xs a d lv o nm ks p s1 s2 s3 i)=ansP (fun a=>pars xs a d) q (rightP xs (pUntl xs (d - lv).toNat) o nm ks p ops a)
 |[],i,hi,hi3,hno=>by
  have hr:=D81u.round0_0 B xs a d lv o nm ks p s1 s2 s3 i
  have:i=3:=by
   rcases Nat.lt_or_ge i 3 with h|h
   ·have:=congrArg List.length hi;simp at this;omega
   ·omega
  subst this
  rw[if_neg (by simp)]at hr
  rw[goLp_of (Lp_exit hr)]
  exact D81u.behind0x0 B lv s1 s2 s3 xs a d o nm ks p q
 |op::ops,i,hi,hi3,hno=>by
  have hr:=D81u.round0_0 B xs a d lv o nm ks p s1 s2 s3 i
  have hlt:i<3:=by
   rcases Nat.lt_or_ge i 3 with h|h
   ·exact h
   ·have:=congrArg List.length hi;simp at this;omega
  have hget:[D.str s1,D.str s2,D.str s3][i]? =some (.str op):=by
   have:[s1,s2,s3][i]? =some op:=by
    have:=congrArg (·[0]?) hi
    simpa using this
   have e:[D.str s1,D.str s2,D.str s3]=[s1,s2,s3].map D.str:=rfl
   rw[e,List.getElem?_map,this];rfl
  rw[if_pos (by simp;omega),if_pos (by omega),Int.toNat_natCast,hget]at hr
  have w:IntKind.wrap .i64 ((i:Int)+1)=((i+1:Nat):Int):=by rw[wlv (by omega) (by omega)];simp
  rw[wlv (by have:=h.2.2.1;omega) (by have:=h.2.2.2.1;omega),w]at hr
  unfold rightP at hno ⊢
  cases ht:tk xs a with
  |none=>rw[ht]at hno;exact(hno rfl).elim
  |some v=>
   obtain⟨c,t,p0⟩:=v
   rw[ht]at hno
   simp only at hno ⊢
   have h3:=h.2.1;have h4:=h.1
   have h5:=tk_lt ht h.2.1
   have hx:=tk_some ht
   simp only[hx,if_pos (show(0:Int)≤a∧a<34359738368 by omega)]at hr
   by_cases hb:isT c t op=true
   ·rw[if_pos hb]at hno ⊢
    have hb':=hb
    simp only[isT]at hb'
    rw[if_pos hb',if_pos (okP_at h (by omega)),show(d+1 - (lv+1)).toNat=(d - lv).toNat by omega]at hr
    cases hp:pUntl xs (d - lv).toNat (a+1)with
    |ok o2 nm2 ks2 p2 a2=>
     rw[hp]at hr
     rw[goLp_of (Lp_exit hr)]
     exact D81u.behind0r B a lv o nm ks s1 s2 s3 xs d p op _ a2 q
    |syn p2 a2=>
     rw[hp]at hr
     rw[goLp_of (Lp_exit hr)]
     exact D81u.behind0r_1 B a lv o nm ks p s1 s2 s3 xs d false p2 20 a2 q
    |deep p2 a2=>
     rw[hp]at hr
     rw[goLp_of (Lp_exit hr)]
     exact D81u.behind0r_1 B a lv o nm ks p s1 s2 s3 xs d true p2 21 a2 q
    |no=>rw[hp]at hno;exact(hno rfl).elim
   ·rw[if_neg hb]at hno ⊢
    have hb':=hb
    simp only[isT]at hb'
    rw[if_neg hb']at hr
    have ih:=right_round h o nm ks p s1 s2 s3 q ops (i+1) (by rw[←List.drop_drop,hi];rfl) (by omega) hno
    rw[←ih]
    simp only[goLp]
    rw[Lp_unfold hr]
theorem right_roundi {B:Bd} {xs:List D} {a d lv:Int} (h:okP xs a d (lv+1) B.ni) (o nm:ByteArray) (ks:List D) (p:Int) (s1:ByteArray) {β:Type} (q:List TV→List TV→Option β):
  ∀(ops:List ByteArray) (i:Nat),[s1].drop i=ops→i≤1→rightP xs (pImply xs (d - lv).toNat) o nm ks p ops a≠.no→
   goLp (D81i.X B) [((0:Nat),(1152:Nat))] (sub [(1:Nat),(0:Nat),(1:Nat),(0:Nat),(0:Nat)] (body Tryz.f65)) [Kf.block (0:Nat) (1152:Nat),Kf.seq [] (sub [(1:Nat),(1:Nat)] (body Tryz.f65)) (3072:Nat)]
    (finK Tryz.prog Tryz.f65 [pars xs a d,TV.d true 0 (D.int .i64 lv),TV.d true 5 (fmD o nm ks p),TV.fc true true 40 [(0,false)],TV.d true 0 (.sl 0 [.str s1])] q)
    (D81i.s0 xs a d lv o nm ks p s1 i)=ansP (fun a=>pars xs a d) q (rightP xs (pImply xs (d - lv).toNat) o nm ks p ops a)
 |[],i,hi,hi3,hno=>by
  have hr:=D81i.round0_0 B xs a d lv o nm ks p s1 i
  have:i=1:=by
   rcases Nat.lt_or_ge i 1 with h|h
   ·have:=congrArg List.length hi;simp at this;omega
   ·omega
  subst this
  rw[if_neg (by simp)]at hr
  rw[goLp_of (Lp_exit hr)]
  exact D81i.behind0x0 B lv s1 xs a d o nm ks p q
 |op::ops,i,hi,hi3,hno=>by
  have hr:=D81i.round0_0 B xs a d lv o nm ks p s1 i
  have hlt:i<1:=by
   rcases Nat.lt_or_ge i 1 with h|h
   ·exact h
   ·have:=congrArg List.length hi;simp at this;omega
  have hget:[D.str s1][i]? =some (.str op):=by
   have:[s1][i]? =some op:=by
    have:=congrArg (·[0]?) hi
    simpa using this
   have e:[D.str s1]=[s1].map D.str:=rfl
   rw[e,List.getElem?_map,this];rfl
  rw[if_pos (by simp;omega),if_pos (by omega),Int.toNat_natCast,hget]at hr
  have w:IntKind.wrap .i64 ((i:Int)+1)=((i+1:Nat):Int):=by rw[wlv (by omega) (by omega)];simp
  rw[wlv (by have:=h.2.2.1;omega) (by have:=h.2.2.2.1;omega),w]at hr
  unfold rightP at hno ⊢
  cases ht:tk xs a with
  |none=>rw[ht]at hno;exact(hno rfl).elim
  |some v=>
   obtain⟨c,t,p0⟩:=v
   rw[ht]at hno
   simp only at hno ⊢
   have h3:=h.2.1;have h4:=h.1
   have h5:=tk_lt ht h.2.1
   have hx:=tk_some ht
   simp only[hx,if_pos (show(0:Int)≤a∧a<34359738368 by omega)]at hr
   by_cases hb:isT c t op=true
   ·rw[if_pos hb]at hno ⊢
    have hb':=hb
    simp only[isT]at hb'
    rw[if_pos hb',if_pos (okP_at h (by omega)),show(d+1 - (lv+1)).toNat=(d - lv).toNat by omega]at hr
    cases hp:pImply xs (d - lv).toNat (a+1)with
    |ok o2 nm2 ks2 p2 a2=>
     rw[hp]at hr
     rw[goLp_of (Lp_exit hr)]
     exact D81i.behind0r B a lv o nm ks s1 xs d p op _ a2 q
    |syn p2 a2=>
     rw[hp]at hr
     rw[goLp_of (Lp_exit hr)]
     exact D81i.behind0r_1 B a lv o nm ks p s1 xs d false p2 20 a2 q
    |deep p2 a2=>
     rw[hp]at hr
     rw[goLp_of (Lp_exit hr)]
     exact D81i.behind0r_1 B a lv o nm ks p s1 xs d true p2 21 a2 q
    |no=>rw[hp]at hno;exact(hno rfl).elim
   ·rw[if_neg hb]at hno ⊢
    have hb':=hb
    simp only[isT]at hb'
    rw[if_neg hb']at hr
    have ih:=right_roundi h o nm ks p s1 q ops (i+1) (by rw[←List.drop_drop,hi];rfl) (by omega) hno
    rw[←ih]
    simp only[goLp]
    rw[Lp_unfold hr]
theorem ev_right {B:Bd} {ni nu:Nat} (hi:ni≤B.ni) (hu:nu≤B.nu):Ev B Tryz.f65 (cRight ni nu):=fun β args k r hr=>by
 replace hr:cRight ni nu args k=some r:=hr
 unfold cRight at hr
 split at hr
 ·rename_i xs a d lv o nm ks p s1 s2 s3
  unfold chkK at hr
  split at hr
  ·rename_i h0
   have hno:pRight xs (d - lv).toNat true o nm ks p [s1,s2,s3] a≠.no:=fun e=>by rw[e,ansP_no]at hr;cases hr
   obtain⟨res,outs,h1,h2⟩:=ansP_out hr
   refine⟨res,outs,h1,fun q=>?_⟩
   rw[←h2 q,D81u.start]
   exact right_round (okP_mono h0 hu) o nm ks p s1 s2 s3 q [s1,s2,s3] 0 rfl (by omega) hno
  ·cases hr
 ·rename_i xs a d lv o nm ks p s1
  unfold chkK at hr
  split at hr
  ·rename_i h0
   have hno:pRight xs (d - lv).toNat false o nm ks p [s1] a≠.no:=fun e=>by rw[e,ansP_no]at hr;cases hr
   obtain⟨res,outs,h1,h2⟩:=ansP_out hr
   refine⟨res,outs,h1,fun q=>?_⟩
   rw[←h2 q,D81i.start]
   exact right_roundi (okP_mono h0 hi) o nm ks p s1 q [s1] 0 rfl (by omega) hno
  ·cases hr
 ·cases hr
end Go.Sd
namespace Go.Sd
open Go Go.Cm Go.Proofs Go.Sc
set_option maxRecDepth 100000
theorem chain_loopU {B:Bd} {xs:List D} {d lv:Int} (s:ByteArray) (a0:Int) {β:Type} (q:List TV→List TV→Option β):
  ∀(n:Nat) (o nm:ByteArray) (ks:List D) (p a:Int),okP xs a d lv B.nu→chainL xs s (pUntl xs (d+1 - lv).toNat) n o nm ks p a≠.no→
   goLp (C78u.X B) [((0:Nat),(3328:Nat))] (sub [(1:Nat),(1:Nat),(0:Nat),(0:Nat),(0:Nat)] (body Tryz.f62)) [Kf.block (0:Nat) (3328:Nat),Kf.seq [] (sub [(1:Nat),(1:Nat),(1:Nat)] (body Tryz.f62)) (768:Nat)]
    (finK Tryz.prog Tryz.f62 [pars xs a0 d,TV.d true 0 (D.str s),TV.d true 0 (D.int .i64 lv),TV.fc true true 64 [(0,false)]] q)
    (C78u.s0 xs d lv s .nili true o true nm true ks true p a false)=ansP (fun a=>pars xs a d) q (chainL xs s (pUntl xs (d+1 - lv).toNat) n o nm ks p a)
 |0,o,nm,ks,p,a,h,hno=>(hno rfl).elim
 |n+1,o,nm,ks,p,a,h,hno=>by
  have hr:=C78u.round0_0 B xs d lv s o nm ks a p
  unfold chainL at hno ⊢
  cases ht:tk xs a with
  |none=>rw[ht]at hno;exact(hno rfl).elim
  |some v=>
   obtain⟨c,t,p0⟩:=v
   rw[ht]at hno
   simp only at hno ⊢
   have h3:=h.2.1;have h4:=h.1
   have h5:=tk_lt ht h.2.1
   have hx:=tk_some ht
   simp only[hx,if_pos (show(0:Int)≤a∧a<34359738368 by omega)]at hr
   by_cases hb:isT c t s=true
   ·rw[if_pos hb]at hno ⊢
    have hb':=hb
    simp only[isT]at hb'
    rw[if_pos hb',if_pos (okP_at h (by omega))]at hr
    have hadv:=adv_untl xs (d+1 - lv).toNat (a+1)
    cases hp:pUntl xs (d+1 - lv).toNat (a+1)with
    |ok o2 nm2 ks2 p2 a2=>
     rw[hp]at hr hno hadv
     simp only at hno ⊢
     simp only[Adv]at hadv
     rw[←chain_loopU s a0 q n s ⟨#[]⟩ [fmD o nm ks p,fmD o2 nm2 ks2 p2] p a2 (okP_at h (by omega)) hno]
     simp only[goLp]
     rw[Lp_unfold hr]
    |syn p2 a2=>
     rw[hp]at hr
     rw[goLp_of (Lp_step hr (Lp_exit (C78u.round0_1 B xs d lv s false p2 20 a2 true o true nm true ks true p)))]
     exact C78u.behind0x0_1 B a0 lv s xs d false p2 20 a2 true o true nm true ks true p q
    |deep p2 a2=>
     rw[hp]at hr
     rw[goLp_of (Lp_step hr (Lp_exit (C78u.round0_1 B xs d lv s true p2 21 a2 true o true nm true ks true p)))]
     exact C78u.behind0x0_1 B a0 lv s xs d true p2 21 a2 true o true nm true ks true p q
    |no=>rw[hp]at hno;exact(hno rfl).elim
   ·rw[if_neg hb]at hno ⊢
    have hb':=hb
    simp only[isT]at hb'
    rw[if_neg hb']at hr
    rw[goLp_of (Lp_exit hr)]
    exact C78u.behind0x0 B a0 lv s xs d o nm ks p a q
theorem chain_allU {B:Bd} {xs:List D} {d lv:Int} (s:ByteArray) (a:Int) {β:Type} (q:List TV→List TV→Option β) (h:okP xs a d lv B.nu) (hno:pChain xs s (d+1 - lv).toNat true a≠.no):
  evalF Tryz.prog (QP B) Tryz.f62 [pars xs a d,TV.d true 0 (D.str s),TV.d true 0 (D.int .i64 lv),TV.fc true true 64 [(0,false)]] q=ansP (fun a=>pars xs a d) q (pChain xs s (d+1 - lv).toNat true a):=by
 have st:=C78u.start B xs a d lv s q
 rw[if_pos h]at st
 refine Eq.trans st ?_
 have hadv:=adv_untl xs (d+1 - lv).toNat a
 simp only[pChain,chainP]at hno ⊢
 cases hp:pUntl xs (d+1 - lv).toNat a with
 |ok o nm ks p a2=>
  rw[hp]at hno hadv
  simp only at hno ⊢
  simp only[Adv]at hadv
  exact chain_loopU s a q (xs.length+1) o nm ks p a2 (okP_at h (by omega)) hno
 |syn p2 a2=>
  simp only
  rw[goLp_of (Lp_exit (C78u.round0_1 B xs d lv s false p2 20 a2 false ⟨#[]⟩ false ⟨#[]⟩ false [] false 0))]
  exact C78u.behind0x0_1 B a lv s xs d false p2 20 a2 false ⟨#[]⟩ false ⟨#[]⟩ false [] false 0 q
 |deep p2 a2=>
  simp only
  rw[goLp_of (Lp_exit (C78u.round0_1 B xs d lv s true p2 21 a2 false ⟨#[]⟩ false ⟨#[]⟩ false [] false 0))]
  exact C78u.behind0x0_1 B a lv s xs d true p2 21 a2 false ⟨#[]⟩ false ⟨#[]⟩ false [] false 0 q
 |no=>rw[hp]at hno;exact(hno rfl).elim
theorem chain_loopK {B:Bd} {xs:List D} {d lv:Int} (s:ByteArray) (a0:Int) {β:Type} (q:List TV→List TV→Option β):
  ∀(n:Nat) (o nm:ByteArray) (ks:List D) (p a:Int),okP xs a d lv B.nk→chainL xs s (pK xs (d+1 - lv).toNat) n o nm ks p a≠.no→
   goLp (C78k.X B) [((0:Nat),(3328:Nat))] (sub [(1:Nat),(1:Nat),(0:Nat),(0:Nat),(0:Nat)] (body Tryz.f62)) [Kf.block (0:Nat) (3328:Nat),Kf.seq [] (sub [(1:Nat),(1:Nat),(1:Nat)] (body Tryz.f62)) (768:Nat)]
    (finK Tryz.prog Tryz.f62 [pars xs a0 d,TV.d true 0 (D.str s),TV.d true 0 (D.int .i64 lv),TV.fc true false 63 [(0,true)]] q)
    (C78k.s0 xs d lv s .nili true o true nm true ks true p a false)=ansP (fun a=>pars xs a d) q (chainL xs s (pK xs (d+1 - lv).toNat) n o nm ks p a)
 |0,o,nm,ks,p,a,h,hno=>(hno rfl).elim
 |n+1,o,nm,ks,p,a,h,hno=>by
  have hr:=C78k.round0_0 B xs d lv s o nm ks a p
  unfold chainL at hno ⊢
  cases ht:tk xs a with
  |none=>rw[ht]at hno;exact(hno rfl).elim
  |some v=>
   obtain⟨c,t,p0⟩:=v
   rw[ht]at hno
   simp only at hno ⊢
   have h3:=h.2.1;have h4:=h.1
   have h5:=tk_lt ht h.2.1
   have hx:=tk_some ht
   simp only[hx,if_pos (show(0:Int)≤a∧a<34359738368 by omega)]at hr
   by_cases hb:isT c t s=true
   ·rw[if_pos hb]at hno ⊢
    have hb':=hb
    simp only[isT]at hb'
    rw[if_pos hb',if_pos (okP_at h (by omega))]at hr
    have hadv:=adv_k xs (d+1 - lv).toNat (a+1)
    cases hp:pK xs (d+1 - lv).toNat (a+1)with
    |ok o2 nm2 ks2 p2 a2=>
     rw[hp]at hr hno hadv
     simp only at hno ⊢
     simp only[Adv]at hadv
     rw[←chain_loopK s a0 q n s ⟨#[]⟩ [fmD o nm ks p,fmD o2 nm2 ks2 p2] p a2 (okP_at h (by omega)) hno]
     simp only[goLp]
     rw[Lp_unfold hr]
    |syn p2 a2=>
     rw[hp]at hr
     rw[goLp_of (Lp_step hr (Lp_exit (C78k.round0_1 B xs d lv s false p2 20 a2 true o true nm true ks true p)))]
     exact C78k.behind0x0_1 B a0 lv s xs d false p2 20 a2 true o true nm true ks true p q
    |deep p2 a2=>
     rw[hp]at hr
     rw[goLp_of (Lp_step hr (Lp_exit (C78k.round0_1 B xs d lv s true p2 21 a2 true o true nm true ks true p)))]
     exact C78k.behind0x0_1 B a0 lv s xs d true p2 21 a2 true o true nm true ks true p q
    |no=>rw[hp]at hno;exact(hno rfl).elim
   ·rw[if_neg hb]at hno ⊢
    have hb':=hb
    simp only[isT]at hb'
    rw[if_neg hb']at hr
    rw[goLp_of (Lp_exit hr)]
    exact C78k.behind0x0 B a0 lv s xs d o nm ks p a q
theorem chain_allK {B:Bd} {xs:List D} {d lv:Int} (s:ByteArray) (a:Int) {β:Type} (q:List TV→List TV→Option β) (h:okP xs a d lv B.nk) (hno:pChain xs s (d+1 - lv).toNat false a≠.no):
  evalF Tryz.prog (QP B) Tryz.f62 [pars xs a d,TV.d true 0 (D.str s),TV.d true 0 (D.int .i64 lv),TV.fc true false 63 [(0,true)]] q=ansP (fun a=>pars xs a d) q (pChain xs s (d+1 - lv).toNat false a):=by
 have st:=C78k.start B xs a d lv s q
 rw[if_pos h]at st
 refine Eq.trans st ?_
 have hadv:=adv_k xs (d+1 - lv).toNat a
 simp only[pChain,chainP]at hno ⊢
 cases hp:pK xs (d+1 - lv).toNat a with
 |ok o nm ks p a2=>
  rw[hp]at hno hadv
  simp only at hno ⊢
  simp only[Adv]at hadv
  exact chain_loopK s a q (xs.length+1) o nm ks p a2 (okP_at h (by omega)) hno
 |syn p2 a2=>
  simp only
  rw[goLp_of (Lp_exit (C78k.round0_1 B xs d lv s false p2 20 a2 false ⟨#[]⟩ false ⟨#[]⟩ false [] false 0))]
  exact C78k.behind0x0_1 B a lv s xs d false p2 20 a2 false ⟨#[]⟩ false ⟨#[]⟩ false [] false 0 q
 |deep p2 a2=>
  simp only
  rw[goLp_of (Lp_exit (C78k.round0_1 B xs d lv s true p2 21 a2 false ⟨#[]⟩ false ⟨#[]⟩ false [] false 0))]
  exact C78k.behind0x0_1 B a lv s xs d true p2 21 a2 false ⟨#[]⟩ false ⟨#[]⟩ false [] false 0 q
 |no=>rw[hp]at hno;exact(hno rfl).elim
theorem ev_chain {B:Bd} {nk nu:Nat} (hk:nk≤B.nk) (hu:nu≤B.nu):Ev B Tryz.f62 (cChain nk nu):=fun β args k r hr=>by
 replace hr:cChain nk nu args k=some r:=hr
 unfold cChain at hr
 split at hr
 ·rename_i xs a d op lv
  unfold chkK at hr
  split at hr
  ·rename_i h0
   have hno:pChain xs op (d+1 - lv).toNat true a≠.no:=fun e=>by rw[e,ansP_no]at hr;cases hr
   obtain⟨res,outs,h1,h2⟩:=ansP_out hr
   refine⟨res,outs,h1,fun q=>?_⟩
   rw[←h2 q]
   exact chain_allU op a q (okP_mono h0 hu) hno
  ·cases hr
 ·rename_i xs a d op lv
  unfold chkK at hr
  split at hr
  ·rename_i h0
   have hno:pChain xs op (d+1 - lv).toNat false a≠.no:=fun e=>by rw[e,ansP_no]at hr;cases hr
   obtain⟨res,outs,h1,h2⟩:=ansP_out hr
   refine⟨res,outs,h1,fun q=>?_⟩
   rw[←h2 q]
   exact chain_allK op a q (okP_mono h0 hk) hno
  ·cases hr
 ·cases hr
theorem ev_k {B:Bd} {n:Nat} (hu:n≤B.ncu):Ev B Tryz.f63 (cK n):=fun β args k r hr=>by
 replace hr:cK n args k=some r:=hr
 unfold cK at hr
 split at hr
 ·rename_i lv xs a d
  unfold chkK at hr
  split at hr
  ·rename_i h0
   obtain⟨res,outs,h1,h2⟩:=ansP_out hr
   refine⟨res,outs,h1,fun q=>?_⟩
   rw[←h2 q,B79.start,if_pos (okP_mono h0 hu)]
   have e:pK xs (d+1 - lv).toNat a=pChain xs ⟨#[38]⟩ (d+1 - lv).toNat true a:=rfl
   rw[e]
   cases pChain xs ⟨#[38]⟩ (d+1 - lv).toNat true a<;>rfl
  ·cases hr
 ·cases hr
theorem deepP_eq {xs:List D} {a d:Int} (ha:0≤a) {β:Type} (q:List TV→List TV→Option β) (hno:deepP xs a≠.no):
  (if(0:Int)≤a then
   match xs[Int.toNat a]? with
   |some (D.ag [D.int IntKind.i64 n4,D.str s5,D.int IntKind.i64 p6])=>q [TV.d false 5 zF,TV.d true 0 (atD p6 (noD 21))] [pars xs a d]
   |x=>none
  else none)=ansP (fun a=>pars xs a d) q (deepP xs a):=by
 unfold deepP at hno ⊢
 cases ht:tk xs a with
 |none=>rw[ht]at hno;exact(hno rfl).elim
 |some v=>
  obtain⟨c,t,p⟩:=v
  rw[if_pos ha,tk_some ht];rfl
theorem ev_untl {B:Bd} {n:Nat} (hs:n+1≤B.ns) (hr0:n≤B.nru):Ev B Tryz.f64 (cUntl (n+1)):=fun β args k r hr=>by
 replace hr:cUntl (n+1) args k=some r:=hr
 unfold cUntl at hr
 split at hr
 ·rename_i xs a d lv
  unfold chkK at hr
  split at hr
  ·rename_i h0
   have hno:pUntl xs (d+1 - lv).toNat a≠.no:=fun e=>by rw[e,ansP_no]at hr;cases hr
   obtain⟨res,outs,h1,h2⟩:=ansP_out hr
   refine⟨res,outs,h1,fun q=>?_⟩
   rw[←h2 q,B80.start]
   by_cases hd:lv>d
   ·rw[if_pos (by simpa using hd)]
    have e:(d+1 - lv).toNat=0:=by omega
    rw[e,pUntl_0]at hno ⊢
    exact deepP_eq h0.2.1 q hno
   ·rw[if_neg (by simpa using hd),if_pos (okP_mono h0 hs)]
    obtain⟨m,hm⟩:∃m,(d+1 - lv).toNat=m+1:=⟨(d - lv).toNat,by omega⟩
    have hm2:(d - lv).toNat=m:=by omega
    have hlt:=h0.2.2.2.2.2
    have h6:=h0.2.2.1
    have h7:=h0.2.2.2.2.1
    rw[hm]at hno ⊢
    have e:pUntl xs (m+1) a=untlP xs (pSingle xs (m+1)) (pUntl xs m) a:=rfl
    rw[e]at hno ⊢
    unfold untlP at hno ⊢
    have hadv:=adv_single xs (m+1) a
    cases hp:pSingle xs (m+1) a with
    |ok o nm ks p a2=>
     rw[hp]at hno hadv
     simp only[Adv]at hadv
     simp only at hno ⊢
     rw[if_pos (show okP xs a2 d (lv+1) B.nru from⟨h0.1,by have:=h0.2.1;omega,by omega,by omega,h7,by omega⟩),hm2]
     have e2:pRight xs m true o nm ks p [⟨#[85]⟩,⟨#[87]⟩,⟨#[82]⟩] a2=rightP xs (pUntl xs m) o nm ks p [⟨#[85]⟩,⟨#[87]⟩,⟨#[82]⟩] a2:=rfl
     rw[←e2]
     cases pRight xs m true o nm ks p [⟨#[85]⟩,⟨#[87]⟩,⟨#[82]⟩] a2<;>rfl
    |syn p2 a2=>rfl
    |deep p2 a2=>rfl
    |no=>rw[hp]at hno;exact(hno rfl).elim
  ·cases hr
 ·cases hr
theorem ev_imply {B:Bd} {n:Nat} (hs:n+1≤B.nck) (hr0:n≤B.nri):Ev B Tryz.f40 (cImply (n+1)):=fun β args k r hr=>by
 replace hr:cImply (n+1) args k=some r:=hr
 unfold cImply at hr
 split at hr
 ·rename_i xs a d lv
  unfold chkK at hr
  split at hr
  ·rename_i h0
   have hno:pImply xs (d+1 - lv).toNat a≠.no:=fun e=>by rw[e,ansP_no]at hr;cases hr
   obtain⟨res,outs,h1,h2⟩:=ansP_out hr
   refine⟨res,outs,h1,fun q=>?_⟩
   rw[←h2 q,B55.start]
   by_cases hd:lv>d
   ·rw[if_pos (by simpa using hd)]
    have e:(d+1 - lv).toNat=0:=by omega
    rw[e,pImply_0]at hno ⊢
    exact deepP_eq h0.2.1 q hno
   ·rw[if_neg (by simpa using hd),if_pos (okP_mono h0 hs)]
    obtain⟨m,hm⟩:∃m,(d+1 - lv).toNat=m+1:=⟨(d - lv).toNat,by omega⟩
    have hm2:(d - lv).toNat=m:=by omega
    have hlt:=h0.2.2.2.2.2
    have h6:=h0.2.2.1
    have h7:=h0.2.2.2.2.1
    rw[hm]at hno ⊢
    have e:pImply xs (m+1) a=implyP xs (pUntl xs (m+1)) (pImply xs m) a:=rfl
    rw[e]at hno ⊢
    unfold implyP at hno ⊢
    have e3:chainP xs ⟨#[124]⟩ (kP xs (pUntl xs (m+1))) a=pChain xs ⟨#[124]⟩ (m+1) false a:=rfl
    have hadv:=adv_chainP xs ⟨#[124]⟩ (pK xs (m+1)) (adv_k xs (m+1)) a
    rw[e3]at hno ⊢
    have e4:chainP xs ⟨#[124]⟩ (pK xs (m+1)) a=pChain xs ⟨#[124]⟩ (m+1) false a:=rfl
    rw[e4]at hadv
    cases hp:pChain xs ⟨#[124]⟩ (m+1) false a with
    |ok o nm ks p a2=>
     rw[hp]at hno hadv
     simp only[Adv]at hadv
     simp only at hno ⊢
     rw[if_pos (show okP xs a2 d (lv+1) B.nri from⟨h0.1,by have:=h0.2.1;omega,by omega,by omega,h7,by omega⟩),hm2]
     have e2:pRight xs m false o nm ks p [⟨#[61,62]⟩] a2=rightP xs (pImply xs m) o nm ks p [⟨#[61,62]⟩] a2:=rfl
     rw[←e2]
     cases pRight xs m false o nm ks p [⟨#[61,62]⟩] a2<;>rfl
    |syn p2 a2=>rfl
    |deep p2 a2=>rfl
    |no=>rw[hp]at hno;exact(hno rfl).elim
  ·cases hr
 ·cases hr
end Go.Sd
namespace Go.Sd
open Go Go.Cm Go.Proofs Go.Sc
set_option maxRecDepth 100000
theorem isT_lit (c:Int) (t:ByteArray) (L:T8):((c==1||c==4)&&t.toList==L)=isT c t (B L):=by unfold isT;rw[B_list]
theorem isT_c0 {c:Int} {t s:ByteArray} (h:isT c t s=true):(!c==0)=true:=by
 simp only[isT,Bool.and_eq_true,Bool.or_eq_true,beq_iff_eq]at h
 simp;omega
set_option maxHeartbeats 1000000 in
theorem ev_single {B:Bd} {n:Nat} (hs:n≤B.ns) (hi:n≤B.ni):Ev B Tryz.f95 (cSingle (n+1)):=fun β args k r hr=>by
 replace hr:cSingle (n+1) args k=some r:=hr
 unfold cSingle at hr
 split at hr
 ·rename_i xs a d lv
  unfold chkK at hr
  split at hr
  ·rename_i h0
   have hno:pSingle xs (d+1 - lv).toNat a≠.no:=fun e=>by rw[e,ansP_no]at hr;cases hr
   obtain⟨res,outs,h1,h2⟩:=ansP_out hr
   refine⟨res,outs,h1,fun q=>?_⟩
   have st:=B108.start B xs a d lv q
   refine Eq.trans ?_ (h2 q)
   refine Eq.trans st ?_
   clear h1 h2 hr
   by_cases hd:lv>d
   ·rw[if_pos (by simpa using hd)]
    have e:(d+1 - lv).toNat=0:=by omega
    rw[e,pSingle_0]at hno ⊢
    exact deepP_eq h0.2.1 q hno
   ·rw[if_neg (by simpa using hd)]
    obtain⟨m,hm⟩:∃m,(d+1 - lv).toNat=m+1:=⟨(d - lv).toNat,by omega⟩
    have hlt:=h0.2.2.2.2.2
    have h6:=h0.2.2.1
    have h7:=h0.2.2.2.2.1
    have hw:=wlv (lv:=lv) (by omega) (by omega)
    have hm3:(d+1 - (lv+1)).toNat=m:=by omega
    rw[hm]at hno ⊢
    have e:pSingle xs (m+1) a=singleP xs (pf xs m) a:=rfl
    rw[e]at hno ⊢
    unfold singleP at hno ⊢
    cases ht:tk xs a with
    |none=>rw[ht]at hno;exact(hno rfl).elim
    |some v=>
     obtain⟨c,t,p⟩:=v
     rw[ht]at hno
     simp only at hno ⊢
     have ha:=h0.2.1
     have hal:=tk_lt ht ha
     have hle:=h0.1
     have hA:(0:Int)≤a∧a<34359738368:=by omega
     have hS:okP xs (a+1) d (lv+1) B.ns:=⟨hle,by omega,by omega,by omega,h7,by omega⟩
     have hI:okP xs (a+1) d (lv+1) B.ni:=⟨hle,by omega,by omega,by omega,h7,by omega⟩
     simp only[if_pos ha,tk_some ht,if_pos hA,hw,if_pos hS,if_pos hI,hm3,isT_lit]at hno ⊢
     have q1:Go.Sc.B [116,114,117,101]=⟨#[116,114,117,101]⟩:=rfl
     have q2:Go.Sc.B [102,97,108,115,101]=⟨#[102,97,108,115,101]⟩:=rfl
     have q3:Go.Sc.B [33]=⟨#[33]⟩:=rfl
     have q4:Go.Sc.B [88]=⟨#[88]⟩:=rfl
     have q5:Go.Sc.B [70]=⟨#[70]⟩:=rfl
     have q6:Go.Sc.B [71]=⟨#[71]⟩:=rfl
     have q7:Go.Sc.B [40]=⟨#[40]⟩:=rfl
     have q8:Go.Sc.B [41]=⟨#[41]⟩:=rfl
     simp only[q1,q2,q3,q4,q5,q6,q7,q8]
     by_cases h3:c=3
     ·subst h3
      simp only[BEq.rfl,if_true]
      rfl
     ·have h3':(c==3)=false:=by simpa using h3
      simp only[h3',Bool.false_eq_true,if_false,if_neg h3]at hno ⊢
      have one:∀{bad:Option _},(!c==0)=true→
        (if(!c==0)=true then(match pSingle xs m (a+1)with
         |.ok o nm ks p2 a2=>q [.d true 5 (fmD t ⟨#[]⟩ [fmD o nm ks p2] p),.d false 0 .nili] [pars xs a2 d]
         |.syn p a=>q [.d false 5 zF,.d false 0 (atD p (noD 20))] [pars xs a d]
         |.deep p a=>q [.d false 5 zF,.d true 0 (atD p (noD 21))] [pars xs a d]
         |.no=>none)else bad)=ansP (fun a=>pars xs a d) q (match(pf xs m).single (a+1)with
         |.ok o nm ks q a=>.ok t ⟨#[]⟩ [fmD o nm ks q] p a
         |.syn p a=>.syn p a
         |.deep p a=>.deep p a
         |.no=>.no):=fun{bad} hc=>by
       rw[if_pos hc]
       have e:(pf xs m).single (a+1)=pSingle xs m (a+1):=rfl
       rw[e]
       cases pSingle xs m (a+1)<;>rfl
      cases hT:isT c t ⟨#[116,114,117,101]⟩with
      |true=>
       simp only[hT,if_true,isT_c0 hT,true_or]
       rfl
      |false=>
       simp only[hT,Bool.false_eq_true,if_false,false_or]at hno ⊢
       cases hF:isT c t ⟨#[102,97,108,115,101]⟩with
       |true=>
        simp only[hF,if_true,isT_c0 hF]
        rfl
       |false=>
        simp only[hF,Bool.false_eq_true,if_false]at hno ⊢
        cases h3:isT c t ⟨#[33]⟩with
        |true=>
         simp only[h3,if_true,true_or]
         exact one (isT_c0 h3)
        |false=>
         simp only[h3,Bool.false_eq_true,if_false,false_or]at hno ⊢
         cases h4:isT c t ⟨#[88]⟩with
         |true=>
          simp only[h4,if_true,true_or]
          exact one (isT_c0 h4)
         |false=>
          simp only[h4,Bool.false_eq_true,if_false,false_or]at hno ⊢
          cases h5:isT c t ⟨#[70]⟩with
          |true=>
           simp only[h5,if_true,true_or]
           exact one (isT_c0 h5)
          |false=>
           simp only[h5,Bool.false_eq_true,if_false,false_or]at hno ⊢
           cases h6:isT c t ⟨#[71]⟩with
           |true=>
            simp only[h6,if_true,true_or]
            exact one (isT_c0 h6)
           |false=>
            simp only[h6,Bool.false_eq_true,if_false,false_or]at hno ⊢
            cases h7:isT c t ⟨#[40]⟩with
            |false=>
             simp only[h7,Bool.false_eq_true,if_false]
             rfl
            |true=>
             simp only[h7,if_true]at hno ⊢
             have hadv:=adv_imply xs m (a+1)
             have e:(pf xs m).imply (a+1)=pImply xs m (a+1):=rfl
             rw[e]at hno ⊢
             cases hp:pImply xs m (a+1)with
             |ok o nm ks p2 a2=>
              rw[hp]at hno hadv
              simp only[Adv]at hadv
              simp only at hno ⊢
              cases ht2:tk xs a2 with
              |none=>rw[ht2]at hno;exact(hno rfl).elim
              |some v2=>
               obtain⟨c2,t2,p3⟩:=v2
               have ha2:(0:Int)≤a2:=by omega
               have:=tk_lt ht2 ha2
               simp only[if_pos (show(0:Int)≤a2∧a2<34359738368 by omega),tk_some ht2]
               cases h8:isT c2 t2 ⟨#[41]⟩with
               |true=>simp only[h8,if_true];rfl
               |false=>simp only[h8,Bool.false_eq_true,if_false];rfl
             |syn p2 a2=>rfl
             |deep p2 a2=>rfl
             |no=>rw[hp]at hno;exact(hno rfl).elim
  ·cases hr
 ·cases hr
end Go.Sd
namespace Go.Sd
open Go Go.Cm Go.Proofs Go.Sc
set_option maxRecDepth 100000
theorem up_single {B:Bd} {n:Nat} (h:EnvOk glS Tryz.prog (QP B)) (hc:Ev B Tryz.f95 (cSingle n)):EnvOk glS Tryz.prog (QP {B with ns:=n }):=EnvOk.upd h Tryz.func95 (by kernel_rfl) hc (by
 intro β g args k r h
 simp only[QP,Env.add]at h ⊢
 cases h55:Nat.beq g 40 with
 |true=>
  simp only[h55]at h ⊢
  exact .inl h
 |false=>
  simp only[h55]at h ⊢
  cases h81:Nat.beq g 65 with
  |true=>
   simp only[h81]at h ⊢
   exact .inl h
  |false=>
   simp only[h81]at h ⊢
   cases h78:Nat.beq g 62 with
   |true=>
    simp only[h78]at h ⊢
    exact .inl h
   |false=>
    simp only[h78]at h ⊢
    cases h79:Nat.beq g 63 with
    |true=>
     simp only[h79]at h ⊢
     exact .inl h
    |false=>
     simp only[h79]at h ⊢
     cases h80:Nat.beq g 64 with
     |true=>
      simp only[h80]at h ⊢
      exact .inl h
     |false=>
      simp only[h80]at h ⊢
      cases h108:Nat.beq g 95 with
      |true=>
       simp only[h108]at h ⊢
       exact .inr ⟨Nat.eq_of_beq_eq_true h108,h⟩
      |false=>
       simp only[h108]at h ⊢
       exact .inl h)
theorem up_untl {B:Bd} {n:Nat} (h:EnvOk glS Tryz.prog (QP B)) (hc:Ev B Tryz.f64 (cUntl n)):EnvOk glS Tryz.prog (QP {B with nu:=n }):=EnvOk.upd h Tryz.func64 (by kernel_rfl) hc (by
 intro β g args k r h
 simp only[QP,Env.add]at h ⊢
 cases h55:Nat.beq g 40 with
 |true=>
  simp only[h55]at h ⊢
  exact .inl h
 |false=>
  simp only[h55]at h ⊢
  cases h81:Nat.beq g 65 with
  |true=>
   simp only[h81]at h ⊢
   exact .inl h
  |false=>
   simp only[h81]at h ⊢
   cases h78:Nat.beq g 62 with
   |true=>
    simp only[h78]at h ⊢
    exact .inl h
   |false=>
    simp only[h78]at h ⊢
    cases h79:Nat.beq g 63 with
    |true=>
     simp only[h79]at h ⊢
     exact .inl h
    |false=>
     simp only[h79]at h ⊢
     cases h80:Nat.beq g 64 with
     |true=>
      simp only[h80]at h ⊢
      exact .inr ⟨Nat.eq_of_beq_eq_true h80,h⟩
     |false=>
      simp only[h80]at h ⊢
      cases h108:Nat.beq g 95 with
      |true=>
       simp only[h108]at h ⊢
       exact .inl h
      |false=>
       simp only[h108]at h ⊢
       exact .inl h)
theorem up_k {B:Bd} {n:Nat} (h:EnvOk glS Tryz.prog (QP B)) (hc:Ev B Tryz.f63 (cK n)):EnvOk glS Tryz.prog (QP {B with nk:=n }):=EnvOk.upd h Tryz.func63 (by kernel_rfl) hc (by
 intro β g args k r h
 simp only[QP,Env.add]at h ⊢
 cases h55:Nat.beq g 40 with
 |true=>
  simp only[h55]at h ⊢
  exact .inl h
 |false=>
  simp only[h55]at h ⊢
  cases h81:Nat.beq g 65 with
  |true=>
   simp only[h81]at h ⊢
   exact .inl h
  |false=>
   simp only[h81]at h ⊢
   cases h78:Nat.beq g 62 with
   |true=>
    simp only[h78]at h ⊢
    exact .inl h
   |false=>
    simp only[h78]at h ⊢
    cases h79:Nat.beq g 63 with
    |true=>
     simp only[h79]at h ⊢
     exact .inr ⟨Nat.eq_of_beq_eq_true h79,h⟩
    |false=>
     simp only[h79]at h ⊢
     cases h80:Nat.beq g 64 with
     |true=>
      simp only[h80]at h ⊢
      exact .inl h
     |false=>
      simp only[h80]at h ⊢
      cases h108:Nat.beq g 95 with
      |true=>
       simp only[h108]at h ⊢
       exact .inl h
      |false=>
       simp only[h108]at h ⊢
       exact .inl h)
theorem up_imply {B:Bd} {n:Nat} (h:EnvOk glS Tryz.prog (QP B)) (hc:Ev B Tryz.f40 (cImply n)):EnvOk glS Tryz.prog (QP {B with ni:=n }):=EnvOk.upd h Tryz.func40 (by kernel_rfl) hc (by
 intro β g args k r h
 simp only[QP,Env.add]at h ⊢
 cases h55:Nat.beq g 40 with
 |true=>
  simp only[h55]at h ⊢
  exact .inr ⟨Nat.eq_of_beq_eq_true h55,h⟩
 |false=>
  simp only[h55]at h ⊢
  cases h81:Nat.beq g 65 with
  |true=>
   simp only[h81]at h ⊢
   exact .inl h
  |false=>
   simp only[h81]at h ⊢
   cases h78:Nat.beq g 62 with
   |true=>
    simp only[h78]at h ⊢
    exact .inl h
   |false=>
    simp only[h78]at h ⊢
    cases h79:Nat.beq g 63 with
    |true=>
     simp only[h79]at h ⊢
     exact .inl h
    |false=>
     simp only[h79]at h ⊢
     cases h80:Nat.beq g 64 with
     |true=>
      simp only[h80]at h ⊢
      exact .inl h
     |false=>
      simp only[h80]at h ⊢
      cases h108:Nat.beq g 95 with
      |true=>
       simp only[h108]at h ⊢
       exact .inl h
      |false=>
       simp only[h108]at h ⊢
       exact .inl h)
theorem up_chain {B:Bd} {n m:Nat} (h:EnvOk glS Tryz.prog (QP B)) (hc:Ev B Tryz.f62 (cChain n m)):EnvOk glS Tryz.prog (QP {B with nck:=n,ncu:=m }):=EnvOk.upd h Tryz.func62 (by kernel_rfl) hc (by
 intro β g args k r h
 simp only[QP,Env.add]at h ⊢
 cases h55:Nat.beq g 40 with
 |true=>
  simp only[h55]at h ⊢
  exact .inl h
 |false=>
  simp only[h55]at h ⊢
  cases h81:Nat.beq g 65 with
  |true=>
   simp only[h81]at h ⊢
   exact .inl h
  |false=>
   simp only[h81]at h ⊢
   cases h78:Nat.beq g 62 with
   |true=>
    simp only[h78]at h ⊢
    exact .inr ⟨Nat.eq_of_beq_eq_true h78,h⟩
   |false=>
    simp only[h78]at h ⊢
    cases h79:Nat.beq g 63 with
    |true=>
     simp only[h79]at h ⊢
     exact .inl h
    |false=>
     simp only[h79]at h ⊢
     cases h80:Nat.beq g 64 with
     |true=>
      simp only[h80]at h ⊢
      exact .inl h
     |false=>
      simp only[h80]at h ⊢
      cases h108:Nat.beq g 95 with
      |true=>
       simp only[h108]at h ⊢
       exact .inl h
      |false=>
       simp only[h108]at h ⊢
       exact .inl h)
theorem up_right {B:Bd} {n m:Nat} (h:EnvOk glS Tryz.prog (QP B)) (hc:Ev B Tryz.f65 (cRight n m)):EnvOk glS Tryz.prog (QP {B with nri:=n,nru:=m }):=EnvOk.upd h Tryz.func65 (by kernel_rfl) hc (by
 intro β g args k r h
 simp only[QP,Env.add]at h ⊢
 cases h55:Nat.beq g 40 with
 |true=>
  simp only[h55]at h ⊢
  exact .inl h
 |false=>
  simp only[h55]at h ⊢
  cases h81:Nat.beq g 65 with
  |true=>
   simp only[h81]at h ⊢
   exact .inr ⟨Nat.eq_of_beq_eq_true h81,h⟩
  |false=>
   simp only[h81]at h ⊢
   cases h78:Nat.beq g 62 with
   |true=>
    simp only[h78]at h ⊢
    exact .inl h
   |false=>
    simp only[h78]at h ⊢
    cases h79:Nat.beq g 63 with
    |true=>
     simp only[h79]at h ⊢
     exact .inl h
    |false=>
     simp only[h79]at h ⊢
     cases h80:Nat.beq g 64 with
     |true=>
      simp only[h80]at h ⊢
      exact .inl h
     |false=>
      simp only[h80]at h ⊢
      cases h108:Nat.beq g 95 with
      |true=>
       simp only[h108]at h ⊢
       exact .inl h
      |false=>
       simp only[h108]at h ⊢
       exact .inl h)
def all (n:Nat):Bd:=⟨n,n,n,n,n,n,n,n⟩
theorem okP_0 {xs:List D} {a d lv:Int}:¬okP xs a d lv 0:=fun h=>by have:=h.2.2.2.2.2;omega
theorem ev_step {n:Nat} (h:EnvOk glS Tryz.prog (QP (all n))):EnvOk glS Tryz.prog (QP (all (n+1))):=by
 have h1:=up_single h (ev_single (n:=n) (Nat.le_refl _) (Nat.le_refl _))
 have h2:=up_untl h1 (ev_untl (n:=n) (Nat.le_refl _) (Nat.le_refl _))
 have h3:=up_chain (n:=n) (m:=n+1) h2 (ev_chain (Nat.le_refl _) (Nat.le_refl _))
 have h4:=up_k (n:=n+1) h3 (ev_k (Nat.le_refl _))
 have h5:=up_chain (n:=n+1) (m:=n+1) h4 (ev_chain (Nat.le_refl _) (Nat.le_refl _))
 have h6:=up_imply h5 (ev_imply (n:=n) (Nat.le_refl _) (Nat.le_refl _))
 exact up_right (n:=n+1) (m:=n+1) h6 (ev_right (Nat.le_refl _) (Nat.le_refl _))
theorem ev_0:EnvOk glS Tryz.prog (QP (all 0)):=by
 have z:∀{β:Type} {xs:List D} {a d lv:Int} {x:Option β},chkK (okP xs a d lv 0) x=none:=fun{β xs a d lv x}=>by unfold chkK;rw[if_neg okP_0]
 intro β g args k r h
 refine envq2 β g args k r ?_
 simp only[QP,Env.add,all]at h
 cases h55:Nat.beq g 40 with
 |true=>
  simp only[h55]at h
  unfold cImply at h
  split at h<;>first|(rw[z]at h;cases h)|cases h
 |false=>
  simp only[h55]at h
  cases h81:Nat.beq g 65 with
  |true=>
   simp only[h81]at h
   unfold cRight at h
   split at h<;>first|(rw[z]at h;cases h)|cases h
  |false=>
   simp only[h81]at h
   cases h78:Nat.beq g 62 with
   |true=>
    simp only[h78]at h
    unfold cChain at h
    split at h<;>first|(rw[z]at h;cases h)|cases h
   |false=>
    simp only[h78]at h
    cases h79:Nat.beq g 63 with
    |true=>
     simp only[h79]at h
     unfold cK at h
     split at h<;>first|(rw[z]at h;cases h)|cases h
    |false=>
     simp only[h79]at h
     cases h80:Nat.beq g 64 with
     |true=>
      simp only[h80]at h
      unfold cUntl at h
      split at h<;>first|(rw[z]at h;cases h)|cases h
     |false=>
      simp only[h80]at h
      cases h108:Nat.beq g 95 with
      |true=>
       simp only[h108]at h
       unfold cSingle at h
       split at h<;>first|(rw[z]at h;cases h)|cases h
      |false=>
       simp only[h108]at h
       exact h
theorem ev_all:∀n:Nat,EnvOk glS Tryz.prog (QP (all n))
 |0=>ev_0
 |n+1=>ev_step (ev_all n)
end Go.Sd
namespace Go.Sd
open Go Go.Cm Go.Proofs Go.Sc
set_option maxRecDepth 100000
def cBegin {β:Type} (args:List TV) (k:List TV→List TV→Option β):Option β:=
 match args with
 |[.d true 0 (.str s),.d true 0 (.int .i64 d)]=>if d<1∨d>64 then k [.d false 0 .nilp,.d false 0 (noD 1)] []else match Nat.ble s.size 65536 with
  |false=>k [.d false 0 .nilp,.d false 0 (noD 2)] []
  |true=>match tokS s.toList with
   |.inl (n,p)=>k [.d false 0 .nilp,.d false 0 (atD p (noD n))] []
   |.inr l=>k [.ob true [.ob true [.own false 4 (l.map tokT),.d false 0 (.int .i64 0)],.d false 0 (.int .i64 d)],.d false 0 .nili] []
 |_=>none
def cParse {β:Type} (args:List TV) (k:List TV→List TV→Option β):Option β:=
 match args with
 |[.d true 0 (.str s),.d true 0 (.int .i64 d)]=>match parseP s d with
  |.ok op nm ks p=>k [.d false 5 (fmD op nm ks p),.d false 0 .nili] []
  |.no n=>k [.d false 5 zF,.d false 0 (noD n)] []
  |.er p n=>k [.d false 5 zF,.d false 0 (atD p (noD n))] []
  |.bad=>none
 |_=>none
def Q3:Env:=QP (all 1002)
def Q4:Env:=Q3.add 39 io0 cBegin
def Q5:Env:=Q4.add 10 io0 cParse
end Go.Sd
namespace Go.Sd
open Go Go.Cm Go.Proofs Go.Sc
set_option maxRecDepth 100000
namespace A54
noncomputable def X:Fx:=⟨Tryz.prog,Q3,48,2⟩
theorem start {β:Type} (s:ByteArray) (d:Int) (k:List TV→List TV→Option β):evalF Tryz.prog Q3 Tryz.f39 [.d true 0 (.str s),.d true 0 (.int .i64 d)] k=if decide (d<1)=true then k [.d false 0 D.nilp,.d false 0 (.ifc 84 (.int .i64 1))] []else if decide (d>64)=true then k [.d false 0 D.nilp,.d false 0 (.ifc 84 (.int .i64 1))] []else match Nat.ble (ByteArray.size s) 65536 with
   |false=>k [.d false 0 D.nilp,.d false 0 (.ifc 84 (.int .i64 2))] []
   |true=>match tokS s.toList with
    |Sum.inl (n12,p13)=>k [.d false 0 D.nilp,.d false 0 (.ifc 114 (.pt 3 (.ag [D.int .i64 (↑p13:Int),D.ifc 84 (.int .i64 n12)])))] []
    |Sum.inr l17=>k [.ob true [.ob true [.own false 4 (List.map tokT l17),.d false 0 (.int .i64 0)],.d false 0 (.int .i64 d)],.d false 0 D.nili] []:=by kernel_rfl
end A54
namespace A25
noncomputable def X:Fx:=⟨Tryz.prog,Q4,48,2⟩
theorem start {β:Type} (s:ByteArray) (d:Int) (k:List TV→List TV→Option β):evalF Tryz.prog Q4 Tryz.f10 [.d true 0 (.str s),.d true 0 (.int .i64 d)] k=if d<1∨d>64 then k [.d false 5 (.ag [D.str (ByteArray.mk #[]),D.str (ByteArray.mk #[]),D.sl 5 [],D.int .i64 0]),.d false 0 (.ifc 84 (.int .i64 1))] []else match Nat.ble (ByteArray.size s) 65536 with
   |false=>k [.d false 5 (.ag [D.str (ByteArray.mk #[]),D.str (ByteArray.mk #[]),D.sl 5 [],D.int .i64 0]),.d false 0 (.ifc 84 (.int .i64 2))] []
   |true=>match tokS s.toList with
    |Sum.inl (n10,p11)=>k [.d false 5 (.ag [D.str (ByteArray.mk #[]),D.str (ByteArray.mk #[]),D.sl 5 [],D.int .i64 0]),.d false 0 (.ifc 114 (.pt 3 (.ag [D.int .i64 (↑p11:Int),D.ifc 84 (.int .i64 n10)])))] []
    |Sum.inr l15=>if okP (List.map tokT l15) (0:Int) d (1:Int) (Bd.mk 1002 1002 1002 1002 1002 1002 1002 1002).ni then match pImply (List.map tokT l15) (Int.toNat (d+1 - (1:Int))) (0:Int)with
     |PR.ok op19 nm20 ks21 p22 a23=>if 0≤a23 then match(List.map tokT l15)[a23.toNat]? with
      |some (.ag [D.int .i64 c27,D.str t28,D.int .i64 p29])=>if(!c27==0)=true then if 0≤a23 then match(List.map tokT l15)[a23.toNat]? with
       |some (.ag [D.int .i64 n32,D.str s33,D.int .i64 p34])=>k [.d false 5 (.ag [D.str (ByteArray.mk #[]),D.str (ByteArray.mk #[]),D.sl 5 [],D.int .i64 0]),.d false 0 (.ifc 114 (.pt 3 (.ag [D.int .i64 p34,D.ifc 84 (.int .i64 20)])))] []
       |x=>none else none else k [.d false 5 (.ag [D.str op19,D.str nm20,D.sl 5 ks21,D.int .i64 p22]),.d false 0 D.nili] []
      |x=>none else none
     |PR.syn p36 a37=>k [.d false 5 (.ag [D.str (ByteArray.mk #[]),D.str (ByteArray.mk #[]),D.sl 5 [],D.int .i64 0]),.d false 0 (.ifc 114 (.pt 3 (.ag [D.int .i64 p36,D.ifc 84 (.int .i64 20)])))] []
     |PR.deep p41 a42=>k [.d false 5 (.ag [D.str (ByteArray.mk #[]),D.str (ByteArray.mk #[]),D.sl 5 [],D.int .i64 0]),.d false 0 (.ifc 114 (.pt 3 (.ag [D.int .i64 p41,D.ifc 84 (.int .i64 21)])))] []
     |PR.no=>none else none:=by kernel_rfl
end A25
end Go.Sd

/- The scan laws' seat: contracts of run, digits, quoted, mark, blank. -/
import Derived.Test.YtbpndgllhhajoaaGreatDoorMah
import Derived.Test.YtbpndgllhhajoaaGreatDoorMae
set_option linter.unusedVariables false
set_option linter.unusedSimpArgs false
namespace Go.Sd
open Go Go.Cm Go.Proofs Go.Sc
set_option maxRecDepth 100000
theorem runL_nil (p:Int→Bool):runL p []=0:=rfl
theorem runL_cons (p:Int→Bool) (c:UInt8) (r:T8):runL p (c::r)=if p (kindI c.toNat)=true then runL p r+1 else 0:=by
 unfold runL
 rw[List.takeWhile_cons]
 split<;>rfl
theorem drop_at {L:T8} {i:Nat} (h:i<L.length):∃c,L[i]? =some c∧L.drop i=c::L.drop (i+1):=
 ⟨L[i],List.getElem?_eq_getElem h,List.drop_eq_getElem_cons h⟩
theorem byte_lt (c:UInt8):(0:Int)≤(c.toNat:Int)∧(c.toNat:Int)<256:=⟨by omega,by have:=c.toNat_lt;omega⟩
theorem run_a (L:T8) (hL:L.length≤1152921504606846976) (a:Nat):∀(n x:Nat),a+x+n=L.length→
  Lp F34a.L0 (F34a.s0 (B L) a x)=some (.exit 0,F34a.e0x0 ((x+runL may1 (L.drop (a+x)):Nat)))
 |0,x,hn=>by
  have hw:IntKind.wrap .i64 ((a:Int)+(x:Int))=((a+x:Nat):Int):=by rw[wrap_id (by omega) (by omega)];omega
  refine Lp_exit ((F34a.round0 _ _ _).trans ?_)
  rw[hw,B_size,if_neg (by simp;omega),List.drop_eq_nil_of_le (by omega),runL_nil]
  rfl
 |n+1,x,hn=>by
  have hw:IntKind.wrap .i64 ((a:Int)+(x:Int))=((a+x:Nat):Int):=by rw[wrap_id (by omega) (by omega)];omega
  have hw1:IntKind.wrap .i64 ((x:Int)+1)=((x+1:Nat):Int):=by rw[wrap_id (by omega) (by omega)];omega
  obtain⟨c,hc,hd⟩:=drop_at (L:=L) (i:=a+x) (by omega)
  have hrd:=F34a.round0 (B L) a x
  rw[hw,hw1,B_size,if_pos (by simp;omega),if_pos (by omega),Int.toNat_natCast,B_get,hc]at hrd
  simp only[if_pos (byte_lt c)]at hrd
  rw[hd,runL_cons]
  by_cases h:may1 (kindI c.toNat)=true
  ·rw[if_pos (by simpa[may1]using h)]at hrd
   rw[if_pos h]
   have ih:=run_a L hL a n (x+1) (by omega)
   rw[show a+(x+1)=a+x+1 by omega]at ih
   rw[show x+(runL may1 (L.drop (a+x+1))+1)=x+1+runL may1 (L.drop (a+x+1))by omega]
   exact Lp_step hrd ih
  ·rw[if_neg (by simpa[may1]using h)]at hrd
   rw[if_neg h]
   exact Lp_exit hrd
theorem run_b (L:T8) (hL:L.length≤1152921504606846976) (a:Nat):∀(n x:Nat),a+x+n=L.length→
  Lp F34b.L0 (F34b.s0 (B L) a x)=some (.exit 0,F34b.e0x0 ((x+runL may2 (L.drop (a+x)):Nat)))
 |0,x,hn=>by
  have hw:IntKind.wrap .i64 ((a:Int)+(x:Int))=((a+x:Nat):Int):=by rw[wrap_id (by omega) (by omega)];omega
  refine Lp_exit ((F34b.round0 _ _ _).trans ?_)
  rw[hw,B_size,if_neg (by simp;omega),List.drop_eq_nil_of_le (by omega),runL_nil]
  rfl
 |n+1,x,hn=>by
  have hw:IntKind.wrap .i64 ((a:Int)+(x:Int))=((a+x:Nat):Int):=by rw[wrap_id (by omega) (by omega)];omega
  have hw1:IntKind.wrap .i64 ((x:Int)+1)=((x+1:Nat):Int):=by rw[wrap_id (by omega) (by omega)];omega
  obtain⟨c,hc,hd⟩:=drop_at (L:=L) (i:=a+x) (by omega)
  have hrd:=F34b.round0 (B L) a x
  rw[hw,hw1,B_size,if_pos (by simp;omega),if_pos (by omega),Int.toNat_natCast,B_get,hc]at hrd
  simp only[if_pos (byte_lt c)]at hrd
  rw[hd,runL_cons]
  by_cases h:may2 (kindI c.toNat)=true
  ·rw[if_pos (by simpa[may2]using h)]at hrd
   rw[if_pos h]
   have ih:=run_b L hL a n (x+1) (by omega)
   rw[show a+(x+1)=a+x+1 by omega]at ih
   rw[show x+(runL may2 (L.drop (a+x+1))+1)=x+1+runL may2 (L.drop (a+x+1))by omega]
   exact Lp_step hrd ih
  ·rw[if_neg (by simpa[may2]using h)]at hrd
   rw[if_neg h]
   exact Lp_exit hrd
theorem env10:EnvOk glS Tryz.prog E10:=env9.fn mixed Tryz.func127 (by kernel_rfl) fun β args k r hr=>by
 unfold cRun at hr
 split at hr
 ·rename_i s a g
  unfold chkK at hr
  split at hr
  ·rename_i hi
   obtain⟨h1,h2,h3⟩:=hi
   rw[B_of s]at hr h1 h3 ⊢
   generalize s.data.toList=L at*
   obtain⟨a,rfl⟩:=Int.eq_ofNat_of_zero_le h2
   rw[B_list,Int.toNat_natCast]at hr
   unfold small at h1
   rw[B_size]at h1 h3
   split at hr
   ·rename_i hg
    rw[Cm.beq_true]at hg
    subst hg
    refine⟨_,_,hr,fun q=>?_⟩
    have:=run_a L h1 a (L.length - a) 0 (by omega)
    rw[show((0:Nat):Int)=0 from rfl]at this
    rw[F34a.start,goLp_of this,F34a.behind0x0]
    simp
   ·split at hr
    ·rename_i hg
     rw[Cm.beq_true]at hg
     subst hg
     refine⟨_,_,hr,fun q=>?_⟩
     have:=run_b L h1 a (L.length - a) 0 (by omega)
     rw[show((0:Nat):Int)=0 from rfl]at this
     rw[F34b.start,goLp_of this,F34b.behind0x0]
     simp
    ·cases hr
  ·cases hr
 ·cases hr
theorem wrap_u8 {n:Int} (h1:0≤n) (h2:n<256):IntKind.wrap .u8 n=n:=by
 have e:(2:Int) ^ (IntKind.bits .u8)=256:=rfl
 have e2:IntKind.signed .u8=false:=rfl
 simp only[IntKind.wrap,e,e2,Bool.false_and,Bool.false_eq_true,if_false]
 omega
theorem dig (L:T8) (hL:L.length≤1152921504606846976) (hd:digitsL L):∀(k i:Nat) (n:Int),i+k=L.length→0≤n→n≤9223372036854775807→
  Lp F30.L0 (F30.s0 (B L) n i)=match valI (L.drop i) n with|some m=>some (.exit 0,F30.e0x0 m)|none=>some (.ret,F30.e0r)
 |0,i,n,hk,h0,h1=>by
  have hrd:=F30.round0 (B L) n i
  rw[B_size,if_neg (by simp;omega)]at hrd
  rw[List.drop_eq_nil_of_le (by omega)]
  exact Lp_exit hrd
 |k+1,i,n,hk,h0,h1=>by
  have hrd:=F30.round0 (B L) n i
  obtain⟨c,hc,hdr⟩:=drop_at (L:=L) (i:=i) (by omega)
  have hcd:=hd c (List.mem_of_getElem? hc)
  rw[B_size,if_pos (by simp;omega),if_pos (by omega),Int.toNat_natCast,B_get,hc]at hrd
  have e1:IntKind.wrap .u8 ((c.toNat:Int) - 48)=(c.toNat:Int) - 48:=wrap_u8 (by omega) (by omega)
  have e2:IntKind.wrap .i64 ((c.toNat:Int) - 48)=(c.toNat:Int) - 48:=wrap_id (by omega) (by omega)
  have e3:IntKind.wrap .i64 (9223372036854775807 - ((c.toNat:Int) - 48))=9223372036854775807 - ((c.toNat:Int) - 48):=wrap_id (by omega) (by omega)
  have e4:IntKind.wrap .i64 ((9223372036854775807 - ((c.toNat:Int) - 48)).tdiv 10)=(9223372036854775807 - ((c.toNat:Int) - 48)).tdiv 10:=by
   rw[Int.tdiv_eq_ediv_of_nonneg (by omega)];exact wrap_id (by omega) (by omega)
  have e5:IntKind.wrap .i64 ((i:Int)+1)=((i+1:Nat):Int):=by rw[wrap_id (by omega) (by omega)];omega
  simp only[e1,e2,e3,e4,e5]at hrd
  rw[hdr]
  unfold valI
  by_cases h:n>(9223372036854775807 - ((c.toNat:Int) - 48)).tdiv 10
  ·rw[if_pos (by simpa using h)]at hrd
   rw[if_pos h]
   exact Lp_exit hrd
  ·rw[if_neg (by simpa using h)]at hrd
   rw[if_neg h]
   have h':=h
   rw[Int.tdiv_eq_ediv_of_nonneg (by omega)]at h'
   have e6:IntKind.wrap .i64 (10*n)=10*n:=wrap_id (by omega) (by omega)
   have e7:IntKind.wrap .i64 (10*n+((c.toNat:Int) - 48))=10*n+((c.toNat:Int) - 48):=wrap_id (by omega) (by omega)
   rw[e6,e7]at hrd
   have ih:=dig L hL hd k (i+1) (10*n+((c.toNat:Int) - 48)) (by omega) (by omega) (by omega)
   split at ih
   ·exact Lp_step hrd ih
   ·exact Lp_step hrd ih
theorem env11:EnvOk glS Tryz.prog E11:=env10.fn mixed Tryz.func130 (by kernel_rfl) fun β args k r hr=>by
 unfold cDigits at hr
 split at hr
 ·rename_i s
  unfold chkK at hr
  split at hr
  ·rename_i hi
   obtain⟨h1,h2⟩:=hi
   rw[B_of s]at hr h1 h2 ⊢
   generalize s.data.toList=L at*
   rw[B_list]at hr h2
   unfold small at h1
   rw[B_size]at h1
   have hd:=dig L h1 h2 L.length 0 0 (by omega) (by omega) (by omega)
   rw[List.drop_zero,show((0:Nat):Int)=0 from rfl]at hd
   split at hr
   ·rename_i n hn
    rw[hn]at hd
    exact⟨_,_,hr,fun q=>by rw[F30.start,goLp_of hd,F30.behind0x0]⟩
   ·rename_i hn
    rw[hn]at hd
    exact⟨_,_,hr,fun q=>by rw[F30.start,goLp_of hd,F30.behind0r]⟩
  ·cases hr
 ·cases hr
theorem idx_take (l:T8) (c:UInt8):Lib.indexByte l c=if(l.takeWhile fun x=>x != c).length<l.length then((l.takeWhile fun x=>x != c).length:Int)else -1:=by
 induction l with
 |nil=>simp[Lib.indexByte]
 |cons b l ih=>
  unfold Lib.indexByte
  rw[List.takeWhile_cons]
  by_cases h:b=c
  ·subst h;simp
  ·simp only[bne_iff_ne,ne_eq,h,not_false_eq_true,if_true,beq_iff_eq,if_false]
   rw[ih]
   by_cases h2:(l.takeWhile fun x=>x != c).length<l.length
   ·rw[if_pos h2,if_neg (by omega),if_pos (by simp;omega)]
    simp
   ·rw[if_neg h2,if_pos rfl,if_neg (by simp;omega)]
def okQ (c:UInt8):Bool:=32≤c.toNat&&c.toNat≤126
theorem quo (L:T8) (hL:L.length≤1152921504606846976) (m:Nat) (hm:m<L.length) (hx:idxS ((B L).extract 1 (Int.toNat ((B L).size:Int))) 34=(m:Int)):∀(k i:Nat),i+k=m+1→
  Lp F38.L0 (F38.s0 (B L) i)=if((L.drop i).take k).all okQ=true then some (.exit 0,F38.e0x0 (B L))else some (.ret,F38.e0r)
 |0,i,hk=>by
  have hrd:=F38.round0 (B L) i
  rw[hx,if_neg (by simp;omega)]at hrd
  simpa using Lp_exit hrd
 |k+1,i,hk=>by
  have hrd:=F38.round0 (B L) i
  obtain⟨c,hc,hdr⟩:=drop_at (L:=L) (i:=i) (by omega)
  have e5:IntKind.wrap .i64 ((i:Int)+1)=((i+1:Nat):Int):=by rw[wrap_id (by omega) (by omega)];omega
  rw[hx,if_pos (by simp;omega),if_pos (by omega),Int.toNat_natCast,B_get,hc,e5]at hrd
  simp only[decide_eq_true_eq]at hrd
  rw[hdr,List.take_succ_cons,List.all_cons]
  by_cases h1:(c.toNat:Int)<32
  ·rw[if_pos h1]at hrd
   rw[if_neg (by simp[okQ];omega)]
   exact Lp_exit hrd
  ·rw[if_neg h1,if_pos (by omega)]at hrd
   by_cases h2:(c.toNat:Int)>126
   ·rw[if_pos h2]at hrd
    rw[if_neg (by simp[okQ];omega)]
    exact Lp_exit hrd
   ·rw[if_neg h2]at hrd
    have ih:=quo L hL m hm hx k (i+1) (by omega)
    have hok:okQ c=true:=by simp[okQ];omega
    rw[hok,Bool.true_and]
    split at ih
    ·rename_i h;rw[if_pos h];exact Lp_step hrd ih
    ·rename_i h;rw[if_neg h];exact Lp_step hrd ih
theorem env12:EnvOk glS Tryz.prog E12:=env11.fn mixed Tryz.func132 (by kernel_rfl) fun β args k r hr=>by
 unfold cQuoted at hr
 split at hr
 ·rename_i s
  unfold chkK at hr
  split at hr
  ·rename_i hi
   obtain⟨h1,h2⟩:=hi
   rw[B_of s]at hr h1 h2 ⊢
   generalize s.data.toList=L at*
   rw[B_list]at hr
   unfold small at h1
   rw[B_size]at h1 h2
   refine⟨_,_,hr,fun q=>?_⟩
   cases L with
   |nil=>simp at h2
   |cons b R=>
    have hidx:idxS ((B (b::R)).extract 1 (Int.toNat ((B (b::R)).size:Int))) 34=Lib.indexByte R 34:=by
     rw[B_size,B_cut]
     have:=firstIdx_eq R 34
     simp only[List.length_cons,Int.toNat_natCast,List.drop_succ_cons,List.drop_zero,Nat.add_sub_cancel,List.take_length]
     exact this
    rw[F38.start,hidx,if_pos (by rw[B_size];simp;omega)]
    rw[idx_take]
    simp only[quotedL]
    generalize hn:(R.takeWhile fun c=>c != 34).length=n
    have hle:n≤R.length:=by rw[←hn];exact(List.takeWhile_sublist _).length_le
    by_cases hlt:n<R.length
    ·simp only[if_pos hlt,decide_eq_true_eq]
     rw[if_neg (by omega:¬R.length≤n)]
     by_cases h1n:n<1
     ·rw[if_pos (by omega),if_pos (.inl h1n)];rfl
     ·rw[if_neg (by omega)]
      by_cases h2n:32<n
      ·rw[if_pos (by omega),if_pos (.inr h2n)];rfl
      ·rw[if_neg (by omega),if_neg (by omega)]
       have hx:=hidx
       rw[idx_take,hn,if_pos hlt]at hx
       have hq:=quo (b::R) h1 n (by simp;omega) hx n 1 (by omega)
       rw[show((1:Nat):Int)=1 from rfl]at hq
       simp only[List.drop_succ_cons,List.drop_zero]at hq
       change _=q [.d false 0 (.int .i64 ((if((R.take n).all okQ)=true then n+2 else 0:Nat):Int))] []
       by_cases ha:((R.take n).all okQ)=true
       ·rw[if_pos ha]at hq ⊢
        rw[goLp_of hq,F38.behind0x0,hidx,idx_take,hn,if_pos hlt,wrap_id (by omega) (by omega)]
        rfl
       ·rw[if_neg ha]at hq ⊢
        rw[goLp_of hq,F38.behind0r];rfl
    ·simp only[if_neg hlt]
     rw[if_pos (by simp),if_pos (by omega)];rfl
  ·cases hr
 ·cases hr
theorem hasP_list (l:T8) (p:T8):hasP (B l) ⟨p.toArray⟩=p.isPrefixOf l:=by
 have:(⟨p.toArray⟩:ByteArray)=B p:=rfl
 rw[this]
 unfold hasP;rw[B_list,B_list]
theorem env13:EnvOk glS Tryz.prog E13:=env12.fn mixed Tryz.func133 (by kernel_rfl) fun β args k r hr=>by
 unfold cMark at hr
 split at hr
 ·rename_i s
  unfold chkK at hr
  split at hr
  ·rename_i hi
   rw[B_of s]at hr hi ⊢
   generalize s.data.toList=L at*
   rw[B_list]at hr
   rw[B_size]at hi
   refine⟨_,_,hr,fun q=>?_⟩
   have hl:Lp F39.L0 (F39.s0 (B L) 0)=some (if marks.any (·.isPrefixOf L)=true then(.ret,F39.e0r)else(.exit 0,F39.e0x0 (B L))):=by
    have r0:=F39.round0_0 (B L);have r1:=F39.round0_1 (B L);have r2:=F39.round0_2 (B L);have r3:=F39.round0_3 (B L)
    have r4:=F39.round0_4 (B L);have r5:=F39.round0_5 (B L);have r6:=F39.round0_6 (B L)
    have e0:=hasP_list L [45,62];have e1:=hasP_list L [60,61];have e2:=hasP_list L [62,61];have e3:=hasP_list L [33,61]
    have e4:=hasP_list L [61,62];have e5:=hasP_list L [46,46]
    rw[e0]at r0;rw[e1]at r1;rw[e2]at r2;rw[e3]at r3;rw[e4]at r4;rw[e5]at r5
    simp only[marks,List.any_cons,List.any_nil,Bool.or_false]
    by_cases h0:List.isPrefixOf [45,62] L=true
    ·rw[if_pos h0]at r0;rw[h0];exact Lp_exit r0
    rw[if_neg h0]at r0;rw[Bool.not_eq_true]at h0;rw[h0]
    refine Lp_step r0 ?_
    by_cases h1:List.isPrefixOf [60,61] L=true
    ·rw[if_pos h1]at r1;rw[h1];exact Lp_exit r1
    rw[if_neg h1]at r1;rw[Bool.not_eq_true]at h1;rw[h1]
    refine Lp_step r1 ?_
    by_cases h2:List.isPrefixOf [62,61] L=true
    ·rw[if_pos h2]at r2;rw[h2];exact Lp_exit r2
    rw[if_neg h2]at r2;rw[Bool.not_eq_true]at h2;rw[h2]
    refine Lp_step r2 ?_
    by_cases h3:List.isPrefixOf [33,61] L=true
    ·rw[if_pos h3]at r3;rw[h3];exact Lp_exit r3
    rw[if_neg h3]at r3;rw[Bool.not_eq_true]at h3;rw[h3]
    refine Lp_step r3 ?_
    by_cases h4:List.isPrefixOf [61,62] L=true
    ·rw[if_pos h4]at r4;rw[h4];exact Lp_exit r4
    rw[if_neg h4]at r4;rw[Bool.not_eq_true]at h4;rw[h4]
    refine Lp_step r4 ?_
    by_cases h5:List.isPrefixOf [46,46] L=true
    ·rw[if_pos h5]at r5;rw[h5];exact Lp_exit r5
    rw[if_neg h5]at r5;rw[Bool.not_eq_true]at h5;rw[h5]
    refine Lp_step r5 ?_
    exact Lp_exit r6
   rw[F39.start]
   unfold markL
   by_cases ha:marks.any (·.isPrefixOf L)=true
   ·rw[if_pos ha]at hl ⊢
    rw[goLp_of hl,F39.behind0r];rfl
   ·rw[if_neg ha]at hl ⊢
    rw[goLp_of hl,F39.behind0x0,B_get]
    cases L with
    |nil=>simp at hi
    |cons c R=>
     simp only[List.getElem?_cons_zero,List.head?_cons,Option.some.injEq]
     by_cases h:c=46
     ·subst h;simp
     ·rw[if_neg (fun h2=>h (by
       have h3:((c.toNat:Int))=46:=by simpa using h2
       exact UInt8.toNat_inj.1 (by simpa using(by omega:c.toNat=46)))),if_neg h]
      rfl
  ·cases hr
 ·cases hr
end Go.Sd
namespace Go.Sd
open Go Go.Cm Go.Proofs Go.Sc
set_option maxRecDepth 100000
def lineL (l:T8):Nat:=(l.takeWhile fun c=>c != 10).length
theorem lineL_le (l:T8):lineL l≤l.length:=(List.takeWhile_sublist _).length_le
theorem B_rest (L:T8) (i:Nat):(B L).extract (Int.toNat (i:Int)) (Int.toNat ((B L).size:Int))=B (L.drop i):=by
 rw[B_size,B_cut,Int.toNat_natCast,Int.toNat_natCast,List.take_of_length_le (by simp)]
theorem blk_j (L:T8) (hL:L.length≤1152921504606846976) (a:Nat) (b f:Bool) (i:Nat) (hi:i<L.length):
  applyK F23.X (finR F23.X [(0,34)] (sub [1,1,0,0,0] (body Tryz.f115)))
   [Kf.seq [(2,34),(1,35),(0,34)] (sub [1,1,0,0,0,1,0,0,0,1] (body Tryz.f115)) 34,Kf.block 2 34,
    Kf.seq [(1,35),(0,34)] (sub [1,1,0,0,0,1,0,1] (body Tryz.f115)) 35,Kf.block 1 35] Ex.norm (F23.j0 (B L) a b f i)=
  if b=true then some (.inl (F23.s0 (B L) a false ((i+1:Nat))))else
  if List.isPrefixOf [47,47] (L.drop i)=true then some (.inl (F23.s0 (B L) a false ((i+lineL (L.drop i):Nat))))else some (.inr (.exit 0,F23.e0x0 a f i)):=by
 rw[F23.j0_eq]
 have e5:IntKind.wrap .i64 ((i:Int)+1)=((i+1:Nat):Int):=by rw[wrap_id (by omega) (by omega)];omega
 rw[e5]
 cases b with
 |true=>rfl
 |false=>
  simp only[Bool.false_eq_true,if_false]
  have hb:(0:Int)≤((B L).size:Int)∧((B L).size:Int)≤((B L).size:Int)∧(0:Int)≤(i:Int)∧(i:Int)≤((B L).size:Int):=by rw[B_size];omega
  rw[if_pos hb]
  simp only[B_rest,if_pos hb]
  have hp:hasP (B (L.drop i)) ⟨#[47,47]⟩=List.isPrefixOf [47,47] (L.drop i):=hasP_list _ _
  rw[hp]
  by_cases h:List.isPrefixOf [47,47] (L.drop i)=true
  ·rw[if_pos h,if_pos h,if_pos (by unfold small;rw[B_size];simp;omega)]
   have hix:indexS (B (L.drop i)) (UInt8.ofNat 10)=if lineL (L.drop i)<(L.drop i).length then(lineL (L.drop i):Int)else -1:=by
    unfold indexS;rw[B_list];exact idx_take _ _
   have hle:=lineL_le (L.drop i)
   have hlen:(L.drop i).length=L.length - i:=List.length_drop
   rw[hix]
   by_cases h2:lineL (L.drop i)<(L.drop i).length
   ·simp only[if_pos h2,Int.toNat_natCast,B_size,B_cut,List.drop_zero,Nat.sub_zero,List.length_take]
    have e1:(Nat.ble (L.drop i).length (lineL (L.drop i))||decide ((lineL (L.drop i):Int)<0))=false:=by
     rw[Bool.or_eq_false_iff]
     refine⟨?_,by simp⟩
     rw[Bool.eq_false_iff];intro h3;rw[Nat.ble_eq]at h3;omega
    rw[e1]
    simp only
    rw[wrap_id (by omega) (by omega),Nat.min_eq_left hle]
    rfl
   ·simp only[if_neg h2,B_size]
    have e1:(Nat.ble (L.drop i).length (Int.toNat (-1))||decide ((-1:Int)<0))=true:=by simp
    rw[e1]
    simp only
    rw[wrap_id (by omega) (by omega),show lineL (L.drop i)=(L.drop i).length by omega]
    rfl
  ·rw[if_neg h,if_neg h]
theorem blk_round (L:T8) (hL:L.length≤1152921504606846976) (a:Nat) (f:Bool) (i:Nat) (hi:i<L.length) (c:UInt8) (hc:L[i]? =some c):
  F23.L0 (F23.s0 (B L) a f i)=if isWs c=true then some (.inl (F23.s0 (B L) a false ((i+1:Nat))))else
  if List.isPrefixOf [47,47] (L.drop i)=true then some (.inl (F23.s0 (B L) a false ((i+lineL (L.drop i):Nat))))else some (.inr (.exit 0,F23.e0x0 a f i)):=by
 refine(F23.round0 _ _ _ _).trans ?_
 have key:∀n:Nat,n<256→((((c.toNat:Int)==(n:Int))=(c==n.toUInt8))):=by
  intro n hn
  rw[Bool.eq_iff_iff]
  simp only[beq_iff_eq]
  constructor
  ·intro h
   have:c.toNat=n:=by omega
   exact UInt8.toNat_inj.1 (by simp;omega)
  ·intro h;rw[h];simp;omega
 have k1:=key 32 (by omega);have k2:=key 9 (by omega);have k3:=key 10 (by omega);have k4:=key 13 (by omega)
 have k1:((c.toNat:Int)==32)=(c==32):=k1
 have k2:((c.toNat:Int)==9)=(c==9):=k2
 have k3:((c.toNat:Int)==10)=(c==10):=k3
 have k4:((c.toNat:Int)==13)=(c==13):=k4
 rw[if_pos (by rw[B_size];simp;omega),if_pos (by omega),Int.toNat_natCast,B_get,hc]
 simp only[k1,k2,k3,k4,if_pos (show(0:Int)≤(i:Int)by omega)]
 rw[blk_j L hL a _ f i hi,blk_j L hL a _ f i hi,blk_j L hL a _ f i hi,blk_j L hL a _ f i hi]
 unfold isWs
 cases (c==32)<;>cases (c==9)<;>cases (c==10)<;>cases (c==13)<;>rfl
theorem blankL_nil:blankL []=0:=by rw[blankL]
theorem blankL_ws (c:UInt8) (r:T8) (h:isWs c=true):blankL (c::r)=1+blankL r:=by rw[blankL.eq_def];simp only[h,if_true]
theorem blankL_line (q:T8):blankL (47::47::q)=lineL (47::47::q)+blankL ((47::47::q:T8).drop (lineL (47::47::q))):=by
 have e:lineL (47::47::q)=lineL q+2:=by
  unfold lineL
  rw[List.takeWhile_cons,if_pos (by decide),List.takeWhile_cons,if_pos (by decide)]
  simp
 rw[blankL.eq_def]
 have h:isWs 47=false:=by decide
 simp only[h,Bool.false_eq_true,if_false]
 rw[e]
 simp only[List.drop_succ_cons,lineL]
 omega
theorem blankL_no (c:UInt8) (r:T8) (h:isWs c=false) (h2:List.isPrefixOf [47,47] (c::r)=false):blankL (c::r)=0:=by
 rw[blankL.eq_def]
 simp only[h,Bool.false_eq_true,if_false]
 split
 ·rename_i q
  simp[List.isPrefixOf]at h2
 ·rfl
theorem blk (L:T8) (hL:L.length≤1152921504606846976) (a:Nat):∀(n:Nat) (f:Bool) (i:Nat),L.length - i≤n→i≤L.length→
  ∃f',Lp F23.L0 (F23.s0 (B L) a f i)=some (.exit 0,F23.e0x0 a f' ((i+blankL (L.drop i):Nat)))
 |n,f,i,hn,hi=>by
  by_cases he:i=L.length
  ·refine⟨f,Lp_exit ((F23.round0 _ _ _ _).trans ?_)⟩
   rw[if_neg (by rw[B_size];simp;omega),List.drop_eq_nil_of_le (by omega),blankL_nil];rfl
  cases n with
  |zero=>omega
  |succ n=>
   obtain⟨c,hc,hd⟩:=drop_at (L:=L) (i:=i) (by omega)
   have hr:=blk_round L hL a f i (by omega) c hc
   by_cases h1:isWs c=true
   ·rw[if_pos h1]at hr
    obtain⟨f',ih⟩:=blk L hL a n false (i+1) (by omega) (by omega)
    rw[hd,blankL_ws _ _ h1]
    rw[show i+(1+blankL (L.drop (i+1)))=i+1+blankL (L.drop (i+1))by omega]
    exact⟨f',Lp_step hr ih⟩
   ·rw[if_neg h1]at hr
    rw[Bool.not_eq_true]at h1
    by_cases h2:List.isPrefixOf [47,47] (L.drop i)=true
    ·rw[if_pos h2]at hr
     have hlen:(L.drop i).length=L.length - i:=List.length_drop
     have hle:=lineL_le (L.drop i)
     rw[List.isPrefixOf_iff_prefix]at h2
     obtain⟨q,hq⟩:=h2
     have hq:L.drop i=47::47::q:=hq.symm
     have hb:blankL (L.drop i)=lineL (L.drop i)+blankL (L.drop (i+lineL (L.drop i))):=by
      have:=blankL_line q
      rw[←hq,List.drop_drop]at this
      exact this
     have hpos:2≤lineL (L.drop i):=by
      rw[hq];unfold lineL
      rw[List.takeWhile_cons,if_pos (by decide),List.takeWhile_cons,if_pos (by decide)]
      simp
     obtain⟨f',ih⟩:=blk L hL a n false (i+lineL (L.drop i)) (by omega) (by omega)
     refine⟨f',?_⟩
     rw[hb,show i+(lineL (L.drop i)+blankL (L.drop (i+lineL (L.drop i))))=i+lineL (L.drop i)+blankL (L.drop (i+lineL (L.drop i)))by omega]
     exact Lp_step hr ih
    ·rw[if_neg h2]at hr
     rw[Bool.not_eq_true,hd]at h2
     rw[hd,blankL_no _ _ h1 h2]
     exact⟨f,Lp_exit hr⟩
theorem blankL_le:∀(n:Nat) (l:T8),l.length≤n→blankL l≤l.length
 |n,[],_=>by rw[blankL_nil];exact Nat.le_refl _
 |0,c::r,h=>by simp at h
 |n+1,c::r,h=>by
  by_cases h1:isWs c=true
  ·rw[blankL_ws _ _ h1]
   have:=blankL_le n r (by simpa using h)
   simp;omega
  ·rw[Bool.not_eq_true]at h1
   by_cases h2:List.isPrefixOf [47,47] (c::r)=true
   ·rw[List.isPrefixOf_iff_prefix]at h2
    obtain⟨q,hq⟩:=h2
    have hq:c::r=47::47::q:=hq.symm
    rw[hq,blankL_line]
    have hle:=lineL_le (47::47::q)
    have h3:2≤lineL (47::47::q):=by
     unfold lineL
     rw[List.takeWhile_cons,if_pos (by decide),List.takeWhile_cons,if_pos (by decide)]
     simp
    have hh:(47::47::q).length≤n+1:=by rw[←hq];exact h
    have:=blankL_le n ((47::47::q:T8).drop (lineL (47::47::q))) (by rw[List.length_drop];omega)
    rw[List.length_drop]at this
    omega
   ·rw[Bool.not_eq_true]at h2
    rw[blankL_no _ _ h1 h2];omega
theorem env14:EnvOk glS Tryz.prog E14:=env13.fn mixed Tryz.func115 (by kernel_rfl) fun β args k r hr=>by
 unfold cBlank at hr
 split at hr
 ·rename_i s a
  unfold chkK at hr
  split at hr
  ·rename_i hi
   obtain⟨h1,h2,h3⟩:=hi
   rw[B_of s]at hr h1 h3 ⊢
   generalize s.data.toList=L at*
   obtain⟨a,rfl⟩:=Int.eq_ofNat_of_zero_le h2
   rw[B_list,Int.toNat_natCast]at hr
   unfold small at h1
   rw[B_size]at h1 h3
   refine⟨_,_,hr,fun q=>?_⟩
   obtain⟨f',hl⟩:=blk L h1 a L.length true a (by omega) (by omega)
   have hle:=blankL_le _ (L.drop a) (Nat.le_refl _)
   rw[List.length_drop]at hle
   rw[F23.start,goLp_of hl,F23.behind0x0,wrap_id (by omega) (by omega)]
   congr 5
   omega
  ·cases hr
 ·cases hr
theorem env15:EnvOk glS Tryz.prog E15:=env14.fn mixed Tryz.func131 (by kernel_rfl) fun β args k r hr=>by
 unfold cWrong at hr
 split at hr
 ·exact⟨_,_,hr,fun q=>F37.start _ _ q⟩
 ·cases hr
end Go.Sd
namespace Go.Sd
open Go Go.Cm Go.Proofs Go.Sc
set_option maxRecDepth 100000
theorem runL_le (p:Int→Bool) (l:T8):runL p l≤l.length:=(List.takeWhile_sublist _).length_le
theorem quotedL_le (l:T8):quotedL l≤l.length:=by
 unfold quotedL
 split
 ·omega
 ·rename_i b r
  have h1:(r.takeWhile fun c=>c != 34).length≤r.length:=(List.takeWhile_sublist _).length_le
  simp only[]
  repeat' split
  all_goals simp only[List.length_cons]
  all_goals omega
theorem quotedL_cases (l:T8):quotedL l=0∨3≤quotedL l:=by
 unfold quotedL
 split
 ·exact .inl rfl
 ·simp only[]
  repeat' split
  all_goals first|exact .inl rfl|(right;omega)
theorem markL_le (l:T8) (h:l≠[]):markL l≤l.length:=by
 unfold markL
 split
 ·rename_i h2
  rw[List.any_eq_true]at h2
  obtain⟨m,hm,hp⟩:=h2
  rw[List.isPrefixOf_iff_prefix]at hp
  have:=hp.length_le
  have h3:m.length=2:=by
   simp only[marks,List.mem_cons,List.not_mem_nil,or_false]at hm
   rcases hm with rfl|rfl|rfl|rfl|rfl|rfl<;>rfl
  omega
 ·have:0<l.length:=List.length_pos_iff.2 h
  split<;>omega
theorem digits_run (l:T8):digitsL (l.take (runL may2 l)):=by
 intro c hc
 have h:l.take (runL may2 l)=l.takeWhile fun c=>may2 (kindI c.toNat):=by
  unfold runL
  exact(List.prefix_iff_eq_take.1 (List.takeWhile_prefix _)).symm
 rw[h]at hc
 have h2:=List.all_takeWhile (p:=fun c:UInt8=>may2 (kindI c.toNat)) (l:=l)
 rw[List.all_eq_true]at h2
 have h3:=h2 c hc
 simp only[may2,kindI,beq_iff_eq]at h3
 split at h3
 ·omega
 ·split at h3
  ·omega
  ·split at h3
   ·omega
   ·split at h3<;>omega
theorem oneL_eq {l r:T8} {c:UInt8} (h:l=c::r):oneL l=
  if kindI c.toNat=1 then .inr (1,l.take (runL may1 l),runL may1 l)
  else if kindI c.toNat=2 then(if(valI (l.take (runL may2 l)) 0).isSome=true then .inr (2,l.take (runL may2 l),runL may2 l)else .inl 10)
  else if kindI c.toNat=3 then(if 0<quotedL l then .inr (3,(l.drop 1).take (quotedL l - 2),quotedL l)else .inl 20)
  else if kindI c.toNat=4 then(if markL l=0 then .inl 20 else .inr (4,l.take (markL l),markL l))
  else .inl 20:=by subst h;rfl
theorem env16:EnvOk glS Tryz.prog E16:=env15.fn mixed Tryz.func116 (by kernel_rfl) fun β args k r hr=>by
 unfold cOne at hr
 split at hr
 ·rename_i s a
  unfold chkK at hr
  split at hr
  ·rename_i hi
   obtain⟨⟨h1,h2,h3⟩,h4⟩:=hi
   rw[B_of s]at hr h1 h3 h4 ⊢
   generalize s.data.toList=L at*
   obtain⟨a,rfl⟩:=Int.eq_ofNat_of_zero_le h2
   rw[B_list,Int.toNat_natCast]at hr
   have hin:inS (B L) (a:Int):=⟨h1,h2,h3⟩
   unfold small at h1
   rw[B_size]at h1 h3 h4
   obtain⟨c,hc,hd⟩:=drop_at (L:=L) (i:=a) (by omega)
   have hlen:(L.drop a).length=L.length - a:=List.length_drop
   have cut:∀n:Nat,(B L).extract a (a+n)=B ((L.drop a).take n):=fun n=>by rw[B_cut,show a+n - a=n by omega]
   have hw:∀n:Nat,n≤(L.drop a).length→IntKind.wrap .i64 ((a:Int)+(n:Int))=((a+n:Nat):Int):=fun n hn=>by rw[wrap_id (by omega) (by omega)];omega
   have st:∀{γ:Type} (q:List TV→List TV→Option γ),evalF Tryz.prog E15 Tryz.f116 [TV.d true 0 (D.str (B L)),TV.d true 0 (D.int IntKind.i64 (a:Int))] q=_:=fun q=>F24.start (B L) a q
   simp only[if_pos (show(0:Int)≤(a:Int)by omega),Int.toNat_natCast,B_get,hc,if_pos (byte_lt c),B_list,if_pos hin]at st
   have hb:∀n:Nat,n≤(L.drop a).length→((0:Int)≤((a+n:Nat):Int)∧((a+n:Nat):Int)≤((B L).size:Int)∧(0:Int)≤(a:Int)∧(a:Int)≤((a+n:Nat):Int)):=fun n hn=>by rw[B_size];omega
   by_cases k1:kindI c.toNat=1
   ·have hn:=runL_le may1 (L.drop a)
    have ho:oneL (L.drop a)=.inr (1,(L.drop a).take (runL may1 (L.drop a)),runL may1 (L.drop a)):=by
     rw[oneL_eq hd,if_pos k1]
    have hpos:runL may1 (L.drop a)≠0:=by rw[hd,runL_cons,k1,if_pos (by decide)];omega
    rw[ho]at hr
    refine⟨_,_,hr,fun q=>?_⟩
    rw[st,if_pos (by simp[k1]),if_neg (by simp;omega),hw _ hn,if_pos (hb _ hn),Int.toNat_natCast,cut,k1]
    rfl
   simp only[if_neg (show ¬(kindI (c.toNat:Int)==1)=true by simpa using k1)]at st
   by_cases k2:kindI c.toNat=2
   ·have hn:=runL_le may2 (L.drop a)
    have hpos:runL may2 (L.drop a)≠0:=by rw[hd,runL_cons,k2,if_pos (by decide)];omega
    simp only[k2,if_pos (show((2:Int)==2)=true from rfl),hw _ hn,if_pos (hb _ hn),Int.toNat_natCast,cut,B_list]at st
    have hcond:small (B ((L.drop a).take (runL may2 (L.drop a))))∧digitsL ((L.drop a).take (runL may2 (L.drop a))):=⟨by unfold small;rw[B_size];simp;omega,digits_run _⟩
    simp only[if_pos hcond]at st
    cases hv:valI ((L.drop a).take (runL may2 (L.drop a))) 0 with
    |none=>
     have ho:oneL (L.drop a)=.inl 10:=by
      rw[oneL_eq hd,if_neg k1,if_pos k2,hv];rfl
     rw[ho]at hr
     refine⟨_,_,hr,fun q=>?_⟩
     rw[st,hv];rfl
    |some v=>
     have ho:oneL (L.drop a)=.inr (2,(L.drop a).take (runL may2 (L.drop a)),runL may2 (L.drop a)):=by
      rw[oneL_eq hd,if_neg k1,if_pos k2,hv];rfl
     rw[ho]at hr
     refine⟨_,_,hr,fun q=>?_⟩
     rw[st,hv]
     simp only
     rw[if_neg (by simp;omega)]
     rfl
   simp only[if_neg (show ¬(kindI (c.toNat:Int)==2)=true by simpa using k2)]at st
   have hb0:(0:Int)≤((B L).size:Int)∧((B L).size:Int)≤((B L).size:Int)∧(0:Int)≤(a:Int)∧(a:Int)≤((B L).size:Int):=by rw[B_size];omega
   have hrest:(B L).extract a (B L).size=B (L.drop a):=B_rest L a
   simp only[if_pos hb0,hrest,B_list]at st
   have hsm:small (B (L.drop a)):=by unfold small;rw[B_size];omega
   by_cases k3:kindI c.toNat=3
   ·have hn:=quotedL_le (L.drop a)
    simp only[k3,if_pos (show((3:Int)==3)=true from rfl),if_pos (And.intro hsm (show 0<(B (L.drop a)).size by rw[B_size];omega))]at st
    by_cases hq:0<quotedL (L.drop a)
    ·have ho:oneL (L.drop a)=.inr (3,((L.drop a).drop 1).take (quotedL (L.drop a) - 2),quotedL (L.drop a)):=by
      rw[oneL_eq hd,if_neg k1,if_neg k2,if_pos k3,if_pos hq]
     have hq3:3≤quotedL (L.drop a):=by
      rcases quotedL_cases (L.drop a)with h|h<;>omega
     rw[ho]at hr
     refine⟨_,_,hr,fun q=>?_⟩
     have w1:IntKind.wrap .i64 ((a:Int)+1)=((a+1:Nat):Int):=by rw[wrap_id (by omega) (by omega)];omega
     have w2:IntKind.wrap .i64 (((a+quotedL (L.drop a):Nat):Int) - 1)=((a+quotedL (L.drop a) - 1:Nat):Int):=by rw[wrap_id (by omega) (by omega)];omega
     rw[st,if_pos (by simp;omega),hw _ hn,w2,w1,if_pos (by rw[B_size];omega),Int.toNat_natCast,Int.toNat_natCast,B_cut]
     rw[show a+quotedL (L.drop a) - 1 - (a+1)=quotedL (L.drop a) - 2 by omega]
     rw[List.drop_drop]
     rfl
    ·have ho:oneL (L.drop a)=.inl 20:=by
      rw[oneL_eq hd,if_neg k1,if_neg k2,if_pos k3,if_neg hq]
     rw[ho]at hr
     refine⟨_,_,hr,fun q=>?_⟩
     rw[st,if_neg (by simp;omega),if_pos (by simp;omega)]
     rfl
   simp only[if_neg (show ¬(kindI (c.toNat:Int)==3)=true by simpa using k3)]at st
   by_cases k4:kindI c.toNat=4
   ·have hn:=markL_le (L.drop a) (by rw[hd];simp)
    simp only[k4,if_pos (show((4:Int)==4)=true from rfl),if_pos (show 0<(B (L.drop a)).size by rw[B_size];omega)]at st
    by_cases hq:markL (L.drop a)=0
    ·have ho:oneL (L.drop a)=.inl 20:=by
      rw[oneL_eq hd,if_neg k1,if_neg k2,if_neg k3,if_pos k4,if_pos hq]
     rw[ho]at hr
     refine⟨_,_,hr,fun q=>?_⟩
     rw[st,if_pos (by simp;omega)]
     rfl
    ·have ho:oneL (L.drop a)=.inr (4,(L.drop a).take (markL (L.drop a)),markL (L.drop a)):=by
      rw[oneL_eq hd,if_neg k1,if_neg k2,if_neg k3,if_pos k4,if_neg hq]
     rw[ho]at hr
     refine⟨_,_,hr,fun q=>?_⟩
     rw[st,if_neg (by simp;omega),hw _ hn,if_pos (hb _ hn),Int.toNat_natCast,cut]
     rfl
   simp only[if_neg (show ¬(kindI (c.toNat:Int)==4)=true by simpa using k4)]at st
   have ho:oneL (L.drop a)=.inl 20:=by
    rw[oneL_eq hd,if_neg k1,if_neg k2,if_neg k3,if_neg k4]
   rw[ho]at hr
   refine⟨_,_,hr,fun q=>?_⟩
   rw[st];rfl
  ·cases hr
 ·cases hr
end Go.Sd
namespace Go.Sd
open Go Go.Cm Go.Proofs Go.Sc
set_option maxRecDepth 100000
namespace F14
noncomputable def X:Fx:=⟨Tryz.prog,E17,12,1⟩
theorem start {β:Type} (s:ByteArray) (k:List TV→List TV→Option β):evalF Tryz.prog E17 Tryz.f61 [.d true 0 (.str s)] k=match Nat.ble (ByteArray.size s) 65536 with
   |false=>k [.d false 0 D.nilp,.d false 0 (.ifc 84 (.int .i64 2))] []
   |true=>match tokS s.toList with
    |Sum.inl (n7,p8)=>k [.d false 0 D.nilp,.d false 0 (.ifc 114 (.pt 3 (.ag [D.int .i64 (↑p8:Int),D.ifc 84 (.int .i64 n7)])))] []
    |Sum.inr l12=>k [.ob true [.own false 4 (List.map tokT l12),.d false 0 (.int .i64 0)],.d false 0 D.nili] []:=by kernel_rfl
end F14
namespace F17
noncomputable def X:Fx:=⟨Tryz.prog,E18,4,1⟩
theorem start {β:Type} (xs:List D) (a:Int) (k:List TV→List TV→Option β):evalF Tryz.prog E18 Tryz.f41 [.ob true [.own true 4 xs,.d false 0 (.int .i64 a)]] k=if 0≤a∧a<(xs.length:Int)then match xs[a.toNat]? with
   |some x4=>match x4 with
    |D.ag xs5=>match xs5 with
     |x6::r7=>match x6 with
      |D.int j8 m9=>if j8=IntKind.i64 then match r7 with
       |x10::r11=>match x10 with
        |D.str s12=>match r11 with
         |x13::r14=>match x13 with
          |D.int j15 m16=>if j15=IntKind.i64 then match r14 with
           |[]=>k [.d true 4 (.ag [D.int .i64 m9,D.str s12,D.int .i64 m16])] [.ob true [.own true 4 xs,.d false 0 (.int .i64 a)]]
           |x=>none else none
          |x=>none
         |[]=>none
        |x=>none
       |[]=>none else none
      |x=>none
     |[]=>none
    |x=>none
   |none=>none else none:=by kernel_rfl
end F17
namespace F18
noncomputable def X:Fx:=⟨Tryz.prog,E19,4,1⟩
theorem start {β:Type} (xs:List D) (a:Int) (k:List TV→List TV→Option β):evalF Tryz.prog E19 Tryz.f118 [.ob true [.own true 4 xs,.d false 0 (.int .i64 a)]] k=if 0≤a then match xs[a.toNat]? with
   |some (.ag [D.int .i64 c2,D.str t3,D.int .i64 p4])=>if(!c2==0)=true then k [.d true 4 (.ag [D.int .i64 c2,D.str t3,D.int .i64 p4])] [.ob true [.own true 4 xs,.d false 0 (.int .i64 (IntKind.wrap .i64 (a+1)))]]else k [.d true 4 (.ag [D.int .i64 c2,D.str t3,D.int .i64 p4])] [.ob true [.own true 4 xs,.d false 0 (.int .i64 a)]]
   |x=>none else none:=by kernel_rfl
end F18
namespace F19
noncomputable def X:Fx:=⟨Tryz.prog,E20,16,2⟩
theorem start {β:Type} (xs:List D) (a:Int) (s:ByteArray) (k:List TV→List TV→Option β):evalF Tryz.prog E20 Tryz.f117 [.ob true [.own true 4 xs,.d false 0 (.int .i64 a)],.d true 0 (.str s)] k=if 0≤a then match xs[a.toNat]? with
   |some (.ag [D.int .i64 c2,D.str t3,D.int .i64 p4])=>if(c2==1)=true then k [.d false 0 (.bool (t3.toList==s.toList))] [.ob true [.own true 4 xs,.d false 0 (.int .i64 a)]]else if(c2==4)=true then k [.d false 0 (.bool (t3.toList==s.toList))] [.ob true [.own true 4 xs,.d false 0 (.int .i64 a)]]else k [.d false 0 (.bool false)] [.ob true [.own true 4 xs,.d false 0 (.int .i64 a)]]
   |x=>none else none:=by kernel_rfl
end F19
namespace F20
noncomputable def X:Fx:=⟨Tryz.prog,E21,16,2⟩
theorem start {β:Type} (xs:List D) (a:Int) (s:ByteArray) (k:List TV→List TV→Option β):evalF Tryz.prog E21 Tryz.f93 [.ob true [.own true 4 xs,.d false 0 (.int .i64 a)],.d true 0 (.str s)] k=if 0≤a then match xs[a.toNat]? with
   |some (.ag [D.int .i64 c2,D.str t3,D.int .i64 n4])=>if((c2==1||c2==4)&&t3.toList==s.toList)=true then if 0≤a∧a<34359738368 then match xs[a.toNat]? with
    |some (.ag [D.int .i64 c8,D.str t9,D.int .i64 p10])=>if(!c8==0)=true then k [.d false 0 (.bool ((c2==1||c2==4)&&t3.toList==s.toList))] [.ob true [.own true 4 xs,.d false 0 (.int .i64 (a+1))]]else k [.d false 0 (.bool ((c2==1||c2==4)&&t3.toList==s.toList))] [.ob true [.own true 4 xs,.d false 0 (.int .i64 a)]]
    |x=>none else none else k [.d false 0 (.bool ((c2==1||c2==4)&&t3.toList==s.toList))] [.ob true [.own true 4 xs,.d false 0 (.int .i64 a)]]
   |x=>none else none:=by kernel_rfl
end F20
namespace F29
noncomputable def X:Fx:=⟨Tryz.prog,E22,4,1⟩
theorem start {β:Type} (xs:List D) (a:Int) (k:List TV→List TV→Option β):evalF Tryz.prog E22 Tryz.f134 [.ob true [.own true 4 xs,.d false 0 (.int .i64 a)]] k=if 0≤a then match xs[a.toNat]? with
   |some (.ag [D.int .i64 c4,D.str t5,D.int .i64 p6])=>k [.d false 0 (.ifc 114 (.pt 3 (.ag [D.int .i64 p6,D.ifc 84 (.int .i64 20)])))] [.ob true [.own true 4 xs,.d false 0 (.int .i64 a)]]
   |x=>none else none:=by kernel_rfl
end F29
namespace F21
noncomputable def X:Fx:=⟨Tryz.prog,E23,16,2⟩
theorem start {β:Type} (xs:List D) (a:Int) (s:ByteArray) (k:List TV→List TV→Option β):evalF Tryz.prog E23 Tryz.f119 [.ob true [.own true 4 xs,.d false 0 (.int .i64 a)],.d true 0 (.str s)] k=if 0≤a∧a<34359738368 then match xs[a.toNat]? with
   |some (.ag [D.int .i64 c2,D.str t3,D.int .i64 n4])=>if((c2==1||c2==4)&&t3.toList==s.toList)=true then k [.d false 0 D.nili] [.ob true [.own true 4 xs,.d false 0 (.int .i64 (a+1))]]else if 0≤a then match xs[a.toNat]? with
    |some (.ag [D.int .i64 n9,D.str s10,D.int .i64 p11])=>k [.d false 0 (.ifc 114 (.pt 3 (.ag [D.int .i64 p11,D.ifc 84 (.int .i64 20)])))] [.ob true [.own true 4 xs,.d false 0 (.int .i64 a)]]
    |x=>none else none
   |x=>none else none:=by kernel_rfl
end F21
end Go.Sd
namespace Go.Sd
open Go Go.Cm Go.Proofs Go.Sc
set_option maxRecDepth 100000
theorem oneL_len {l:T8} {k:Int} {t:T8} {m:Nat} (h:oneL l=.inr (k,t,m)):1≤m∧m≤l.length:=by
 cases l with
 |nil=>simp[oneL]at h
 |cons c r=>
  rw[oneL_eq rfl]at h
  split at h
  ·rename_i h1
   simp only[Sum.inr.injEq,Prod.mk.injEq]at h
   obtain⟨_,_,rfl⟩:=h
   refine⟨?_,runL_le _ _⟩
   rw[runL_cons,h1,if_pos (by decide)];omega
  ·split at h
   ·rename_i h1
    split at h
    ·simp only[Sum.inr.injEq,Prod.mk.injEq]at h
     obtain⟨_,_,rfl⟩:=h
     refine⟨?_,runL_le _ _⟩
     rw[runL_cons,h1,if_pos (by decide)];omega
    ·cases h
   ·split at h
    ·split at h
     ·rename_i hq
      simp only[Sum.inr.injEq,Prod.mk.injEq]at h
      obtain⟨_,_,rfl⟩:=h
      exact⟨hq,quotedL_le _⟩
     ·cases h
    ·split at h
     ·split at h
      ·cases h
      ·rename_i hq
       simp only[Sum.inr.injEq,Prod.mk.injEq]at h
       obtain⟨_,_,rfl⟩:=h
       exact⟨by omega,markL_le _ (by simp)⟩
     ·cases h
theorem tok_loop (L:T8) (hL:L.length≤65536):∀(n:Nat) (xs:List D) (p:Nat),L.length - p<n→p≤L.length→xs.length≤p→
  match toksL n (L.drop p) p with
  |.inl (e,q)=>Lp F10.L0 (F10.s0 (B L) xs p)=some (.ret,F10.e0r q e)
  |.inr ts=>∃us:List Tok,ts=us++[(0,[],L.length)]∧Lp F10.L0 (F10.s0 (B L) xs p)=some (.exit 0,F10.e0x0 (B L) (xs++us.map tokT))∧xs.length+us.length≤L.length
 |0,xs,p,hn,hp,hx=>by omega
 |n+1,xs,p,hn,hp,hx=>by
  have hr:=F10.round0 (B L) xs p
  rw[B_size]at hr
  by_cases he:p=L.length
  ·subst he
   rw[if_neg (by simp)]at hr
   rw[List.drop_length]
   simp only[toksL]
   exact⟨[],rfl,by simpa using Lp_exit hr,by simpa using hx⟩
  ·have hlt:p<L.length:=by omega
   have hin:inS (B L) (p:Int):=by unfold inS small;rw[B_size];omega
   rw[if_pos (by simp;omega),if_pos ⟨hin,by omega⟩,Int.toNat_natCast,B_list]at hr
   obtain⟨c,hc,hd⟩:=drop_at hlt
   have ht:toksL (n+1) (L.drop p) p=(match oneL (L.drop p)with
    |.inl e=>.inl (e,p)
    |.inr (k,t,m)=>match toksL n (((L.drop p).drop m).drop (blankL ((L.drop p).drop m))) (p+m+blankL ((L.drop p).drop m))with
     |.inl e=>.inl e
     |.inr r=>.inr ((k,t,p)::r)):=by
    rw[hd];rfl
   rw[ht]
   cases ho:oneL (L.drop p)with
   |inl e=>
    rw[ho]at hr
    exact Lp_exit hr
   |inr x=>
    obtain⟨k,t,m⟩:=x
    rw[ho]at hr
    simp only at hr ⊢
    obtain⟨m1,m2⟩:=oneL_len ho
    rw[List.length_drop]at m2
    have hw:IntKind.wrap .i64 ((p:Int)+(m:Int))=((p+m:Nat):Int):=by rw[wrap_id (by omega) (by omega)];omega
    have hb:=blankL_le _ (L.drop (p+m)) (Nat.le_refl _)
    rw[List.length_drop]at hb
    have hw2:IntKind.wrap .i64 (((p+m:Nat):Int)+(blankL (L.drop (p+m)):Int))=((p+m+blankL (L.drop (p+m)):Nat):Int):=by rw[wrap_id (by omega) (by omega)];omega
    rw[if_pos (by omega),hw,if_pos (by unfold inS small;rw[B_size];omega),Int.toNat_natCast,hw2]at hr
    have e0:(L.drop p).drop m=L.drop (p+m):=List.drop_drop
    have e1:(L.drop (p+m)).drop (blankL (L.drop (p+m)))=L.drop (p+m+blankL (L.drop (p+m))):=List.drop_drop
    rw[e0,e1]
    have ih:=tok_loop L hL n (xs++[tokT (k,t,p)]) (p+m+blankL (L.drop (p+m))) (by omega) (by omega) (by simp;omega)
    cases hk:toksL n (L.drop (p+m+blankL (L.drop (p+m)))) (p+m+blankL (L.drop (p+m)))with
    |inl e=>
     rw[hk]at ih
     exact Lp_step hr ih
    |inr ts=>
     rw[hk]at ih
     obtain⟨us,e1,e2,e3⟩:=ih
     refine⟨(k,t,p)::us,by rw[e1];rfl,?_,by simp at e3 ⊢;omega⟩
     rw[List.map_cons, ←List.singleton_append, ←List.append_assoc]
     exact Lp_step hr e2
theorem tokS_last {L:T8} {ts:List Tok} (hL:L.length≤65536) (h:tokS L=.inr ts):∃us,ts=us++[(0,[],L.length)]∧us.length≤L.length∧
  Lp F10.L0 (F10.s0 (B L) [] (blankL L))=some (.exit 0,F10.e0x0 (B L) (us.map tokT)):=by
 have hb:=blankL_le _ L (Nat.le_refl _)
 have hl:=tok_loop L hL (L.length+1) [] (blankL L) (by omega) hb (by simp)
 unfold tokS at h
 rw[h]at hl
 obtain⟨us,h1,h2,h3⟩:=hl
 exact⟨us,h1,by simpa using h3,by simpa using h2⟩
theorem env17:EnvOk glS Tryz.prog E17:=env16.fn mixed Tryz.func92 (by kernel_rfl) fun β args k r hr=>by
 unfold cTokens at hr
 split at hr
 ·rename_i s
  rw[B_of s]at hr ⊢
  generalize s.data.toList=L at*
  rw[B_list,B_size]at hr
  split at hr
  ·rename_i hs
   refine⟨_,_,hr,fun q=>?_⟩
   have:65536<L.length:=by
    rcases Nat.lt_or_ge 65536 L.length with h|h
    ·exact h
    ·rw[Nat.ble_eq_true_of_le h]at hs;cases hs
   rw[F10.start,B_size,if_pos (by simp;omega)];rfl
  ·rename_i hs
   rw[Nat.ble_eq]at hs
   have hb:=blankL_le _ L (Nat.le_refl _)
   have hst:∀{γ:Type} (q:List TV→List TV→Option γ),evalF Tryz.prog E16 Tryz.f92 [TV.d true 0 (D.str (B L))] q=_:=fun q=>F10.start (B L) q
   have hin:inS (B L) 0:=by unfold inS small;rw[B_size];omega
   simp only[B_size,if_neg (show ¬decide ((L.length:Int)>65536)=true by simp;omega),if_pos hin,B_list,List.drop_zero]at hst
   cases ht:tokS L with
   |inl e=>
    obtain⟨e,p⟩:=e
    rw[ht]at hr
    refine⟨_,_,hr,fun q=>?_⟩
    have hl:=tok_loop L hs (L.length+1) [] (blankL L) (by omega) hb (by simp)
    unfold tokS at ht
    rw[ht]at hl
    rw[hst,goLp_of hl,F10.behind0r];rfl
   |inr ts=>
    rw[ht]at hr
    refine⟨_,_,hr,fun q=>?_⟩
    obtain⟨us,e1,e2,e3⟩:=tokS_last hs ht
    rw[hst,goLp_of e3,F10.behind0x0,if_pos (by simp;omega),e1,B_size]
    rw[List.map_append];rfl
 ·cases hr
theorem env18:EnvOk glS Tryz.prog E18:=env17.fn mixed Tryz.func61 (by kernel_rfl) fun β args k r hr=>by
 unfold cNew at hr
 split at hr
 ·rename_i s
  split at hr
  ·rename_i hs
   exact⟨_,_,hr,fun q=>by rw[F14.start,hs];rfl⟩
  ·rename_i hs
   split at hr
   ·rename_i n p ht
    exact⟨_,_,hr,fun q=>by rw[F14.start,hs,ht];rfl⟩
   ·rename_i l ht
    exact⟨_,_,hr,fun q=>by rw[F14.start,hs,ht]⟩
 ·cases hr
end Go.Sd
namespace Go.Sd
open Go Go.Cm Go.Proofs Go.Sc
set_option maxRecDepth 100000
theorem at_lt {xs:List D} {a:Int} {x:D} (h0:0≤a) (h:xs[a.toNat]? =some x):0≤a∧a<(xs.length:Int):=by
 have:=(List.getElem?_eq_some_iff.1 h).1
 omega
theorem env19:EnvOk glS Tryz.prog E19:=env18.fn mixed Tryz.func41 (by kernel_rfl) fun β args k r hr=>by
 unfold cPeek at hr
 split at hr
 ·rename_i xs a
  unfold chkK at hr
  split at hr
  ·rename_i h0
   split at hr
   ·rename_i c t p hx
    refine⟨_,_,hr,fun q=>?_⟩
    rw[F17.start,if_pos (at_lt h0 hx),hx];rfl
   ·cases hr
  ·cases hr
 ·cases hr
theorem env20:EnvOk glS Tryz.prog E20:=env19.fn mixed Tryz.func118 (by kernel_rfl) fun β args k r hr=>by
 unfold cTake at hr
 split at hr
 ·rename_i xs a
  unfold chkK at hr
  split at hr
  ·rename_i h0
   have hw:IntKind.wrap .i64 (a+1)=a+1:=wrap_id (by omega) (by omega)
   split at hr
   ·rename_i c t p hx
    split at hr
    ·rename_i hc
     refine⟨_,_,hr,fun q=>?_⟩
     rw[F18.start,if_pos h0.1,hx]
     simp only[if_pos hc,hw];rfl
    ·rename_i hc
     refine⟨_,_,hr,fun q=>?_⟩
     rw[F18.start,if_pos h0.1,hx]
     simp only[if_neg hc];rfl
   ·cases hr
  ·cases hr
 ·cases hr
theorem env21:EnvOk glS Tryz.prog E21:=env20.fn mixed Tryz.func117 (by kernel_rfl) fun β args k r hr=>by
 unfold cIs at hr
 split at hr
 ·rename_i xs a s
  unfold chkK at hr
  split at hr
  ·rename_i h0
   split at hr
   ·rename_i c t p hx
    refine⟨_,_,hr,fun q=>?_⟩
    rw[F19.start,if_pos h0,hx]
    simp only[isB]
    by_cases h1:(c==1)=true
    ·rw[if_pos h1,h1];rfl
    ·rw[if_neg h1]
     rw[Bool.not_eq_true]at h1
     by_cases h4:(c==4)=true
     ·rw[if_pos h4,h1,h4];rfl
     ·rw[if_neg h4]
      rw[Bool.not_eq_true]at h4
      rw[h1,h4];rfl
   ·cases hr
  ·cases hr
 ·cases hr
theorem env22:EnvOk glS Tryz.prog E22:=env21.fn mixed Tryz.func93 (by kernel_rfl) fun β args k r hr=>by
 unfold cSkip at hr
 split at hr
 ·rename_i xs a s
  unfold chkK at hr
  split at hr
  ·rename_i h0
   split at hr
   ·rename_i c t p hx
    have st:∀{γ:Type} (q:List TV→List TV→Option γ),evalF Tryz.prog E21 Tryz.f93 [TV.ob true [TV.own true 4 xs,TV.d false 0 (D.int IntKind.i64 a)],TV.d true 0 (D.str s)] q=_:=fun q=>F20.start xs a s q
    simp only[if_pos h0.1,hx,if_pos h0]at st
    split at hr
    ·rename_i hb
     refine⟨_,_,hr,fun q=>?_⟩
     have hb':=hb
     simp only[isB]at hb'
     have hc:(!c==0)=true:=by
      have h:=(Bool.and_eq_true_iff.1 hb').1
      simp only[Bool.or_eq_true,beq_iff_eq]at h
      simp;omega
     rw[st,if_pos hb',if_pos hc,hb'];rfl
    ·rename_i hb
     refine⟨_,_,hr,fun q=>?_⟩
     simp only[isB]at hb
     rw[st,if_neg hb]
     rw[Bool.not_eq_true]at hb
     rw[hb];rfl
   ·cases hr
  ·cases hr
 ·cases hr
theorem env23:EnvOk glS Tryz.prog E23:=env22.fn mixed Tryz.func134 (by kernel_rfl) fun β args k r hr=>by
 unfold cBad at hr
 split at hr
 ·rename_i xs a
  unfold chkK at hr
  split at hr
  ·rename_i h0
   split at hr
   ·rename_i c t p hx
    refine⟨_,_,hr,fun q=>?_⟩
    rw[F29.start,if_pos h0,hx];rfl
   ·cases hr
  ·cases hr
 ·cases hr
theorem env24:EnvOk glS Tryz.prog E24:=env23.fn mixed Tryz.func119 (by kernel_rfl) fun β args k r hr=>by
 unfold cWant at hr
 split at hr
 ·rename_i xs a s
  unfold chkK at hr
  split at hr
  ·rename_i h0
   split at hr
   ·rename_i c t p hx
    have st:∀{γ:Type} (q:List TV→List TV→Option γ),evalF Tryz.prog E23 Tryz.f119 [TV.ob true [TV.own true 4 xs,TV.d false 0 (D.int IntKind.i64 a)],TV.d true 0 (D.str s)] q=_:=fun q=>F21.start xs a s q
    simp only[if_pos h0.1,hx,if_pos h0]at st
    split at hr
    ·rename_i hb
     refine⟨_,_,hr,fun q=>?_⟩
     simp only[isB]at hb
     rw[st,if_pos hb];rfl
    ·rename_i hb
     refine⟨_,_,hr,fun q=>?_⟩
     simp only[isB]at hb
     rw[st,if_neg hb];rfl
   ·cases hr
  ·cases hr
 ·cases hr
end Go.Sd
namespace Go.Sc
open Go Go.Cm
inductive PR where
 |ok (op nm:ByteArray) (ks:List D) (p a:Int)
 |syn (p a:Int)
 |deep (p a:Int)
 |no
def fmD (op nm:ByteArray) (ks:List D) (p:Int):D:=.ag [.str op,.str nm,.sl 5 ks,.int .i64 p]
def tkD:Option D→Option (Int×ByteArray×Int)
 |some (.ag [.int .i64 c,.str t,.int .i64 p])=>some (c,t,p)
 |_=>none
def tk (xs:List D) (a:Int):Option (Int×ByteArray×Int):=tkD xs[a.toNat]?
def isT (c:Int) (t s:ByteArray):Bool:=(c==1||c==4)&&t.toList==s.toList
def deepP (xs:List D) (a:Int):PR:=match tk xs a with|some (_,_,p)=>.deep p a|none=>.no
def chainL (xs:List D) (op:ByteArray) (one:Int→PR):Nat→ByteArray→ByteArray→List D→Int→Int→PR
 |0,_,_,_,_,_=>.no
 |n+1,o,nm,ks,p,a=>match tk xs a with
  |none=>.no
  |some (c,t,_)=>if isT c t op=true then(match one (a+1)with
    |.ok o2 nm2 ks2 p2 a2=>chainL xs op one n op ⟨#[]⟩ [fmD o nm ks p,fmD o2 nm2 ks2 p2] p a2
    |.syn p a=>.syn p a
    |.deep p a=>.deep p a
    |.no=>.no)
   else .ok o nm ks p a
def chainP (xs:List D) (op:ByteArray) (one:Int→PR) (a:Int):PR:=
 match one a with
 |.ok o nm ks p a=>chainL xs op one (xs.length+1) o nm ks p a
 |.syn p a=>.syn p a
 |.deep p a=>.deep p a
 |.no=>.no
def rightP (xs:List D) (one:Int→PR) (o nm:ByteArray) (ks:List D) (p:Int):List ByteArray→Int→PR
 |[],a=>.ok o nm ks p a
 |op::ops,a=>match tk xs a with
  |none=>.no
  |some (c,t,_)=>if isT c t op=true then(match one (a+1)with
    |.ok o2 nm2 ks2 p2 a2=>.ok op ⟨#[]⟩ [fmD o nm ks p,fmD o2 nm2 ks2 p2] p a2
    |.syn p a=>.syn p a
    |.deep p a=>.deep p a
    |.no=>.no)
   else rightP xs one o nm ks p ops a
structure PF where
 single:Int→PR
 untl:Int→PR
 imply:Int→PR
def singleP (xs:List D) (P:PF) (a:Int):PR:=
 match tk xs a with
 |none=>.no
 |some (c,t,p)=>
  if c=3 then .ok ⟨#[108,97,98,101,108]⟩ t [] p (a+1)
  else if isT c t ⟨#[116,114,117,101]⟩=true∨isT c t ⟨#[102,97,108,115,101]⟩=true then .ok t ⟨#[]⟩ [] p (a+1)
  else if isT c t ⟨#[33]⟩=true∨isT c t ⟨#[88]⟩=true∨isT c t ⟨#[70]⟩=true∨isT c t ⟨#[71]⟩=true then(match P.single (a+1)with
   |.ok o nm ks q a=>.ok t ⟨#[]⟩ [fmD o nm ks q] p a
   |.syn p a=>.syn p a
   |.deep p a=>.deep p a
   |.no=>.no)
  else if isT c t ⟨#[40]⟩=true then(match P.imply (a+1)with
   |.ok o nm ks q a=>(match tk xs a with
    |none=>.no
    |some (c2,t2,p2)=>if isT c2 t2 ⟨#[41]⟩=true then .ok o nm ks p (a+1)else .syn p2 a)
   |.syn p a=>.syn p a
   |.deep p a=>.deep p a
   |.no=>.no)
  else .syn p a
def untlP (xs:List D) (single untl:Int→PR) (a:Int):PR:=
 match single a with
 |.ok o nm ks p a=>rightP xs untl o nm ks p [⟨#[85]⟩,⟨#[87]⟩,⟨#[82]⟩] a
 |.syn p a=>.syn p a
 |.deep p a=>.deep p a
 |.no=>.no
def kP (xs:List D) (untl:Int→PR) (a:Int):PR:=chainP xs ⟨#[38]⟩ untl a
def implyP (xs:List D) (untl imply:Int→PR) (a:Int):PR:=
 match chainP xs ⟨#[124]⟩ (kP xs untl) a with
 |.ok o nm ks p a=>rightP xs imply o nm ks p [⟨#[61,62]⟩] a
 |.syn p a=>.syn p a
 |.deep p a=>.deep p a
 |.no=>.no
def pf (xs:List D):Nat→PF
 |0=>⟨deepP xs,deepP xs,deepP xs⟩
 |n+1=>
  let s:=singleP xs (pf xs n)
  let u:=untlP xs s (pf xs n).untl
  ⟨s,u,implyP xs u (pf xs n).imply⟩
def pSingle (xs:List D) (n:Nat) (a:Int):PR:=(pf xs n).single a
def pUntl (xs:List D) (n:Nat) (a:Int):PR:=(pf xs n).untl a
def pImply (xs:List D) (n:Nat) (a:Int):PR:=(pf xs n).imply a
def pK (xs:List D) (n:Nat) (a:Int):PR:=kP xs (pUntl xs n) a
def pChain (xs:List D) (op:ByteArray) (n:Nat) (b:Bool) (a:Int):PR:=match b with|true=>chainP xs op (pUntl xs n) a|false=>chainP xs op (pK xs n) a
def pRight (xs:List D) (n:Nat) (b:Bool) (o nm:ByteArray) (ks:List D) (p:Int) (ops:List ByteArray) (a:Int):PR:=
 match b with|true=>rightP xs (pUntl xs n) o nm ks p ops a|false=>rightP xs (pImply xs n) o nm ks p ops a
def okP (xs:List D) (a d lv:Int) (n:Nat):Prop:=xs.length≤65537∧0≤a∧0≤lv∧lv≤1001∧d≤1000∧(d+1 - lv).toNat<n
instance (xs:List D) (a d lv:Int) (n:Nat):Decidable (okP xs a d lv n):=by unfold okP;infer_instance
structure Bd where
 (ns nu nk nck ncu nri nru ni:Nat)
end Go.Sc
namespace Go.Sd
open Go Go.Cm Go.Proofs Go.Sc
set_option maxRecDepth 100000
def pars (xs:List D) (a d:Int):TV:=.ob true [.ob true [.own true 4 xs,.d false 0 (.int .i64 a)],.d false 0 (.int .i64 d)]
def zF:D:=.ag [.str ⟨#[]⟩,.str ⟨#[]⟩,.sl 5 [],.int .i64 0]
def ansP {β:Type} (o:Int→TV) (k:List TV→List TV→Option β):PR→Option β
 |.ok op nm ks p a=>k [.d true 5 (fmD op nm ks p),.d false 0 .nili] [o a]
 |.syn p a=>k [.d false 5 zF,.d false 0 (atD p (noD 20))] [o a]
 |.deep p a=>k [.d false 5 zF,.d true 0 (atD p (noD 21))] [o a]
 |.no=>none
def cAt {β:Type} (args:List TV) (k:List TV→List TV→Option β):Option β:=
 match args with
 |[.ob true [.ob true [.own true 4 xs,.d false 0 (.int .i64 a)],.d false 0 (.int .i64 d)],.d true 0 (.ifc 84 (.int .i64 n))]=>chkK (0≤a) (match xs[a.toNat]? with
  |some (.ag [.int .i64 _,.str _,.int .i64 p])=>k [.d true 0 (atD p (noD n))] [pars xs a d]
  |_=>none)
 |_=>none
def cTwo {β:Type} (args:List TV) (k:List TV→List TV→Option β):Option β:=
 match args with
 |[.d true 0 (.str op),.d true 5 (.ag [.str o1,.str n1,.sl 5 k1,.int .i64 p1]),.d true 5 (.ag [.str o2,.str n2,.sl 5 k2,.int .i64 p2])]=>
  k [.d true 5 (fmD op ⟨#[]⟩ [fmD o1 n1 k1 p1,fmD o2 n2 k2 p2] p1)] []
 |_=>none
def cSingle {β:Type} (n:Nat) (args:List TV) (k:List TV→List TV→Option β):Option β:=
 match args with
 |[.ob true [.ob true [.own true 4 xs,.d false 0 (.int .i64 a)],.d false 0 (.int .i64 d)],.d true 0 (.int .i64 lv)]=>
  chkK (okP xs a d lv n) (ansP (fun a=>pars xs a d) k (pSingle xs (d+1 - lv).toNat a))
 |_=>none
def cUntl {β:Type} (n:Nat) (args:List TV) (k:List TV→List TV→Option β):Option β:=
 match args with
 |[.ob true [.ob true [.own true 4 xs,.d false 0 (.int .i64 a)],.d false 0 (.int .i64 d)],.d true 0 (.int .i64 lv)]=>
  chkK (okP xs a d lv n) (ansP (fun a=>pars xs a d) k (pUntl xs (d+1 - lv).toNat a))
 |_=>none
def cImply {β:Type} (n:Nat) (args:List TV) (k:List TV→List TV→Option β):Option β:=
 match args with
 |[.ob true [.ob true [.own true 4 xs,.d false 0 (.int .i64 a)],.d false 0 (.int .i64 d)],.d true 0 (.int .i64 lv)]=>
  chkK (okP xs a d lv n) (ansP (fun a=>pars xs a d) k (pImply xs (d+1 - lv).toNat a))
 |_=>none
def cK {β:Type} (n:Nat) (args:List TV) (k:List TV→List TV→Option β):Option β:=
 match args with
 |[.d true 0 (.int .i64 lv),.cpo true (.ob true [.ob true [.own true 4 xs,.d false 0 (.int .i64 a)],.d false 0 (.int .i64 d)])]=>
  chkK (okP xs a d lv n) (ansP (fun a=>.cpo true (pars xs a d)) k (pK xs (d+1 - lv).toNat a))
 |_=>none
def cChain {β:Type} (nk nu:Nat) (args:List TV) (k:List TV→List TV→Option β):Option β:=
 match args with
 |[.ob true [.ob true [.own true 4 xs,.d false 0 (.int .i64 a)],.d false 0 (.int .i64 d)],.d true 0 (.str op),.d true 0 (.int .i64 lv),.fc true true 64 [(0,false)]]=>
  chkK (okP xs a d lv nu) (ansP (fun a=>pars xs a d) k (pChain xs op (d+1 - lv).toNat true a))
 |[.ob true [.ob true [.own true 4 xs,.d false 0 (.int .i64 a)],.d false 0 (.int .i64 d)],.d true 0 (.str op),.d true 0 (.int .i64 lv),.fc true false 63 [(0,true)]]=>
  chkK (okP xs a d lv nk) (ansP (fun a=>pars xs a d) k (pChain xs op (d+1 - lv).toNat false a))
 |_=>none
def cRight {β:Type} (ni nu:Nat) (args:List TV) (k:List TV→List TV→Option β):Option β:=
 match args with
 |[.ob true [.ob true [.own true 4 xs,.d false 0 (.int .i64 a)],.d false 0 (.int .i64 d)],.d true 0 (.int .i64 lv),.d true 5 (.ag [.str o,.str nm,.sl 5 ks,.int .i64 p]),.fc true true 64 [(0,false)],.d true 0 (.sl 0 [.str s1,.str s2,.str s3])]=>
  chkK (okP xs a d (lv+1) nu) (ansP (fun a=>pars xs a d) k (pRight xs (d - lv).toNat true o nm ks p [s1,s2,s3] a))
 |[.ob true [.ob true [.own true 4 xs,.d false 0 (.int .i64 a)],.d false 0 (.int .i64 d)],.d true 0 (.int .i64 lv),.d true 5 (.ag [.str o,.str nm,.sl 5 ks,.int .i64 p]),.fc true true 40 [(0,false)],.d true 0 (.sl 0 [.str s1])]=>
  chkK (okP xs a d (lv+1) ni) (ansP (fun a=>pars xs a d) k (pRight xs (d - lv).toNat false o nm ks p [s1] a))
 |_=>none
def io2:Nat→Bool:=fun j=>Nat.beq j 1
def Q0:Env:=E24.add 16 io0 cNum
def Q1:Env:=Q0.add 42 io1 cAt
def Q2:Env:=Q1.add 94 io0 cTwo
def QP (B:Bd):Env:=((((((Q2.add 95 io1 (cSingle B.ns)).add 64 io1 (cUntl B.nu)).add 63 io2 (cK B.nk)).add 62 io1 (cChain B.nck B.ncu)).add 65 io1 (cRight B.nri B.nru)).add 40 io1 (cImply B.ni))
end Go.Sd
namespace Go.Cm
open Go
def regOps (c:Code):Array Oper:=match c with|.region _ ops _=>ops|_=> #[]
def selT:List (Nat×V)→Nat→List (Nat×V)→List (Nat×V)
 |[],_,_=>[]
 |e::r,n,xs=>match n % 4 with
  |0=>selT r (n / 4) xs
  |1=>e::selT r (n / 4) xs
  |2=>(e.1,.undef)::selT r (n / 4) xs
  |_=>match xs with
   |[]=>[]
   |x::xs=>x::selT r (n / 4) xs
def selR:List (Nat×Bool×List V)→Nat→List (Nat×Bool×List V)→List (Nat×Bool×List V)
 |[],_,_=>[]
 |e::r,n,xs=>match n % 4 with
  |0=>selR r (n / 4) xs
  |1=>e::selR r (n / 4) xs
  |_=>match xs with
   |[]=>[]
   |x::xs=>x::selR r (n / 4) xs
end Go.Cm
namespace Go.Sd
open Go Go.Cm Go.Proofs Go.Sc
set_option maxRecDepth 100000
def ioNil (j:Nat):Bool:=Nat.beq j 65536
def cGrow {β:Type} (args:List TV) (k:List TV→List TV→Option β):Option β:=
 match args with
 |[.d true 0 .nilsl,.d true 0 (.int .i64 n)]=>chkK (0≤n∧n≤big) (k [.own false 0 []] [])
 |_=>none
def cConcat {β:Type} (args:List TV) (k:List TV→List TV→Option β):Option β:=
 match args with
 |[.d true 0 (.sl 0 [.sl 0 xs,.sl 0 ys])]=>chkK (xs.length+ys.length≤big) (k [.own true 0 (xs++ys)] [])
 |_=>none
def W0:Env:=Env.none
def W1:Env:=W0.add 68 ioNil cGrow
def W2:Env:=W1.add 45 io0 cConcat
end Go.Sd
namespace Go.Sd
open Go Go.Cm Go.Proofs Go.Sc
set_option maxRecDepth 100000
namespace G68
theorem start {β:Type} (n:Int) (k:List TV→List TV→Option β):evalF Tryz.prog W0 Tryz.f68 [.d true 0 D.nilsl,.d true 0 (D.int .i64 n)] k=if decide (n<0)=true then none else if decide (IntKind.wrap .i64 (n - 0)>0)=true then if 0≤IntKind.wrap .i64 (n - 0)∧IntKind.wrap .i64 (n - 0)≤34359738368 then if(0:Int)≤0∧(0:Int)≤(↑(List.length (List.replicate (Int.toNat (IntKind.wrap .i64 (n - 0))) (D.int .i64 0))):Int)∧(0:Int)≤0∧(0:Int)≤0 then k [.own false 0 (List.take 0 (List.drop 0 (List.replicate (Int.toNat (IntKind.wrap .i64 (n - 0))) (D.int .i64 0))))] []else none else none else k [.own false 0 []] []:=by kernel_rfl
end G68
namespace G45
noncomputable def X:Fx:=⟨Tryz.prog,W1,4,1⟩
def s0 (xs:List D) (ys:List D) (x13:Int) (x14:Int):S:=⟨Tm.mk 36 [(0,.d true 0 (D.sl 0 [D.sl 0 xs,D.sl 0 ys])),(3,.d false 0 (D.int .i64 x13)),(9,.d true 0 (D.sl 0 [D.sl 0 xs,D.sl 0 ys])),(10,.d false 0 (D.int .i64 2)),(11,.d false 0 (D.int .i64 x14))],[]⟩
def s1 (xs:List D) (ys:List D) (x63:List D) (x64:Bool) (x65:Int):S:=⟨Tm.mk 36 [(6,.own x64 0 x63),(25,.d true 0 (D.sl 0 [D.sl 0 xs,D.sl 0 ys])),(26,.d false 0 (D.int .i64 2)),(27,.d false 0 (D.int .i64 x65))],[]⟩
def e0x0 (xs:List D) (ys:List D) (x11:Int):S:=⟨Tm.mk 36 [(0,.d true 0 (D.sl 0 [D.sl 0 xs,D.sl 0 ys])),(3,.d false 0 (D.int .i64 x11))],[]⟩
def e1x2 (x60:List D) (x61:Bool):S:=⟨Tm.mk 36 [(6,.own x61 0 x60)],[]⟩
noncomputable abbrev L0:S→Option (S ⊕ (Ex×S)):=roundK X [(0,9)] (sub [1,1,0,1,0,0] (body Tryz.f45))
noncomputable abbrev L1:S→Option (S ⊕ (Ex×S)):=roundK X [(2,64)] (sub [1,1,1,1,0,1,0,0] (body Tryz.f45))
theorem start {β:Type} (xs:List D) (ys:List D) (k:List TV→List TV→Option β):evalF Tryz.prog W1 Tryz.f45 [.d true 0 (D.sl 0 [D.sl 0 xs,D.sl 0 ys])] k=goLp X [(0,9)] (sub [1,1,0,1,0,0] (body Tryz.f45)) [Kf.block 0 9,Kf.seq [] (sub [1,1,1] (body Tryz.f45)) 4] (finK Tryz.prog Tryz.f45 [.d true 0 (D.sl 0 [D.sl 0 xs,D.sl 0 ys])] k) (s0 xs ys (0:Int) (0:Int)):=by kernel_rfl
theorem round0_0 (xs:List D) (ys:List D) (x11:Int) (x12:Int):roundK X [(0,9)] (sub [1,1,0,1,0,0] (body Tryz.f45)) (s0 xs ys x11 x12)=if decide (x12<2)=true then if 0≤x12 then match[D.sl 0 xs,D.sl 0 ys][x12.toNat]? with
   |some x109=>match x109 with
    |D.sl sh110 xs111=>if sh110=0 then if decide (IntKind.wrap .i64 (x11+(xs111.length:Int))<0)=true then none else some (Sum.inl (s0 xs ys (IntKind.wrap .i64 (x11+(xs111.length:Int))) (IntKind.wrap .i64 (x12+1))))else none
    |x=>none
   |none=>none else none else some (Sum.inr (Ex.exit 0,e0x0 xs ys x11)):=by kernel_rfl
theorem round1_0 (xs:List D) (ys:List D) (x60:List D) (x61:Bool) (x62:Int):roundK X [(2,64)] (sub [1,1,1,1,0,1,0,0] (body Tryz.f45)) (s1 xs ys x60 x61 x62)=if decide (x62<2)=true then if 0≤x62 then match[D.sl 0 xs,D.sl 0 ys][x62.toNat]? with
   |some x125=>match x125 with
    |D.sl sh126 xs127=>if sh126=0 then if x60.length+xs127.length≤34359738368 then some (Sum.inl (s1 xs ys (x60++xs127) (x61||true) (IntKind.wrap .i64 (x62+1))))else none else none
    |x=>none
   |none=>none else none else some (Sum.inr (Ex.exit 2,e1x2 x60 x61)):=by kernel_rfl
theorem behind0x0 {β:Type} (xs:List D) (ys:List D) (x11:Int) (k:List TV→List TV→Option β):applyK X (finK Tryz.prog Tryz.f45 [.d true 0 (D.sl 0 [D.sl 0 xs,D.sl 0 ys])] k) [Kf.block 0 9,Kf.seq [] (sub [1,1,1] (body Tryz.f45)) 4] (Ex.exit 0) (e0x0 xs ys x11)=if 0≤x11∧x11≤34359738368 then goLp X [(2,64)] (sub [1,1,1,1,0,1,0,0] (body Tryz.f45)) [Kf.block 2 64,Kf.seq [] (sub [1,1,1,1,1] (body Tryz.f45)) 4] (finK Tryz.prog Tryz.f45 [.d true 0 (D.sl 0 [D.sl 0 xs,D.sl 0 ys])] k) (s1 xs ys [] false (0:Int))else none:=by kernel_rfl
theorem behind1x2 {β:Type} (xs:List D) (ys:List D) (x60:List D) (x61:Bool) (k:List TV→List TV→Option β):applyK X (finK Tryz.prog Tryz.f45 [.d true 0 (D.sl 0 [D.sl 0 xs,D.sl 0 ys])] k) [Kf.block 2 64,Kf.seq [] (sub [1,1,1,1,1] (body Tryz.f45)) 4] (Ex.exit 2) (e1x2 x60 x61)=k [.own x61 0 x60] []:=by kernel_rfl
end G45
end Go.Sd
namespace Go.Sd
open Go Go.Cm Go.Proofs Go.Sc
set_option maxRecDepth 100000
theorem envw0:EnvOk glS Tryz.prog W0:=EnvOk.none
theorem envw1:EnvOk glS Tryz.prog W1:=envw0.fn mixed Tryz.func68 (by kernel_rfl) fun β args k r hr=>by
 unfold cGrow at hr
 split at hr
 ·rename_i n
  obtain⟨⟨h0,h1⟩,hr⟩:=chkK_ok hr
  have hb:(big:Int)=34359738368:=rfl
  rw[hb]at h1
  refine⟨_,_,hr,fun q=>?_⟩
  have st:=G68.start n q
  rw[if_neg (by simpa using h0)]at st
  have e:IntKind.wrap IntKind.i64 (n - 0)=n:=by rw[wrap_id (by omega) (by omega)];omega
  rw[e]at st
  by_cases hn:n>0
  ·rw[if_pos (by simpa using hn),if_pos ⟨h0,h1⟩,if_pos ⟨by omega,by omega,by omega,by omega⟩]at st
   rw[st];rfl
  ·rw[if_neg (by simpa using hn)]at st
   rw[st]
 ·cases hr
theorem envw2:EnvOk glS Tryz.prog W2:=envw1.fn mixed Tryz.func45 (by kernel_rfl) fun β args k r hr=>by
 unfold cConcat at hr
 split at hr
 ·rename_i xs ys
  obtain⟨h0,hr⟩:=chkK_ok hr
  have hb:big=34359738368:=rfl
  rw[hb]at h0
  refine⟨_,_,hr,fun q=>?_⟩
  have st:=G45.start xs ys q
  have w1:IntKind.wrap IntKind.i64 (0+(xs.length:Int))=xs.length:=by rw[wrap_id (by omega) (by omega)];omega
  have w2:IntKind.wrap IntKind.i64 ((xs.length:Int)+(ys.length:Int))=(xs.length:Int)+ys.length:=by rw[wrap_id (by omega) (by omega)]
  have L0:Lp G45.L0 (G45.s0 xs ys 0 0)=some (.exit 0,G45.e0x0 xs ys ((xs.length:Int)+ys.length)):=by
   have r1:=G45.round0_0 xs ys 0 0
   rw[if_pos (by decide),if_pos (by decide)]at r1
   simp only[w1,Int.toNat_zero,List.getElem?_cons_zero,if_true]at r1
   rw[if_neg (by simp)]at r1
   have r2:=G45.round0_0 xs ys xs.length 1
   rw[if_pos (by decide),if_pos (by decide)]at r2
   simp only[w2,show Int.toNat 1=1 from rfl,List.getElem?_cons_succ,List.getElem?_cons_zero,if_true]at r2
   rw[if_neg (by simp;omega)]at r2
   have r3:=G45.round0_0 xs ys ((xs.length:Int)+ys.length) 2
   rw[if_neg (by decide)]at r3
   exact Lp_step r1 (Lp_step r2 (Lp_exit r3))
  have L1:Lp G45.L1 (G45.s1 xs ys [] false 0)=some (.exit 2,G45.e1x2 (xs++ys) true):=by
   have r1:=G45.round1_0 xs ys [] false 0
   rw[if_pos (by decide),if_pos (by decide)]at r1
   simp only[Int.toNat_zero,List.getElem?_cons_zero,if_true]at r1
   rw[if_pos (by simp;omega)]at r1
   have r2:=G45.round1_0 xs ys xs true 1
   rw[if_pos (by decide),if_pos (by decide)]at r2
   simp only[show Int.toNat 1=1 from rfl,List.getElem?_cons_succ,List.getElem?_cons_zero,if_true]at r2
   rw[if_pos (by omega)]at r2
   have r3:=G45.round1_0 xs ys (xs++ys) true 2
   rw[if_neg (by decide)]at r3
   exact Lp_step r1 (Lp_step r2 (Lp_exit r3))
  rw[st,goLp_of L0,G45.behind0x0,if_pos ⟨by omega,by omega⟩,goLp_of L1,G45.behind1x2]
 ·cases hr
end Go.Sd
namespace Go.Sd
open Go Go.Cm Go.Proofs Go.Sc
set_option maxRecDepth 100000
namespace C59
noncomputable def X:Fx:=⟨Tryz.prog,W2,8,2⟩
theorem start {β:Type} (i:Int) (ns:List D) (k:List TV→List TV→Option β):evalF Tryz.prog W2 Tryz.f59 [.d true 0 (D.int .i64 i),.d true 0 (D.pt 0 (D.sl 0 ns))] k=if decide (i<0)=true then k [.d false 0 (D.bool true)] []else if(0:Int)≤(ns.length:Int)then k [.d false 0 (D.bool (decide (i≥IntKind.wrap .i64 ((1:Int)*(2:Int) ^ min (Int.toNat (ns.length:Int)) 64))))] []else none:=by kernel_rfl
end C59
namespace C70
noncomputable def X:Fx:=⟨Tryz.prog,W2,8,2⟩
theorem start {β:Type} (i:Int) (op:ByteArray) (nm:ByteArray) (ks:List D) (p:Int) (k:List TV→List TV→Option β):evalF Tryz.prog W2 Tryz.f70 [.d true 0 (D.int .i64 i),.d true 0 (D.pt 5 (D.ag [D.str op,D.str nm,D.sl 5 ks,D.int .i64 p]))] k=k [.d false 0 (D.bool (op.toList==[116,114,117,101]))] []:=by kernel_rfl
end C70
namespace C98
noncomputable def X:Fx:=⟨Tryz.prog,W2,16,3⟩
theorem start {β:Type} (i:Int) (ns:List D) (al:List D) (bk:Int) (kk:Int) (k:List TV→List TV→Option β):evalF Tryz.prog W2 Tryz.f98 [.d true 0 (D.int .i64 i),.d true 0 (D.pt 0 (D.pt 4 (D.ag [D.sl 0 ns,D.sl 0 al,D.int .i64 bk]))),.d true 0 (D.pt 0 (D.int .i64 kk))] k=if 0≤i then match al[i.toNat]? with
   |some x2=>match x2 with
    |D.int j3 m4=>if j3=IntKind.i64 then if 0≤kk then k [.d false 0 (D.bool (IntKind.wrap .i64 (↑(Int.toNat ((match m4,(2:Int) ^ min kk.toNat 64 with
     |(0:Int),x=>(0:Int)
     |Int.ofNat m,Int.ofNat n=>Int.ofNat (m / n)
     |Int.ofNat (Nat.succ m),Int.negSucc n=>Int.negSucc (m / Nat.succ n)
     |Int.negSucc a,(0:Int)=>(0:Int)
     |Int.negSucc m,Int.ofNat (Nat.succ n)=>Int.negSucc (m / Nat.succ n)
     |Int.negSucc m,Int.negSucc n=>Int.ofNat (Nat.succ m / Nat.succ n)) % Int.ofNat 18446744073709551616)&&& 1):Int)==1))] []else none else none
    |x=>none
   |none=>none else none:=by kernel_rfl
end C98
namespace C99
noncomputable def X:Fx:=⟨Tryz.prog,W2,4,1⟩
theorem start {β:Type} (i:Int) (k:List TV→List TV→Option β):evalF Tryz.prog W2 Tryz.f99 [.d true 0 (D.int .i64 i)] k=k [.d false 0 (D.bool true)] []:=by kernel_rfl
end C99
namespace C100
noncomputable def X:Fx:=⟨Tryz.prog,W2,8,2⟩
theorem start {β:Type} (i:Int) (a:List D) (k:List TV→List TV→Option β):evalF Tryz.prog W2 Tryz.f100 [.d true 0 (D.int .i64 i),.d true 0 (D.pt 0 (D.sl 0 a))] k=if 0≤i then match a[i.toNat]? with
   |some x2=>match x2 with
    |D.bool b3=>k [.d false 0 (D.bool !b3)] []
    |x=>none
   |none=>none else none:=by kernel_rfl
end C100
namespace C102
noncomputable def X:Fx:=⟨Tryz.prog,W2,16,2⟩
theorem start {β:Type} (i:Int) (ns:List D) (al:List D) (bk:Int) (k:List TV→List TV→Option β):evalF Tryz.prog W2 Tryz.f102 [.d true 0 (D.pt 4 (D.ag [D.sl 0 ns,D.sl 0 al,D.int .i64 bk])),.d true 0 (D.int .i64 i)] k=if decide (IntKind.wrap .i64 (i+1)<(al.length:Int))=true then k [.d false 0 (D.int .i64 (IntKind.wrap .i64 (i+1)))] []else k [.d false 0 (D.int .i64 bk)] []:=by kernel_rfl
end C102
namespace C105
noncomputable def X:Fx:=⟨Tryz.prog,W2,16,3⟩
theorem start {β:Type} (i:Int) (a:List D) (b:List D) (k:List TV→List TV→Option β):evalF Tryz.prog W2 Tryz.f105 [.d true 0 (D.int .i64 i),.d true 0 (D.pt 0 (D.sl 0 a)),.d true 0 (D.pt 0 (D.sl 0 b))] k=if 0≤i then match a[i.toNat]? with
   |some x2=>match x2 with
    |D.bool b3=>if b3=true then if 0≤i then match b[i.toNat]? with
     |some x4=>match x4 with
      |D.bool b5=>k [.d false 0 (D.bool b5)] []
      |x=>none
     |none=>none else none else k [.d false 0 (D.bool false)] []
    |x=>none
   |none=>none else none:=by kernel_rfl
end C105
namespace C106
noncomputable def X:Fx:=⟨Tryz.prog,W2,16,3⟩
theorem start {β:Type} (i:Int) (a:List D) (b:List D) (k:List TV→List TV→Option β):evalF Tryz.prog W2 Tryz.f106 [.d true 0 (D.int .i64 i),.d true 0 (D.pt 0 (D.sl 0 a)),.d true 0 (D.pt 0 (D.sl 0 b))] k=if 0≤i then match a[i.toNat]? with
   |some x2=>match x2 with
    |D.bool b3=>if b3=true then k [.d false 0 (D.bool true)] []else if 0≤i then match b[i.toNat]? with
     |some x4=>match x4 with
      |D.bool b5=>k [.d false 0 (D.bool b5)] []
      |x=>none
     |none=>none else none
    |x=>none
   |none=>none else none:=by kernel_rfl
end C106
namespace C107
noncomputable def X:Fx:=⟨Tryz.prog,W2,16,3⟩
theorem start {β:Type} (i:Int) (a:List D) (b:List D) (k:List TV→List TV→Option β):evalF Tryz.prog W2 Tryz.f107 [.d true 0 (D.int .i64 i),.d true 0 (D.pt 0 (D.sl 0 a)),.d true 0 (D.pt 0 (D.sl 0 b))] k=if 0≤i then match a[i.toNat]? with
   |some x2=>match x2 with
    |D.bool b3=>if(!b3)=true then k [.d false 0 (D.bool true)] []else if 0≤i then match b[i.toNat]? with
     |some x4=>match x4 with
      |D.bool b5=>k [.d false 0 (D.bool b5)] []
      |x=>none
     |none=>none else none
    |x=>none
   |none=>none else none:=by kernel_rfl
end C107
namespace C108
noncomputable def X:Fx:=⟨Tryz.prog,W2,16,3⟩
theorem start {β:Type} (i:Int) (a:List D) (b:List D) (k:List TV→List TV→Option β):evalF Tryz.prog W2 Tryz.f108 [.d true 0 (D.int .i64 i),.d true 0 (D.pt 0 (D.sl 0 a)),.d true 0 (D.pt 0 (D.sl 0 b))] k=if 0≤i then match a[i.toNat]? with
   |some x2=>match x2 with
    |D.bool b3=>if b3=true then k [.d false 0 (D.bool true)] []else if 0≤i then match b[i.toNat]? with
     |some x4=>match x4 with
      |D.bool b5=>k [.d false 0 (D.bool b5)] []
      |x=>none
     |none=>none else none
    |x=>none
   |none=>none else none:=by kernel_rfl
end C108
namespace C110
noncomputable def X:Fx:=⟨Tryz.prog,W2,64,4⟩
theorem start {β:Type} (i:Int) (later:Bool) (a:List D) (b:List D) (k:List TV→List TV→Option β):evalF Tryz.prog W2 Tryz.f110 [.d true 0 (D.int .i64 i),.d true 0 (D.bool later),.d true 0 (D.pt 0 (D.sl 0 a)),.d true 0 (D.pt 0 (D.sl 0 b))] k=if 0≤i then match a[i.toNat]? with
   |some x2=>match x2 with
    |D.bool b3=>if b3=true then if 0≤i then match b[i.toNat]? with
     |some x4=>match x4 with
      |D.bool b5=>if b5=true then k [.d false 0 (D.bool true)] []else k [.d false 0 (D.bool later)] []
      |x=>none
     |none=>none else none else k [.d false 0 (D.bool false)] []
    |x=>none
   |none=>none else none:=by kernel_rfl
end C110
namespace C120
noncomputable def X:Fx:=⟨Tryz.prog,W2,64,4⟩
theorem start {β:Type} (i:Int) (later:Bool) (a:List D) (b:List D) (k:List TV→List TV→Option β):evalF Tryz.prog W2 Tryz.f120 [.d true 0 (D.int .i64 i),.d true 0 (D.bool later),.d true 0 (D.pt 0 (D.sl 0 a)),.d true 0 (D.pt 0 (D.sl 0 b))] k=if 0≤i then match a[i.toNat]? with
   |some x2=>match x2 with
    |D.bool b3=>if b3=true then k [.d false 0 (D.bool true)] []else if 0≤i then match b[i.toNat]? with
     |some x4=>match x4 with
      |D.bool b5=>if b5=true then k [.d false 0 (D.bool later)] []else k [.d false 0 (D.bool false)] []
      |x=>none
     |none=>none else none
    |x=>none
   |none=>none else none:=by kernel_rfl
end C120
namespace C121
noncomputable def X:Fx:=⟨Tryz.prog,W2,32,3⟩
theorem start {β:Type} (i:Int) (later:Bool) (a:List D) (k:List TV→List TV→Option β):evalF Tryz.prog W2 Tryz.f121 [.d true 0 (D.int .i64 i),.d true 0 (D.bool later),.d true 0 (D.pt 0 (D.sl 0 a))] k=if 0≤i then match a[i.toNat]? with
   |some x2=>match x2 with
    |D.bool b3=>if b3=true then k [.d false 0 (D.bool later)] []else k [.d false 0 (D.bool false)] []
    |x=>none
   |none=>none else none:=by kernel_rfl
end C121
namespace C122
noncomputable def X:Fx:=⟨Tryz.prog,W2,8,2⟩
theorem start {β:Type} (i:Int) (t:Bool) (k:List TV→List TV→Option β):evalF Tryz.prog W2 Tryz.f122 [.d true 0 (D.int .i64 i),.d true 0 (D.pt 0 (D.bool t))] k=k [.d false 0 (D.bool t)] []:=by kernel_rfl
end C122
end Go.Sd
namespace Go.Sc
open Go Go.Cm
def bAt (xs:List D) (i:Int):Option Bool:=if 0≤i then(match xs[i.toNat]? with|some x=>(match x with|.bool b=>some b|_=>none)|none=>none)else none
def iAt (xs:List D) (i:Int):Option Int:=if 0≤i then(match xs[i.toNat]? with|some x=>(match x with|.int .i64 b=>some b|_=>none)|none=>none)else none
def nxt (n:Nat) (bk i:Int):Int:=if IntKind.wrap .i64 (i+1)<n then IntKind.wrap .i64 (i+1)else bk
def bitA (m k:Int):Bool:=IntKind.wrap .i64 (((m.fdiv (2 ^ min k.toNat 64)) % 18446744073709551616).toNat&&& 1:Nat)==1
def badI (n:Nat) (i:Int):Bool:=decide (i<0)||decide (i≥IntKind.wrap .i64 (1*2 ^ min n 64))
def sem1 (g:Nat) (i:Int) (sh:Nat) (x:D):Option Bool:=
 if g=59 then(match sh,x with|0,.sl 0 ns=>some (badI ns.length i)|_,_=>none)
 else if g=70 then(match sh,x with|5,.ag [.str op,.str _,.sl 5 _,.int .i64 _]=>some (op.toList==[116,114,117,101])|_,_=>none)
 else if g=100 then(match sh,x with|0,.sl 0 a=>(bAt a i).map (!·)|_,_=>none)
 else if g=122 then(match sh,x with|0,.bool t=>some t|_,_=>none)
 else none
def sem2 (g:Nat) (i:Int) (x y:D):Option Bool:=
 if g=98 then(match x,y with|.pt 4 (.ag [.sl 0 _,.sl 0 al,.int .i64 _]),.int .i64 k=>if 0≤k then(iAt al i).map (bitA · k)else none|_,_=>none)
 else if g=101 then(match x,y with|.sl 0 a,.pt 4 (.ag [.sl 0 _,.sl 0 al,.int .i64 bk])=>bAt a (nxt al.length bk i)|_,_=>none)
 else match x,y with
  |.sl 0 a,.sl 0 b=>
   if g=105 then(bAt a i).bind fun v=>if v then bAt b i else some false
   else if g=106 then(bAt a i).bind fun v=>if v then some true else bAt b i
   else if g=107 then(bAt a i).bind fun v=>if v then bAt b i else some true
   else if g=108 then(bAt a i).bind fun v=>if v then some true else bAt b i
   else none
  |_,_=>none
def semB (g:Nat) (args:List TV):Option Bool:=
 match args with
 |[.d true 0 (.int .i64 i)]=>if g=99 then some true else none
 |[.d true 0 (.int .i64 i),.d true 0 (.pt sh x)]=>sem1 g i sh x
 |[.d true 0 (.int .i64 i),.d true 0 (.pt 0 x),.d true 0 (.pt 0 y)]=>sem2 g i x y
 |_=>none
def now1 (g:Nat) (i:Int) (l:Bool) (x:D):Option Bool:=
 if g=121 then(match x with|.sl 0 a=>(bAt a i).bind fun v=>if v then some l else some false|_=>none)else none
def now2 (g:Nat) (i:Int) (l:Bool) (x y:D):Option Bool:=
 match x,y with
 |.sl 0 a,.sl 0 b=>
  if g=110 then(bAt a i).bind fun v=>if v then(bAt b i).bind fun u=>if u then some true else some l else some false
  else if g=120 then(bAt a i).bind fun v=>if v then some true else(bAt b i).bind fun u=>if u then some l else some false
  else none
 |_,_=>none
def nowB (g:Nat) (args:List TV):Option Bool:=
 match args with
 |[.d true 0 (.int .i64 i),.d true 0 (.bool l),.d true 0 (.pt 0 x)]=>now1 g i l x
 |[.d true 0 (.int .i64 i),.d true 0 (.bool l),.d true 0 (.pt 0 x),.d true 0 (.pt 0 y)]=>now2 g i l x y
 |_=>none
theorem bAt_ok {xs:List D} {i:Int} {b:Bool} (h:bAt xs i=some b):0≤i∧xs[i.toNat]? =some (.bool b):=by
 unfold bAt at h
 split at h
 ·rename_i h0
  split at h
  ·rename_i x hx
   split at h
   ·cases h;exact⟨h0,hx⟩
   ·cases h
  ·cases h
 ·cases h
theorem iAt_ok {xs:List D} {i:Int} {b:Int} (h:iAt xs i=some b):0≤i∧xs[i.toNat]? =some (.int .i64 b):=by
 unfold iAt at h
 split at h
 ·rename_i h0
  split at h
  ·rename_i x hx
   split at h
   ·cases h;exact⟨h0,hx⟩
   ·cases h
  ·cases h
 ·cases h
end Go.Sc
namespace Go.Sd
open Go Go.Cm Go.Proofs Go.Sc
def cClo {β:Type} (g:FuncId) (args:List TV) (k:List TV→List TV→Option β):Option β:=
 match semB g args with|some b=>k [.d false 0 (.bool b)] []|none=>none
def cNow {β:Type} (g:FuncId) (args:List TV) (k:List TV→List TV→Option β):Option β:=
 match nowB g args with|some b=>k [.d false 0 (.bool b)] []|none=>none
def cNext {β:Type} (args:List TV) (k:List TV→List TV→Option β):Option β:=
 match args with
 |[.d true 0 (.pt 4 (.ag [.sl 0 ns,.sl 0 al,.int .i64 bk])),.d true 0 (.int .i64 i)]=>k [.d false 0 (.int .i64 (nxt al.length bk i))] []
 |_=>none
def W3:Env:=W2.add 102 io0 cNext
def WC:Env:=⟨fun g args k=>cClo g args k,fun _ _=>false⟩
end Go.Sd
namespace Go.Sd
open Go Go.Cm Go.Proofs Go.Sc
set_option maxRecDepth 100000
namespace C101
theorem start {β:Type} (i:Int) (a:List D) (ns:List D) (al:List D) (bk:Int) (k:List TV→List TV→Option β):evalF Tryz.prog W3 Tryz.f101 [.d true 0 (D.int .i64 i),.d true 0 (D.pt 0 (D.sl 0 a)),.d true 0 (D.pt 0 (D.pt 4 (D.ag [D.sl 0 ns,D.sl 0 al,D.int .i64 bk])))] k=if 0≤nxt al.length bk i then match a[Int.toNat (nxt al.length bk i)]? with
   |some x2=>match x2 with
    |D.bool b3=>k [.d false 0 (D.bool b3)] []
    |x=>none
   |none=>none else none:=by kernel_rfl
end C101
namespace E0
noncomputable def X:Fx:=⟨Tryz.prog,WC,16,2⟩
def s0 (al:List D) (f:Nat) (x11:List D) (x12:Int):S:=⟨Tm.mk 26 [(1,.d true 0 (D.fn f [])),(5,.own false 0 x11),(14,.d false 0 (D.int .i64 (↑(List.length (List.replicate (Int.toNat (al.length:Int)) (D.bool false))):Int))),(15,.d false 0 (D.int .i64 x12))],[]⟩
def e0x0 (x25:List D):S:=⟨Tm.mk 26 [(5,.own false 0 x25)],[]⟩
noncomputable abbrev L0:S→Option (S ⊕ (Ex×S)):=roundK X [(0,32)] (sub [1,1,0,1,0,0] (body Tryz.f69))
theorem start {β:Type} (ns:List D) (al:List D) (bk:Int) (f:Nat) (k:List TV→List TV→Option β):evalF Tryz.prog WC Tryz.f69 [.d true 0 (D.pt 4 (D.ag [D.sl 0 ns,D.sl 0 al,D.int .i64 bk])),.d true 0 (D.fn f [])] k=if(0:Int)≤(al.length:Int)∧(al.length:Int)≤(al.length:Int)∧(al.length:Int)≤34359738368 then goLp X [(0,32)] (sub [1,1,0,1,0,0] (body Tryz.f69)) [Kf.block 0 32,Kf.seq [] (sub [1,1,1] (body Tryz.f69)) 16] (finK Tryz.prog Tryz.f69 [.d true 0 (D.pt 4 (D.ag [D.sl 0 ns,D.sl 0 al,D.int .i64 bk])),.d true 0 (D.fn f [])] k) (s0 al f (List.replicate (Int.toNat (al.length:Int)) (D.bool false)) (0:Int))else none:=by kernel_rfl
theorem round0 (al:List D) (f:Nat) (x11:List D) (x12:Int):roundK X [(0,32)] (sub [1,1,0,1,0,0] (body Tryz.f69)) (s0 al f x11 x12)=if decide (x12<(↑(List.length (List.replicate (Int.toNat (al.length:Int)) (D.bool false))):Int))=true then match semB f [.d true 0 (D.int .i64 x12)]with
   |some b34=>if 0≤x12∧x12<(x11.length:Int)then some (Sum.inl (s0 al f (List.set x11 x12.toNat (D.bool b34)) (IntKind.wrap .i64 (x12+1))))else none
   |none=>none else some (Sum.inr (Ex.exit 0,e0x0 x11)):=by kernel_rfl
theorem behind0x0 {β:Type} (ns:List D) (al:List D) (bk:Int) (f:Nat) (x25:List D) (k:List TV→List TV→Option β):applyK X (finK Tryz.prog Tryz.f69 [.d true 0 (D.pt 4 (D.ag [D.sl 0 ns,D.sl 0 al,D.int .i64 bk])),.d true 0 (D.fn f [])] k) [Kf.block 0 32,Kf.seq [] (sub [1,1,1] (body Tryz.f69)) 16] (Ex.exit 0) (e0x0 x25)=k [.own false 0 x25] []:=by kernel_rfl
end E0
namespace E1
noncomputable def X:Fx:=⟨Tryz.prog,WC,16,2⟩
def s0 (al:List D) (f:Nat) (sh:Nat) (x:D) (x11:List D) (x12:Int):S:=⟨Tm.mk 26 [(1,.d true 0 (D.fn f [D.pt sh x])),(5,.own false 0 x11),(14,.d false 0 (D.int .i64 (↑(List.length (List.replicate (Int.toNat (al.length:Int)) (D.bool false))):Int))),(15,.d false 0 (D.int .i64 x12))],[]⟩
def e0x0 (x25:List D):S:=⟨Tm.mk 26 [(5,.own false 0 x25)],[]⟩
noncomputable abbrev L0:S→Option (S ⊕ (Ex×S)):=roundK X [(0,32)] (sub [1,1,0,1,0,0] (body Tryz.f69))
theorem start {β:Type} (ns:List D) (al:List D) (bk:Int) (f:Nat) (sh:Nat) (x:D) (k:List TV→List TV→Option β):evalF Tryz.prog WC Tryz.f69 [.d true 0 (D.pt 4 (D.ag [D.sl 0 ns,D.sl 0 al,D.int .i64 bk])),.d true 0 (D.fn f [D.pt sh x])] k=if(0:Int)≤(al.length:Int)∧(al.length:Int)≤(al.length:Int)∧(al.length:Int)≤34359738368 then goLp X [(0,32)] (sub [1,1,0,1,0,0] (body Tryz.f69)) [Kf.block 0 32,Kf.seq [] (sub [1,1,1] (body Tryz.f69)) 16] (finK Tryz.prog Tryz.f69 [.d true 0 (D.pt 4 (D.ag [D.sl 0 ns,D.sl 0 al,D.int .i64 bk])),.d true 0 (D.fn f [D.pt sh x])] k) (s0 al f sh x (List.replicate (Int.toNat (al.length:Int)) (D.bool false)) (0:Int))else none:=by kernel_rfl
theorem round0 (al:List D) (f:Nat) (sh:Nat) (x:D) (x11:List D) (x12:Int):roundK X [(0,32)] (sub [1,1,0,1,0,0] (body Tryz.f69)) (s0 al f sh x x11 x12)=if decide (x12<(↑(List.length (List.replicate (Int.toNat (al.length:Int)) (D.bool false))):Int))=true then match semB f [.d true 0 (D.int .i64 x12),.d true 0 (D.pt sh x)]with
   |some b34=>if 0≤x12∧x12<(x11.length:Int)then some (Sum.inl (s0 al f sh x (List.set x11 x12.toNat (D.bool b34)) (IntKind.wrap .i64 (x12+1))))else none
   |none=>none else some (Sum.inr (Ex.exit 0,e0x0 x11)):=by kernel_rfl
theorem behind0x0 {β:Type} (ns:List D) (al:List D) (bk:Int) (f:Nat) (sh:Nat) (x:D) (x25:List D) (k:List TV→List TV→Option β):applyK X (finK Tryz.prog Tryz.f69 [.d true 0 (D.pt 4 (D.ag [D.sl 0 ns,D.sl 0 al,D.int .i64 bk])),.d true 0 (D.fn f [D.pt sh x])] k) [Kf.block 0 32,Kf.seq [] (sub [1,1,1] (body Tryz.f69)) 16] (Ex.exit 0) (e0x0 x25)=k [.own false 0 x25] []:=by kernel_rfl
end E1
namespace E2
noncomputable def X:Fx:=⟨Tryz.prog,WC,16,2⟩
def s0 (al:List D) (f:Nat) (x:D) (y:D) (x11:List D) (x12:Int):S:=⟨Tm.mk 26 [(1,.d true 0 (D.fn f [D.pt 0 x,D.pt 0 y])),(5,.own false 0 x11),(14,.d false 0 (D.int .i64 (↑(List.length (List.replicate (Int.toNat (al.length:Int)) (D.bool false))):Int))),(15,.d false 0 (D.int .i64 x12))],[]⟩
def e0x0 (x25:List D):S:=⟨Tm.mk 26 [(5,.own false 0 x25)],[]⟩
noncomputable abbrev L0:S→Option (S ⊕ (Ex×S)):=roundK X [(0,32)] (sub [1,1,0,1,0,0] (body Tryz.f69))
theorem start {β:Type} (ns:List D) (al:List D) (bk:Int) (f:Nat) (x:D) (y:D) (k:List TV→List TV→Option β):evalF Tryz.prog WC Tryz.f69 [.d true 0 (D.pt 4 (D.ag [D.sl 0 ns,D.sl 0 al,D.int .i64 bk])),.d true 0 (D.fn f [D.pt 0 x,D.pt 0 y])] k=if(0:Int)≤(al.length:Int)∧(al.length:Int)≤(al.length:Int)∧(al.length:Int)≤34359738368 then goLp X [(0,32)] (sub [1,1,0,1,0,0] (body Tryz.f69)) [Kf.block 0 32,Kf.seq [] (sub [1,1,1] (body Tryz.f69)) 16] (finK Tryz.prog Tryz.f69 [.d true 0 (D.pt 4 (D.ag [D.sl 0 ns,D.sl 0 al,D.int .i64 bk])),.d true 0 (D.fn f [D.pt 0 x,D.pt 0 y])] k) (s0 al f x y (List.replicate (Int.toNat (al.length:Int)) (D.bool false)) (0:Int))else none:=by kernel_rfl
theorem round0 (al:List D) (f:Nat) (x:D) (y:D) (x11:List D) (x12:Int):roundK X [(0,32)] (sub [1,1,0,1,0,0] (body Tryz.f69)) (s0 al f x y x11 x12)=if decide (x12<(↑(List.length (List.replicate (Int.toNat (al.length:Int)) (D.bool false))):Int))=true then match semB f [.d true 0 (D.int .i64 x12),.d true 0 (D.pt 0 x),.d true 0 (D.pt 0 y)]with
   |some b34=>if 0≤x12∧x12<(x11.length:Int)then some (Sum.inl (s0 al f x y (List.set x11 x12.toNat (D.bool b34)) (IntKind.wrap .i64 (x12+1))))else none
   |none=>none else some (Sum.inr (Ex.exit 0,e0x0 x11)):=by kernel_rfl
theorem behind0x0 {β:Type} (ns:List D) (al:List D) (bk:Int) (f:Nat) (x:D) (y:D) (x25:List D) (k:List TV→List TV→Option β):applyK X (finK Tryz.prog Tryz.f69 [.d true 0 (D.pt 4 (D.ag [D.sl 0 ns,D.sl 0 al,D.int .i64 bk])),.d true 0 (D.fn f [D.pt 0 x,D.pt 0 y])] k) [Kf.block 0 32,Kf.seq [] (sub [1,1,1] (body Tryz.f69)) 16] (Ex.exit 0) (e0x0 x25)=k [.own false 0 x25] []:=by kernel_rfl
end E2
end Go.Sd
namespace Go.Sd
open Go Go.Cm Go.Proofs Go.Sc
set_option maxRecDepth 100000
theorem envw3:EnvOk glS Tryz.prog W3:=envw2.fn mixed Tryz.func102 (by kernel_rfl) fun β args k r hr=>by
 unfold cNext at hr
 split at hr
 ·rename_i ns al bk i
  refine⟨_,_,hr,fun q=>?_⟩
  rw[C102.start]
  unfold nxt
  by_cases h:IntKind.wrap .i64 (i+1)<(al.length:Int)
  ·rw[if_pos (by simpa using h),if_pos h]
  ·rw[if_neg (by simpa using h),if_neg h]
 ·cases hr
theorem clo {E:Env} (hE:EnvOk glS Tryz.prog E) {g:FuncId} {fn:Func} (hf:Tryz.prog.funcs[g]? =some fn) (hn:(fn.name== "runtime.NumGoroutine")=false) {args:List TV} {b:Bool}
  (h:evalF Tryz.prog E fn args (fun a b=>some (a,b))=some ([.d false 0 (.bool b)],[])):Valid glS Tryz.prog g args [.d false 0 (.bool b)] []:=valid_of hE mixed hf hn h
theorem sem1_ok {g:Nat} {i:Int} {sh:Nat} {x:D} {b:Bool} (h:sem1 g i sh x=some b):Valid glS Tryz.prog g [.d true 0 (.int .i64 i),.d true 0 (.pt sh x)] [.d false 0 (.bool b)] []:=by
 unfold sem1 at h
 split at h
 ·rename_i e;subst e
  split at h
  ·rename_i ns
   cases h
   refine clo envw2 Tryz.func59 (by kernel_rfl) ?_
   rw[C59.start]
   unfold badI
   by_cases h0:i<0
   ·rw[if_pos (by simpa using h0)];simp[h0]
   ·rw[if_neg (by simpa using h0),if_pos (by omega)]
    simp[h0]
  ·cases h
 ·split at h
  ·rename_i e;subst e
   split at h
   ·rename_i op nm ks p
    cases h
    exact clo envw2 Tryz.func70 (by kernel_rfl) (by rw[C70.start])
   ·cases h
  ·split at h
   ·rename_i e;subst e
    split at h
    ·rename_i a
     cases ha:bAt a i with
     |none=>rw[ha]at h;cases h
     |some v=>
      rw[ha]at h;cases h
      obtain⟨h0,h1⟩:=bAt_ok ha
      exact clo envw2 Tryz.func100 (by kernel_rfl) (by rw[C100.start,if_pos h0];simp only[h1])
    ·cases h
   ·split at h
    ·rename_i e;subst e
     split at h
     ·cases h
      exact clo envw2 Tryz.func122 (by kernel_rfl) (by rw[C122.start])
     ·cases h
    ·cases h
theorem sem2_ok {g:Nat} {i:Int} {x y:D} {b:Bool} (h:sem2 g i x y=some b):Valid glS Tryz.prog g [.d true 0 (.int .i64 i),.d true 0 (.pt 0 x),.d true 0 (.pt 0 y)] [.d false 0 (.bool b)] []:=by
 unfold sem2 at h
 split at h
 ·rename_i e;subst e
  split at h
  ·rename_i ns al bk k
   split at h
   ·rename_i hk
    cases ha:iAt al i with
    |none=>rw[ha]at h;cases h
    |some m=>
     rw[ha]at h
     obtain⟨h0,h1⟩:=iAt_ok ha
     have e:b=bitA m k:=by simpa using h.symm
     subst e
     refine clo envw2 Tryz.func98 (by kernel_rfl) ?_
     rw[C98.start,if_pos h0]
     simp only[h1,if_true,if_pos hk]
     rfl
   ·cases h
  ·cases h
 ·split at h
  ·rename_i e;subst e
   split at h
   ·rename_i a ns al bk
    obtain⟨h0,h1⟩:=bAt_ok h
    exact clo envw3 Tryz.func101 (by kernel_rfl) (by rw[C101.start,if_pos h0];simp only[h1])
   ·cases h
  ·split at h
   ·rename_i a c
    have fin:∀v,bAt a i=some v→0≤i∧a[i.toNat]? =some (.bool v):=fun v h=>bAt_ok h
    have fin2:∀v,bAt c i=some v→0≤i∧c[i.toNat]? =some (.bool v):=fun v h=>bAt_ok h
    split at h
    ·rename_i e;subst e
     refine clo envw2 Tryz.func105 (by kernel_rfl) ?_
     rw[C105.start]
     cases ha:bAt a i with
     |none=>rw[ha]at h;cases h
     |some v=>
      rw[ha]at h
      obtain⟨h0,h1⟩:=fin v ha
      rw[if_pos h0];simp only[h1]
      cases v with
      |true=>obtain⟨_,h2⟩:=fin2 b h;simp only[if_true,if_pos h0,h2]
      |false=>cases h;rfl
    ·split at h
     ·rename_i e;subst e
      refine clo envw2 Tryz.func106 (by kernel_rfl) ?_
      rw[C106.start]
      cases ha:bAt a i with
      |none=>rw[ha]at h;cases h
      |some v=>
       rw[ha]at h
       obtain⟨h0,h1⟩:=fin v ha
       rw[if_pos h0];simp only[h1]
       cases v with
       |true=>cases h;rfl
       |false=>obtain⟨_,h2⟩:=fin2 b h;simp only[Bool.false_eq_true,if_false,if_pos h0,h2]
     ·split at h
      ·rename_i e;subst e
       refine clo envw2 Tryz.func107 (by kernel_rfl) ?_
       rw[C107.start]
       cases ha:bAt a i with
       |none=>rw[ha]at h;cases h
       |some v=>
        rw[ha]at h
        obtain⟨h0,h1⟩:=fin v ha
        rw[if_pos h0];simp only[h1]
        cases v with
        |false=>cases h;rfl
        |true=>obtain⟨_,h2⟩:=fin2 b h;simp only[Bool.not_true,Bool.false_eq_true,if_false,if_pos h0,h2]
      ·split at h
       ·rename_i e;subst e
        refine clo envw2 Tryz.func108 (by kernel_rfl) ?_
        rw[C108.start]
        cases ha:bAt a i with
        |none=>rw[ha]at h;cases h
        |some v=>
         rw[ha]at h
         obtain⟨h0,h1⟩:=fin v ha
         rw[if_pos h0];simp only[h1]
         cases v with
         |true=>cases h;rfl
         |false=>obtain⟨_,h2⟩:=fin2 b h;simp only[Bool.false_eq_true,if_false,if_pos h0,h2]
       ·cases h
   ·cases h
theorem semB_ok {g:FuncId} {args:List TV} {b:Bool} (h:semB g args=some b):Valid glS Tryz.prog g args [.d false 0 (.bool b)] []:=by
 unfold semB at h
 split at h
 ·split at h
  ·rename_i e;subst e
   cases h
   exact clo envw2 Tryz.func99 (by kernel_rfl) (by rw[C99.start])
  ·cases h
 ·exact sem1_ok h
 ·exact sem2_ok h
 ·cases h
theorem nowB_ok {g:FuncId} {args:List TV} {b:Bool} (h:nowB g args=some b):Valid glS Tryz.prog g args [.d false 0 (.bool b)] []:=by
 unfold nowB at h
 split at h
 ·rename_i i l x
  unfold now1 at h
  split at h
  ·rename_i e;subst e
   split at h
   ·rename_i a
    refine clo envw2 Tryz.func121 (by kernel_rfl) ?_
    rw[C121.start]
    cases ha:bAt a i with
    |none=>rw[ha]at h;cases h
    |some v=>
     rw[ha]at h
     obtain⟨h0,h1⟩:=bAt_ok ha
     rw[if_pos h0];simp only[h1]
     cases v with
     |true=>cases h;rfl
     |false=>cases h;rfl
   ·cases h
  ·cases h
 ·rename_i i l x y
  unfold now2 at h
  split at h
  ·rename_i a c
   split at h
   ·rename_i e;subst e
    refine clo envw2 Tryz.func110 (by kernel_rfl) ?_
    rw[C110.start]
    cases ha:bAt a i with
    |none=>rw[ha]at h;cases h
    |some v=>
     rw[ha]at h
     obtain⟨h0,h1⟩:=bAt_ok ha
     rw[if_pos h0];simp only[h1]
     cases v with
     |false=>cases h;rfl
     |true=>
      cases hc:bAt c i with
      |none=>simp only[hc,Option.bind_some,if_true,Option.bind_none]at h;cases h
      |some u=>
       simp only[hc,Option.bind_some,if_true]at h
       obtain⟨_,h2⟩:=bAt_ok hc
       simp only[if_true,if_pos h0,h2]
       cases u with
       |true=>cases h;rfl
       |false=>cases h;rfl
   ·split at h
    ·rename_i e;subst e
     refine clo envw2 Tryz.func120 (by kernel_rfl) ?_
     rw[C120.start]
     cases ha:bAt a i with
     |none=>rw[ha]at h;cases h
     |some v=>
      rw[ha]at h
      obtain⟨h0,h1⟩:=bAt_ok ha
      rw[if_pos h0];simp only[h1]
      cases v with
      |true=>cases h;rfl
      |false=>
       cases hc:bAt c i with
       |none=>simp only[hc,Option.bind_some,Bool.false_eq_true,if_false,Option.bind_none]at h;cases h
       |some u=>
        simp only[hc,Option.bind_some,Bool.false_eq_true,if_false]at h
        obtain⟨_,h2⟩:=bAt_ok hc
        simp only[Bool.false_eq_true,if_false,if_pos h0,h2]
        cases u with
        |true=>cases h;rfl
        |false=>cases h;rfl
    ·cases h
  ·cases h
 ·cases h
theorem envwc:EnvOk glS Tryz.prog WC:=by
 intro β g args k r hr
 change (cClo g args k=some r)at hr
 unfold cClo at hr
 split at hr
 ·rename_i b hb
  exact⟨_,_,hr,semB_ok hb⟩
 ·cases hr
end Go.Sd
namespace Go.Sc
open Go Go.Cm
def bD (l:List Bool):List D:=l.map .bool
def eachS (sem:Int→Option Bool):Nat→Nat→Option (List Bool)
 |_,0=>some []
 |i,m+1=>match sem i with|some b=>(eachS sem (i+1) m).map (b:: ·)|none=>none
def eachB (g:Nat) (cs:List TV) (n:Nat):Option (List Bool):=eachS (fun i=>semB g (.d true 0 (.int .i64 i)::cs)) 0 n
theorem bD_len (l:List Bool):(bD l).length=l.length:=by simp[bD]
end Go.Sc
namespace Go.Sd
open Go Go.Cm Go.Proofs Go.Sc
theorem each_loop {L:S→Option (S ⊕ (Ex×S))} {s:List D→Int→S} {e:List D→S} {sem:Int→Option Bool} {n:Nat} (hn:n≤34359738368)
  (hr:∀(xs:List D) (i:Int),L (s xs i)=if decide (i<(n:Int))=true then(match sem i with|some b=>if 0≤i∧i<(xs.length:Int)then some (.inl (s (xs.set i.toNat (.bool b)) (IntKind.wrap .i64 (i+1))))else none|none=>none)else some (.inr (.exit 0,e xs))):
  ∀(m i:Nat) (done bs:List Bool),done.length=i→i+m=n→eachS sem i m=some bs→Lp L (s (bD done++List.replicate m (.bool false)) i)=some (.exit 0,e (bD (done++bs)))
 |0,i,done,bs,h1,h2,h3=>by
  simp only[eachS,Option.some.injEq]at h3
  subst h3
  have:=hr (bD done++List.replicate 0 (.bool false)) i
  rw[if_neg (by simp;omega)]at this
  simpa using Lp_exit this
 |m+1,i,done,bs,h1,h2,h3=>by
  simp only[eachS]at h3
  split at h3
  ·rename_i b hb
   cases hm:eachS sem (i+1) m with
   |none=>rw[hm]at h3;cases h3
   |some l=>
    rw[hm]at h3
    simp only[Option.map_some,Option.some.injEq]at h3
    subst h3
    have ih:=each_loop hn hr m (i+1) (done++[b]) l (by simp[h1]) (by omega) hm
    have:=hr (bD done++List.replicate (m+1) (.bool false)) i
    rw[if_pos (by simp;omega),hb]at this
    simp only at this
    rw[if_pos (by simp[bD_len];omega),wrap_id (by omega) (by omega)]at this
    have e1:(bD done++List.replicate (m+1) (D.bool false)).set (i:Int).toNat (.bool b)=bD (done++[b])++List.replicate m (.bool false):=by
     rw[Int.toNat_natCast,List.set_append_right _ _ (by simp[bD_len,h1])]
     simp[bD_len,h1,List.replicate_succ,bD]
    rw[e1]at this
    have e2:bD (done++b::l)=bD ((done++[b])++l):=by simp
    rw[e2]
    exact Lp_step this ih
  ·cases h3
def cEach {β:Type} (args:List TV) (k:List TV→List TV→Option β):Option β:=
 match args with
 |[.d true 0 (.pt 4 (.ag [.sl 0 ns,.sl 0 al,.int .i64 bk])),.d true 0 (.fn f caps)]=>
  match caps with
  |[]=>chkK (al.length≤big) (match eachB f [] al.length with|some bs=>k [.own false 0 (bD bs)] []|none=>none)
  |[.pt sh x]=>chkK (al.length≤big) (match eachB f [.d true 0 (.pt sh x)] al.length with|some bs=>k [.own false 0 (bD bs)] []|none=>none)
  |[.pt 0 x,.pt 0 y]=>chkK (al.length≤big) (match eachB f [.d true 0 (.pt 0 x),.d true 0 (.pt 0 y)] al.length with|some bs=>k [.own false 0 (bD bs)] []|none=>none)
  |_=>none
 |_=>none
theorem each_fin {L:S→Option (S ⊕ (Ex×S))} {s:List D→Int→S} {e:List D→S} {g:Nat} {cs:List TV} {al:List D} {bs:List Bool} (hn:al.length≤big) (hb:eachB g cs al.length=some bs)
  (hr:∀(xs:List D) (i:Int),L (s xs i)=if decide (i<((List.replicate (Int.toNat (al.length:Int)) (D.bool false)).length:Int))=true then(match semB g (.d true 0 (.int .i64 i)::cs)with|some b=>if 0≤i∧i<(xs.length:Int)then some (.inl (s (xs.set i.toNat (.bool b)) (IntKind.wrap .i64 (i+1))))else none|none=>none)else some (.inr (.exit 0,e xs))):
  Lp L (s (List.replicate (Int.toNat (al.length:Int)) (.bool false)) 0)=some (.exit 0,e (bD bs)):=by
 have:=each_loop (L:=L) (s:=s) (e:=e) (sem:=fun i=>semB g (.d true 0 (.int .i64 i)::cs)) (n:=al.length) hn (fun xs i=>by rw[hr];simp) al.length 0 [] bs rfl (by omega) hb
 simpa[bD]using this
theorem each_if {n:Nat} (h:n≤big):(0:Int)≤(n:Int)∧(n:Int)≤(n:Int)∧(n:Int)≤(34359738368:Int):=by
 have:big=34359738368:=rfl
 omega
theorem envwe:EnvOk glS Tryz.prog (WC.add 69 io0 cEach):=envwc.fn mixed Tryz.func69 (by kernel_rfl) fun β args k r hr=>by
 unfold cEach at hr
 split at hr
 ·rename_i ns al bk f caps
  split at hr
  ·obtain⟨h0,hr⟩:=chkK_ok hr
   split at hr
   ·rename_i bs hb
    refine⟨_,_,hr,fun q=>?_⟩
    rw[E0.start,if_pos (each_if h0),goLp_of (each_fin (s:=E0.s0 al f) (e:=E0.e0x0) h0 hb fun xs i=>E0.round0 al f xs i),E0.behind0x0]
   ·cases hr
  ·rename_i sh x
   obtain⟨h0,hr⟩:=chkK_ok hr
   split at hr
   ·rename_i bs hb
    refine⟨_,_,hr,fun q=>?_⟩
    rw[E1.start,if_pos (each_if h0),goLp_of (each_fin (s:=E1.s0 al f sh x) (e:=E1.e0x0) h0 hb fun xs i=>E1.round0 al f sh x xs i),E1.behind0x0]
   ·cases hr
  ·rename_i x y
   obtain⟨h0,hr⟩:=chkK_ok hr
   split at hr
   ·rename_i bs hb
    refine⟨_,_,hr,fun q=>?_⟩
    rw[E2.start,if_pos (each_if h0),goLp_of (each_fin (s:=E2.s0 al f x y) (e:=E2.e0x0) h0 hb fun xs i=>E2.round0 al f x y xs i),E2.behind0x0]
   ·cases hr
  ·cases hr
 ·cases hr
def WA:Env:=⟨fun g args k=>match args with
 |.d t sh (.int q i)::rest=>cNow g (.d t sh (.int q i)::rest) k
 |args=>match Nat.beq g 69 with|true=>cEach args k|false=>match Nat.beq g 102 with|true=>cNext args k|false=>none,fun _ _=>false⟩
end Go.Sd
namespace Go.Sd
open Go Go.Cm Go.Proofs Go.Sc
set_option maxRecDepth 100000
namespace A1
noncomputable def X:Fx:=⟨Tryz.prog,WA,64,3⟩
def s0 (ns:List D) (al:List D) (bk:Int) (f:Nat) (x:D) (x27:List D) (x31:Int):S:=⟨Tm.mk 35 [(0,.d true 0 (D.pt 4 (D.ag [D.sl 0 ns,D.sl 0 al,D.int .i64 bk]))),(2,.d true 0 (D.fn f [D.pt 0 x])),(7,.own false 0 x27),(12,.d false 0 (D.int .i64 x31))],[]⟩
def s1 (ns:List D) (al:List D) (bk:Int) (f:Nat) (x:D) (x20:List D) (x21:Int) (x54:Int):S:=⟨Tm.mk 35 [(0,.d true 0 (D.pt 4 (D.ag [D.sl 0 ns,D.sl 0 al,D.int .i64 bk]))),(2,.d true 0 (D.fn f [D.pt 0 x])),(7,.own false 0 x20),(8,.d false 0 (D.int .i64 x21)),(12,.d false 0 (D.int .i64 x54))],[]⟩
def e1x2 (ns:List D) (al:List D) (bk:Int) (f:Nat) (x:D) (x45:List D) (x68:Int):S:=⟨Tm.mk 35 [(0,.d true 0 (D.pt 4 (D.ag [D.sl 0 ns,D.sl 0 al,D.int .i64 bk]))),(2,.d true 0 (D.fn f [D.pt 0 x])),(7,.own false 0 x45),(12,.d false 0 (D.int .i64 x68))],[]⟩
def e0x0 (x27:List D):S:=⟨Tm.mk 35 [(7,.own false 0 x27)],[]⟩
noncomputable abbrev L0:S→Option (S ⊕ (Ex×S)):=roundK X [(0,128)] (sub [1,1,0,1,0,0] (body Tryz.f109))
noncomputable abbrev L1:S→Option (S ⊕ (Ex×S)):=roundK X [(2,4229),(1,4229),(0,128)] (sub [1,1,0,1,0,0,1,1,0,0,1,0,0] (body Tryz.f109))
theorem start {β:Type} (ns:List D) (al:List D) (bk:Int) (t:Bool) (f:Nat) (x:D) (k:List TV→List TV→Option β):evalF Tryz.prog WA Tryz.f109 [.d true 0 (D.pt 4 (D.ag [D.sl 0 ns,D.sl 0 al,D.int .i64 bk])),.d true 0 (D.bool t),.d true 0 (D.fn f [D.pt 0 x])] k=if al.length≤34359738368 then match eachB 122 [.d true 0 (D.pt 0 (D.bool t))] al.length with
   |some bs73=>goLp X [(0,128)] (sub [1,1,0,1,0,0] (body Tryz.f109)) [Kf.block 0 128,Kf.seq [] (sub [1,1,1] (body Tryz.f109)) 64] (finK Tryz.prog Tryz.f109 [.d true 0 (D.pt 4 (D.ag [D.sl 0 ns,D.sl 0 al,D.int .i64 bk])),.d true 0 (D.bool t),.d true 0 (D.fn f [D.pt 0 x])] k) (s0 ns al bk f x (bD bs73) (0:Int))
   |none=>none else none:=by kernel_rfl
theorem round0 (ns:List D) (al:List D) (bk:Int) (f:Nat) (x:D) (x27:List D) (x31:Int):roundK X [(0,128)] (sub [1,1,0,1,0,0] (body Tryz.f109)) (s0 ns al bk f x x27 x31)=if decide (x31<2)=true then goLp X [(2,4229),(1,4229),(0,128)] (sub [1,1,0,1,0,0,1,1,0,0,1,0,0] (body Tryz.f109)) [Kf.block 2 4229,Kf.block 1 4229,Kf.seq [(0,128)] (sub [1,1,0,1,0,0,1,1,1] (body Tryz.f109)) 4229] (finR X [(0,128)] (sub [1,1,0,1,0,0] (body Tryz.f109))) (s1 ns al bk f x x27 (IntKind.wrap .i64 ((x27.length:Int) - 1)) x31)else some (Sum.inr (Ex.exit 0,e0x0 x27)):=by kernel_rfl
theorem round1 (ns:List D) (al:List D) (bk:Int) (f:Nat) (x:D) (x20:List D) (x21:Int) (x54:Int):roundK X [(2,4229),(1,4229),(0,128)] (sub [1,1,0,1,0,0,1,1,0,0,1,0,0] (body Tryz.f109)) (s1 ns al bk f x x20 x21 x54)=if decide (x21≥0)=true then if 0≤nxt al.length bk x21∧nxt al.length bk x21<(x20.length:Int)then match x20[Int.toNat (nxt al.length bk x21)]? with
   |some x81=>match x81 with
    |D.bool b82=>match nowB f [.d true 0 (D.int .i64 x21),.d true 0 (D.bool b82),.d true 0 (D.pt 0 x)]with
     |some b83=>if 0≤x21∧x21<(x20.length:Int)then some (Sum.inl (s1 ns al bk f x (List.set x20 x21.toNat (D.bool b83)) (IntKind.wrap .i64 (x21 - 1)) x54))else none
     |none=>none
    |x=>none
   |none=>none else none else some (Sum.inr (Ex.exit 2,e1x2 ns al bk f x x20 x54)):=by kernel_rfl
theorem behind1x2 (ns:List D) (al:List D) (bk:Int) (f:Nat) (x:D) (x45:List D) (x68:Int):applyK X (finR X [(0,128)] (sub [1,1,0,1,0,0] (body Tryz.f109))) [Kf.block 2 4229,Kf.block 1 4229,Kf.seq [(0,128)] (sub [1,1,0,1,0,0,1,1,1] (body Tryz.f109)) 4229] (Ex.exit 2) (e1x2 ns al bk f x x45 x68)=some (Sum.inl (s0 ns al bk f x x45 (IntKind.wrap .i64 (x68+1)))):=by kernel_rfl
theorem behind0x0 {β:Type} (ns:List D) (al:List D) (bk:Int) (t:Bool) (f:Nat) (x:D) (x27:List D) (k:List TV→List TV→Option β):applyK X (finK Tryz.prog Tryz.f109 [.d true 0 (D.pt 4 (D.ag [D.sl 0 ns,D.sl 0 al,D.int .i64 bk])),.d true 0 (D.bool t),.d true 0 (D.fn f [D.pt 0 x])] k) [Kf.block 0 128,Kf.seq [] (sub [1,1,1] (body Tryz.f109)) 64] (Ex.exit 0) (e0x0 x27)=k [.own false 0 x27] []:=by kernel_rfl
end A1
namespace A2
noncomputable def X:Fx:=⟨Tryz.prog,WA,64,3⟩
def s0 (ns:List D) (al:List D) (bk:Int) (f:Nat) (x:D) (y:D) (x27:List D) (x31:Int):S:=⟨Tm.mk 35 [(0,.d true 0 (D.pt 4 (D.ag [D.sl 0 ns,D.sl 0 al,D.int .i64 bk]))),(2,.d true 0 (D.fn f [D.pt 0 x,D.pt 0 y])),(7,.own false 0 x27),(12,.d false 0 (D.int .i64 x31))],[]⟩
def s1 (ns:List D) (al:List D) (bk:Int) (f:Nat) (x:D) (y:D) (x20:List D) (x21:Int) (x54:Int):S:=⟨Tm.mk 35 [(0,.d true 0 (D.pt 4 (D.ag [D.sl 0 ns,D.sl 0 al,D.int .i64 bk]))),(2,.d true 0 (D.fn f [D.pt 0 x,D.pt 0 y])),(7,.own false 0 x20),(8,.d false 0 (D.int .i64 x21)),(12,.d false 0 (D.int .i64 x54))],[]⟩
def e1x2 (ns:List D) (al:List D) (bk:Int) (f:Nat) (x:D) (y:D) (x45:List D) (x68:Int):S:=⟨Tm.mk 35 [(0,.d true 0 (D.pt 4 (D.ag [D.sl 0 ns,D.sl 0 al,D.int .i64 bk]))),(2,.d true 0 (D.fn f [D.pt 0 x,D.pt 0 y])),(7,.own false 0 x45),(12,.d false 0 (D.int .i64 x68))],[]⟩
def e0x0 (x27:List D):S:=⟨Tm.mk 35 [(7,.own false 0 x27)],[]⟩
noncomputable abbrev L0:S→Option (S ⊕ (Ex×S)):=roundK X [(0,128)] (sub [1,1,0,1,0,0] (body Tryz.f109))
noncomputable abbrev L1:S→Option (S ⊕ (Ex×S)):=roundK X [(2,4229),(1,4229),(0,128)] (sub [1,1,0,1,0,0,1,1,0,0,1,0,0] (body Tryz.f109))
theorem start {β:Type} (ns:List D) (al:List D) (bk:Int) (t:Bool) (f:Nat) (x:D) (y:D) (k:List TV→List TV→Option β):evalF Tryz.prog WA Tryz.f109 [.d true 0 (D.pt 4 (D.ag [D.sl 0 ns,D.sl 0 al,D.int .i64 bk])),.d true 0 (D.bool t),.d true 0 (D.fn f [D.pt 0 x,D.pt 0 y])] k=if al.length≤34359738368 then match eachB 122 [.d true 0 (D.pt 0 (D.bool t))] al.length with
   |some bs73=>goLp X [(0,128)] (sub [1,1,0,1,0,0] (body Tryz.f109)) [Kf.block 0 128,Kf.seq [] (sub [1,1,1] (body Tryz.f109)) 64] (finK Tryz.prog Tryz.f109 [.d true 0 (D.pt 4 (D.ag [D.sl 0 ns,D.sl 0 al,D.int .i64 bk])),.d true 0 (D.bool t),.d true 0 (D.fn f [D.pt 0 x,D.pt 0 y])] k) (s0 ns al bk f x y (bD bs73) (0:Int))
   |none=>none else none:=by kernel_rfl
theorem round0 (ns:List D) (al:List D) (bk:Int) (f:Nat) (x:D) (y:D) (x27:List D) (x31:Int):roundK X [(0,128)] (sub [1,1,0,1,0,0] (body Tryz.f109)) (s0 ns al bk f x y x27 x31)=if decide (x31<2)=true then goLp X [(2,4229),(1,4229),(0,128)] (sub [1,1,0,1,0,0,1,1,0,0,1,0,0] (body Tryz.f109)) [Kf.block 2 4229,Kf.block 1 4229,Kf.seq [(0,128)] (sub [1,1,0,1,0,0,1,1,1] (body Tryz.f109)) 4229] (finR X [(0,128)] (sub [1,1,0,1,0,0] (body Tryz.f109))) (s1 ns al bk f x y x27 (IntKind.wrap .i64 ((x27.length:Int) - 1)) x31)else some (Sum.inr (Ex.exit 0,e0x0 x27)):=by kernel_rfl
theorem round1 (ns:List D) (al:List D) (bk:Int) (f:Nat) (x:D) (y:D) (x20:List D) (x21:Int) (x54:Int):roundK X [(2,4229),(1,4229),(0,128)] (sub [1,1,0,1,0,0,1,1,0,0,1,0,0] (body Tryz.f109)) (s1 ns al bk f x y x20 x21 x54)=if decide (x21≥0)=true then if 0≤nxt al.length bk x21∧nxt al.length bk x21<(x20.length:Int)then match x20[Int.toNat (nxt al.length bk x21)]? with
   |some x81=>match x81 with
    |D.bool b82=>match nowB f [.d true 0 (D.int .i64 x21),.d true 0 (D.bool b82),.d true 0 (D.pt 0 x),.d true 0 (D.pt 0 y)]with
     |some b83=>if 0≤x21∧x21<(x20.length:Int)then some (Sum.inl (s1 ns al bk f x y (List.set x20 x21.toNat (D.bool b83)) (IntKind.wrap .i64 (x21 - 1)) x54))else none
     |none=>none
    |x=>none
   |none=>none else none else some (Sum.inr (Ex.exit 2,e1x2 ns al bk f x y x20 x54)):=by kernel_rfl
theorem behind1x2 (ns:List D) (al:List D) (bk:Int) (f:Nat) (x:D) (y:D) (x45:List D) (x68:Int):applyK X (finR X [(0,128)] (sub [1,1,0,1,0,0] (body Tryz.f109))) [Kf.block 2 4229,Kf.block 1 4229,Kf.seq [(0,128)] (sub [1,1,0,1,0,0,1,1,1] (body Tryz.f109)) 4229] (Ex.exit 2) (e1x2 ns al bk f x y x45 x68)=some (Sum.inl (s0 ns al bk f x y x45 (IntKind.wrap .i64 (x68+1)))):=by kernel_rfl
theorem behind0x0 {β:Type} (ns:List D) (al:List D) (bk:Int) (t:Bool) (f:Nat) (x:D) (y:D) (x27:List D) (k:List TV→List TV→Option β):applyK X (finK Tryz.prog Tryz.f109 [.d true 0 (D.pt 4 (D.ag [D.sl 0 ns,D.sl 0 al,D.int .i64 bk])),.d true 0 (D.bool t),.d true 0 (D.fn f [D.pt 0 x,D.pt 0 y])] k) [Kf.block 0 128,Kf.seq [] (sub [1,1,1] (body Tryz.f109)) 64] (Ex.exit 0) (e0x0 x27)=k [.own false 0 x27] []:=by kernel_rfl
end A2
end Go.Sd
set_option maxRecDepth 100000
namespace Go.Sc
open Go Go.Cm
def passS (now:Int→Bool→Option Bool) (n:Nat) (bk:Int):Nat→List Bool→Option (List Bool)
 |0,l=>some l
 |m+1,l=>if 0≤nxt n bk m then(match l[(nxt n bk m).toNat]? with
  |some later=>match now m later with
   |some b=>passS now n bk m (l.set m b)
   |none=>none
  |none=>none)else none
def alongS (now:Int→Bool→Option Bool) (n:Nat) (bk:Int) (t:Bool):Option (List Bool):=(passS now n bk n (List.replicate n t)).bind (passS now n bk n)
def alongB (g:Nat) (cs:List TV) (n:Nat) (bk:Int) (t:Bool):Option (List Bool):=alongS (fun i l=>nowB g (.d true 0 (.int .i64 i)::.d true 0 (.bool l)::cs)) n bk t
theorem passS_len {now:Int→Bool→Option Bool} {n:Nat} {bk:Int}:∀{m:Nat} {l l':List Bool},passS now n bk m l=some l'→l'.length=l.length
 |0,l,l',h=>by simp[passS]at h;subst h;rfl
 |m+1,l,l',h=>by
  simp only[passS]at h
  split at h
  ·split at h
   ·split at h
    ·rw[passS_len h,List.length_set]
    ·cases h
   ·cases h
  ·cases h
theorem eachS_const (t:Bool):∀(m i:Nat),eachS (fun _=>some t) i m=some (List.replicate m t)
 |0,i=>rfl
 |m+1,i=>by simp[eachS,eachS_const t m (i+1),List.replicate_succ]
theorem eachB122 (t:Bool) (n:Nat):eachB 122 [.d true 0 (.pt 0 (.bool t))] n=some (List.replicate n t):=by
 have:(fun i:Int=>semB 122 (.d true 0 (.int .i64 i)::[.d true 0 (.pt 0 (.bool t))]))=fun _=>some t:=by funext i;simp[semB,sem1]
 unfold eachB;rw[this];exact eachS_const t n 0
end Go.Sc
namespace Go.Sd
open Go Go.Cm Go.Proofs Go.Sc
theorem pass_loop {L:S→Option (S ⊕ (Ex×S))} {s:List D→Int→S} {e:List D→S} {now:Int→Bool→Option Bool} {n:Nat} {bk:Int} (hn:n≤34359738368)
  (hr:∀(xs:List D) (i:Int),L (s xs i)=if decide (i≥0)=true then
   (if 0≤nxt n bk i∧nxt n bk i<(xs.length:Int)then(match xs[(nxt n bk i).toNat]? with
    |some x=>match x with
     |.bool b=>match now i b with
      |some c=>if 0≤i∧i<(xs.length:Int)then some (.inl (s (xs.set i.toNat (.bool c)) (IntKind.wrap .i64 (i - 1))))else none
      |none=>none
     |_=>none
    |none=>none)else none)
   else some (.inr (.exit 2,e xs))):
  ∀(m:Nat) (l l':List Bool),l.length=n→m≤n→passS now n bk m l=some l'→Lp L (s (bD l) ((m:Int) - 1))=some (.exit 2,e (bD l'))
 |0,l,l',h1,h2,h3=>by
  simp only[passS,Option.some.injEq]at h3
  subst h3
  have:=hr (bD l) ((0:Nat) - 1)
  rw[if_neg (by decide)]at this
  exact Lp_exit this
 |m+1,l,l',h1,h2,h3=>by
  simp only[passS]at h3
  split at h3
  ·rename_i hp
   split at h3
   ·rename_i later hl
    split at h3
    ·rename_i b hb
     have ih:=pass_loop hn hr m (l.set m b) l' (by simp[h1]) (by omega) h3
     have:=hr (bD l) m
     have hlt:=(List.getElem?_eq_some_iff.1 hl).1
     have hd:(bD l)[(nxt n bk m).toNat]? =some (.bool later):=by simp[bD,hl]
     rw[if_pos (by simp),if_pos ⟨hp,by rw[bD_len];omega⟩,hd]at this
     simp only[hb]at this
     rw[if_pos ⟨by omega,by rw[bD_len];omega⟩,wrap_id (by omega) (by omega)]at this
     have e1:(bD l).set (m:Int).toNat (.bool b)=bD (l.set m b):=by simp[bD,List.map_set]
     rw[e1]at this
     rw[show(((m+1:Nat):Int) - 1)=(m:Int)from by omega]
     exact Lp_step this ih
    ·cases h3
   ·cases h3
  ·cases h3
def cAlong {β:Type} (args:List TV) (k:List TV→List TV→Option β):Option β:=
 match args with
 |[.d true 0 (.pt 4 (.ag [.sl 0 ns,.sl 0 al,.int .i64 bk])),.d true 0 (.bool t),.d true 0 (.fn f caps)]=>
  match caps with
  |[.pt 0 x]=>chkK (al.length≤big) (match alongB f [.d true 0 (.pt 0 x)] al.length bk t with|some bs=>k [.own false 0 (bD bs)] []|none=>none)
  |[.pt 0 x,.pt 0 y]=>chkK (al.length≤big) (match alongB f [.d true 0 (.pt 0 x),.d true 0 (.pt 0 y)] al.length bk t with|some bs=>k [.own false 0 (bD bs)] []|none=>none)
  |_=>none
 |_=>none
theorem envwa:EnvOk glS Tryz.prog WA:=by
 intro β g args k r hr
 simp only[WA]at hr
 split at hr
 ·rename_i t sh q i rest
  unfold cNow at hr
  split at hr
  ·rename_i b hb
   exact⟨_,_,hr,nowB_ok hb⟩
  ·cases hr
 ·split at hr
  ·rename_i e
   rw[Cm.beq_true]at e;subst e
   exact envwe β 69 _ k r hr
  ·split at hr
   ·rename_i e
    rw[Cm.beq_true]at e;subst e
    exact envw3 β 102 _ k r hr
   ·cases hr
theorem along_outer {L0:S→Option (S ⊕ (Ex×S))} {s:List D→Int→S} {e:List D→S} {a b c:List D} (h0:L0 (s a 0)=some (.inl (s b (IntKind.wrap .i64 (0+1))))) (h1:L0 (s b 1)=some (.inl (s c (IntKind.wrap .i64 (1+1)))))
  (h2:L0 (s c 2)=some (.inr (.exit 0,e c))):Lp L0 (s a 0)=some (.exit 0,e c):=Lp_step h0 (Lp_step h1 (Lp_exit h2))
theorem enval:EnvOk glS Tryz.prog (WA.add 109 io0 cAlong):=envwa.fn mixed Tryz.func109 (by kernel_rfl) fun β args k r hr=>by
 unfold cAlong at hr
 have hbig:big=34359738368:=rfl
 split at hr
 ·rename_i ns al bk t f caps
  split at hr
  ·rename_i x
   obtain⟨h0,hr⟩:=chkK_ok hr
   rw[hbig]at h0
   split at hr
   ·rename_i bs hb
    refine⟨_,_,hr,fun q=>?_⟩
    unfold alongB alongS at hb
    cases hp:passS (fun i l=>nowB f (.d true 0 (.int .i64 i)::.d true 0 (.bool l)::[.d true 0 (.pt 0 x)])) al.length bk al.length (List.replicate al.length t)with
    |none=>rw[hp]at hb;cases hb
    |some l1=>
     rw[hp]at hb
     have hb:passS _ al.length bk al.length l1=some bs:=hb
     have hl1:=passS_len hp
     have hl2:=passS_len hb
     rw[List.length_replicate]at hl1
     have rnd:∀(l l':List Bool) (j:Int),l.length=al.length→decide (j<2)=true→passS (fun i l=>nowB f (.d true 0 (.int .i64 i)::.d true 0 (.bool l)::[.d true 0 (.pt 0 x)])) al.length bk al.length l=some l'→
       A1.L0 (A1.s0 ns al bk f x (bD l) j)=some (.inl (A1.s0 ns al bk f x (bD l') (IntKind.wrap .i64 (j+1)))):=by
      intro l l' j hl hj hp
      have hw:IntKind.wrap .i64 (((bD l).length:Int) - 1)=(al.length:Int) - 1:=by rw[bD_len,hl];exact wrap_id (by omega) (by omega)
      have:=pass_loop (L:=A1.L1) (s:=fun xs i=>A1.s1 ns al bk f x xs i j) (e:=fun xs=>A1.e1x2 ns al bk f x xs j) (n:=al.length) (bk:=bk)
       (now:=fun i l=>nowB f (.d true 0 (.int .i64 i)::.d true 0 (.bool l)::[.d true 0 (.pt 0 x)])) h0 (fun xs i=>A1.round1 ns al bk f x xs i j) al.length l l' hl (Nat.le_refl _) hp
      show roundK _ _ _ _=_
      rw[A1.round0,if_pos hj,hw,goLp_of this,A1.behind1x2]
     rw[A1.start,if_pos h0,eachB122]
     simp only
     have r2:=A1.round0 ns al bk f x (bD bs) 2
     rw[if_neg (by decide)]at r2
     rw[goLp_of (along_outer (s:=A1.s0 ns al bk f x) (e:=A1.e0x0) (rnd _ l1 0 (by simp) (by decide) hp) (rnd l1 bs 1 hl1 (by decide) hb) r2),A1.behind0x0]
   ·cases hr
  ·rename_i x y
   obtain⟨h0,hr⟩:=chkK_ok hr
   rw[hbig]at h0
   split at hr
   ·rename_i bs hb
    refine⟨_,_,hr,fun q=>?_⟩
    unfold alongB alongS at hb
    cases hp:passS (fun i l=>nowB f (.d true 0 (.int .i64 i)::.d true 0 (.bool l)::[.d true 0 (.pt 0 x),.d true 0 (.pt 0 y)])) al.length bk al.length (List.replicate al.length t)with
    |none=>rw[hp]at hb;cases hb
    |some l1=>
     rw[hp]at hb
     have hb:passS _ al.length bk al.length l1=some bs:=hb
     have hl1:=passS_len hp
     have hl2:=passS_len hb
     rw[List.length_replicate]at hl1
     have rnd:∀(l l':List Bool) (j:Int),l.length=al.length→decide (j<2)=true→passS (fun i l=>nowB f (.d true 0 (.int .i64 i)::.d true 0 (.bool l)::[.d true 0 (.pt 0 x),.d true 0 (.pt 0 y)])) al.length bk al.length l=some l'→
       A2.L0 (A2.s0 ns al bk f x y (bD l) j)=some (.inl (A2.s0 ns al bk f x y (bD l') (IntKind.wrap .i64 (j+1)))):=by
      intro l l' j hl hj hp
      have hw:IntKind.wrap .i64 (((bD l).length:Int) - 1)=(al.length:Int) - 1:=by rw[bD_len,hl];exact wrap_id (by omega) (by omega)
      have:=pass_loop (L:=A2.L1) (s:=fun xs i=>A2.s1 ns al bk f x y xs i j) (e:=fun xs=>A2.e1x2 ns al bk f x y xs j) (n:=al.length) (bk:=bk)
       (now:=fun i l=>nowB f (.d true 0 (.int .i64 i)::.d true 0 (.bool l)::[.d true 0 (.pt 0 x),.d true 0 (.pt 0 y)])) h0 (fun xs i=>A2.round1 ns al bk f x y xs i j) al.length l l' hl (Nat.le_refl _) hp
      show roundK _ _ _ _=_
      rw[A2.round0,if_pos hj,hw,goLp_of this,A2.behind1x2]
     rw[A2.start,if_pos h0,eachB122]
     simp only
     have r2:=A2.round0 ns al bk f x y (bD bs) 2
     rw[if_neg (by decide)]at r2
     rw[goLp_of (along_outer (s:=A2.s0 ns al bk f x y) (e:=A2.e0x0) (rnd _ l1 0 (by simp) (by decide) hp) (rnd l1 bs 1 hl1 (by decide) hb) r2),A2.behind0x0]
   ·cases hr
  ·cases hr
 ·cases hr
end Go.Sd
namespace Go.Sc
open Go Go.Cm
def untilB (n:Nat) (bk:Int) (a b:List D):Option (List Bool):=alongB 120 [.d true 0 (.pt 0 (.sl 0 b)),.d true 0 (.pt 0 (.sl 0 a))] n bk false
def foreverB (n:Nat) (bk:Int) (a:List D):Option (List Bool):=alongB 121 [.d true 0 (.pt 0 (.sl 0 a))] n bk true
def idxN (s:ByteArray):List D→Nat→Option Int
 |[],_=>some (-1)
 |x::r,i=>match x with
  |.str t=>if(t.toList==s.toList)=true then some i else idxN s r (i+1)
  |_=>none
end Go.Sc
namespace Go.Sd
open Go Go.Cm Go.Proofs Go.Sc
def cUntil {β:Type} (args:List TV) (k:List TV→List TV→Option β):Option β:=
 match args with
 |[.d true 0 (.pt 4 (.ag [.sl 0 ns,.sl 0 al,.int .i64 bk])),.d true 0 (.sl 0 a),.d true 0 (.sl 0 b)]=>chkK (al.length≤big) (match untilB al.length bk a b with|some bs=>k [.own false 0 (bD bs)] []|none=>none)
 |_=>none
def cForever {β:Type} (args:List TV) (k:List TV→List TV→Option β):Option β:=
 match args with
 |[.d true 0 (.pt 4 (.ag [.sl 0 ns,.sl 0 al,.int .i64 bk])),.d true 0 (.sl 0 a)]=>chkK (al.length≤big) (match foreverB al.length bk a with|some bs=>k [.own false 0 (bD bs)] []|none=>none)
 |_=>none
def cIdxN {β:Type} (args:List TV) (k:List TV→List TV→Option β):Option β:=
 match args with
 |[.d true 0 (.sl 0 ns),.d true 0 (.str s)]=>chkK (ns.length≤big) (match idxN s ns 0 with|some i=>k [.d false 0 (.int .i64 i)] []|none=>none)
 |_=>none
def W5:Env:=(WC.add 69 io0 cEach).add 109 io0 cAlong
def W6:Env:=(W5.add 103 io0 cUntil).add 104 io0 cForever
def W7:Env:=W6.add 97 io0 cIdxN
end Go.Sd
namespace Go.Sd
open Go Go.Cm Go.Proofs Go.Sc
set_option maxRecDepth 100000
namespace U103
theorem start {β:Type} (ns:List D) (al:List D) (bk:Int) (a:List D) (b:List D) (k:List TV→List TV→Option β):evalF Tryz.prog W5 Tryz.f103 [.d true 0 (D.pt 4 (D.ag [D.sl 0 ns,D.sl 0 al,D.int .i64 bk])),.d true 0 (D.sl 0 a),.d true 0 (D.sl 0 b)] k=if al.length≤34359738368 then match alongB 120 [.d true 0 (D.pt 0 (D.sl 0 b)),.d true 0 (D.pt 0 (D.sl 0 a))] al.length bk false with
   |some bs2=>k [.own false 0 (bD bs2)] []
   |none=>none else none:=by kernel_rfl
end U103
namespace U104
theorem start {β:Type} (ns:List D) (al:List D) (bk:Int) (a:List D) (k:List TV→List TV→Option β):evalF Tryz.prog W5 Tryz.f104 [.d true 0 (D.pt 4 (D.ag [D.sl 0 ns,D.sl 0 al,D.int .i64 bk])),.d true 0 (D.sl 0 a)] k=if al.length≤34359738368 then match alongB 121 [.d true 0 (D.pt 0 (D.sl 0 a))] al.length bk true with
   |some bs2=>k [.own false 0 (bD bs2)] []
   |none=>none else none:=by kernel_rfl
end U104
namespace U97
noncomputable def X:Fx:=⟨Tryz.prog,W6,16,2⟩
def s0 (ns:List D) (s:ByteArray) (x15:Int):S:=⟨Tm.mk 19 [(0,.d true 0 (D.sl 0 ns)),(1,.d true 0 (D.str s)),(7,.d false 0 (D.int .i64 (ns.length:Int))),(8,.d false 0 (D.int .i64 x15))],[]⟩
def e0r (x32:Int):S:=⟨Tm.mk 19 [(4,.d false 0 (D.int .i64 x32))],[]⟩
def e0x0:S:=⟨Tm.mk 19 [],[]⟩
noncomputable abbrev L0:S→Option (S ⊕ (Ex×S)):=roundK X [(0,0)] (sub [1,0,1,0,0] (body Tryz.f97))
theorem start {β:Type} (ns:List D) (s:ByteArray) (k:List TV→List TV→Option β):evalF Tryz.prog W6 Tryz.f97 [.d true 0 (D.sl 0 ns),.d true 0 (D.str s)] k=goLp X [(0,0)] (sub [1,0,1,0,0] (body Tryz.f97)) [Kf.block 0 0,Kf.seq [] (sub [1,1] (body Tryz.f97)) 16] (finK Tryz.prog Tryz.f97 [.d true 0 (D.sl 0 ns),.d true 0 (D.str s)] k) (s0 ns s (0:Int)):=by kernel_rfl
theorem round0 (ns:List D) (s:ByteArray) (x15:Int):roundK X [(0,0)] (sub [1,0,1,0,0] (body Tryz.f97)) (s0 ns s x15)=if decide (x15<(ns.length:Int))=true then if 0≤x15 then match ns[x15.toNat]? with
   |some x40=>match x40 with
    |D.str s41=>if(s.toList==s41.toList)=true then some (Sum.inr (Ex.ret,e0r x15))else some (Sum.inl (s0 ns s (IntKind.wrap .i64 (x15+1))))
    |x=>none
   |none=>none else none else some (Sum.inr (Ex.exit 0,e0x0)):=by kernel_rfl
theorem behind0r {β:Type} (ns:List D) (s:ByteArray) (x32:Int) (k:List TV→List TV→Option β):applyK X (finK Tryz.prog Tryz.f97 [.d true 0 (D.sl 0 ns),.d true 0 (D.str s)] k) [Kf.block 0 0,Kf.seq [] (sub [1,1] (body Tryz.f97)) 16] Ex.ret (e0r x32)=k [.d false 0 (D.int .i64 x32)] []:=by kernel_rfl
theorem behind0x0 {β:Type} (ns:List D) (s:ByteArray) (k:List TV→List TV→Option β):applyK X (finK Tryz.prog Tryz.f97 [.d true 0 (D.sl 0 ns),.d true 0 (D.str s)] k) [Kf.block 0 0,Kf.seq [] (sub [1,1] (body Tryz.f97)) 16] (Ex.exit 0) e0x0=k [.d false 0 (D.int .i64 (-1:Int))] []:=by kernel_rfl
end U97
namespace U71
theorem start {β:Type} (ns:List D) (al:List D) (bk:Int) (s:ByteArray) (k:List TV→List TV→Option β):evalF Tryz.prog W7 Tryz.f71 [.d true 0 (D.pt 4 (D.ag [D.sl 0 ns,D.sl 0 al,D.int .i64 bk])),.d true 0 (D.str s)] k=if ns.length≤34359738368 then match idxN s ns 0 with
   |some i2=>if decide (i2<0)=true then k [.own false 0 [],.d false 0 (D.ifc 84 (D.int .i64 30))] []else if al.length≤34359738368 then match eachB 98 [.d true 0 (D.pt 0 (D.pt 4 (D.ag [D.sl 0 ns,D.sl 0 al,D.int .i64 bk]))),.d true 0 (D.pt 0 (D.int .i64 i2))] al.length with
    |some bs7=>k [.own false 0 (bD bs7),.d false 0 D.nili] []
    |none=>none else none
   |none=>none else none:=by kernel_rfl
end U71
namespace U72
theorem start {β:Type} (ns:List D) (al:List D) (bk:Int) (op:ByteArray) (a:List D) (k:List TV→List TV→Option β):evalF Tryz.prog W7 Tryz.f72 [.d true 0 (D.pt 4 (D.ag [D.sl 0 ns,D.sl 0 al,D.int .i64 bk])),.d true 0 (D.str op),.d true 0 (D.sl 0 a)] k=if al.length≤34359738368 then match eachB 99 [] al.length with
   |some bs2=>if(op.toList==[33])=true then if al.length≤34359738368 then match eachB 100 [.d true 0 (D.pt 0 (D.sl 0 a))] al.length with
    |some bs7=>k [.own false 0 (bD bs7),.d false 0 D.nili] []
    |none=>none else none else if(op.toList==[88])=true then if al.length≤34359738368 then match eachB 101 [.d true 0 (D.pt 0 (D.sl 0 a)),.d true 0 (D.pt 0 (D.pt 4 (D.ag [D.sl 0 ns,D.sl 0 al,D.int .i64 bk])))] al.length with
     |some bs11=>k [.own false 0 (bD bs11),.d false 0 D.nili] []
     |none=>none else none else if(op.toList==[70])=true then if al.length≤34359738368 then match untilB al.length bk (bD bs2) a with
      |some bs15=>k [.own false 0 (bD bs15),.d false 0 D.nili] []
      |none=>none else none else if(op.toList==[71])=true then if al.length≤34359738368 then match foreverB al.length bk a with
       |some bs19=>k [.own false 0 (bD bs19),.d false 0 D.nili] []
       |none=>none else none else k [.own false 0 [],.d false 0 (D.ifc 84 (D.int .i64 1))] []
   |none=>none else none:=by kernel_rfl
end U72
namespace U73
noncomputable def X:Fx:=⟨Tryz.prog,W7,768,4⟩
def j0 (ns:List D) (al:List D) (bk:Int) (op:ByteArray) (a:List D) (b:List D) (bs5064:List Bool) (bs3665:List Bool):S:=⟨Tm.mk 52 [(0,.d true 0 (D.pt 4 (D.ag [D.sl 0 ns,D.sl 0 al,D.int .i64 bk]))),(1,.d true 0 (D.str op)),(2,.d true 0 (D.sl 0 a)),(3,.d true 0 (D.sl 0 b)),(6,.rp 7 0),(7,.rp 8 0),(8,.own false 0 []),(9,.d false 0 D.nili),(10,.rp 11 0),(11,.rp 12 0),(12,.d true 0 (D.str op)),(13,.d false 0 (D.bool (op.toList==[38]))),(14,.d false 0 (D.bool (op.toList==[38]))),(18,.d false 0 (D.bool (op.toList==[124]))),(19,.d false 0 (D.bool (op.toList==[124]))),(23,.d false 0 (D.bool (op.toList==[61,62]))),(24,.d false 0 (D.bool (op.toList==[61,62]))),(28,.d false 0 (D.bool (op.toList==[85]))),(29,.d false 0 (D.bool (op.toList==[85]))),(34,.d false 0 (D.bool (op.toList==[87]))),(35,.d false 0 (D.bool (op.toList==[87]))),(36,.d true 0 (D.pt 4 (D.ag [D.sl 0 ns,D.sl 0 al,D.int .i64 bk]))),(37,.d true 0 (D.sl 0 a)),(38,.d true 0 (D.sl 0 b)),(39,.undef),(40,.d true 0 (D.pt 4 (D.ag [D.sl 0 ns,D.sl 0 al,D.int .i64 bk]))),(41,.d true 0 (D.sl 0 a)),(42,.undef)],[(7,false,[.d true 0 (D.sl 0 a)]),(8,false,[.d true 0 (D.sl 0 b)]),(11,false,[.own false 0 (bD bs5064)]),(12,false,[.own false 0 (bD bs3665)]),(1152921504606847015,true,[.undef]),(1152921504606847018,true,[.undef])]⟩
noncomputable abbrev J0 {β:Type} (ns:List D) (al:List D) (bk:Int) (op:ByteArray) (a:List D) (b:List D) (k:List TV→List TV→Option β):S→Option β:=applyK X (finK Tryz.prog Tryz.f73 [.d true 0 (D.pt 4 (D.ag [D.sl 0 ns,D.sl 0 al,D.int .i64 bk])),.d true 0 (D.str op),.d true 0 (D.sl 0 a),.d true 0 (D.sl 0 b)] k) [Kf.seq [(0,0)] (sub [1,0,1,0,1,1,1,1,1,1,1,1,1,0,1] (body Tryz.f73)) 0,Kf.cond 0,Kf.cond 0,Kf.cond 0,Kf.cond 0,Kf.cond 0,Kf.block 0 0,Kf.seq [] (sub [1,1] (body Tryz.f73)) 768] Ex.norm
noncomputable def R0:Array Oper:=regOps (sub [1,0,1,0,1,1,1,1,1,1,1,1,1,0,0] (body Tryz.f73))
def B0:List Nat:=[0,0,0,7,0,0,63,0,0,511,1023]
noncomputable def z0_0 (ns:List D) (al:List D) (bk:Int) (op:ByteArray) (a:List D) (b:List D) (bs27:List Bool) (bs29:List Bool):S:=⟨Tm.mk 52 [(0,.d true 0 (D.pt 4 (D.ag [D.sl 0 ns,D.sl 0 al,D.int .i64 bk]))),(1,.d true 0 (D.str op)),(2,.d true 0 (D.sl 0 a)),(3,.d true 0 (D.sl 0 b)),(6,.rp 7 0),(7,.rp 8 0),(8,.own false 0 []),(9,.d false 0 D.nili),(10,.rp 11 0),(11,.rp 12 0),(12,.d true 0 (D.str op)),(13,.d false 0 (D.bool (op.toList==[38]))),(14,.d false 0 (D.bool (op.toList==[38]))),(18,.d false 0 (D.bool (op.toList==[124]))),(19,.d false 0 (D.bool (op.toList==[124]))),(23,.d false 0 (D.bool (op.toList==[61,62]))),(24,.d false 0 (D.bool (op.toList==[61,62]))),(28,.d false 0 (D.bool (op.toList==[85]))),(29,.d false 0 (D.bool (op.toList==[85]))),(34,.d false 0 (D.bool (op.toList==[87]))),(35,.d false 0 (D.bool (op.toList==[87]))),(36,.d true 0 (D.pt 4 (D.ag [D.sl 0 ns,D.sl 0 al,D.int .i64 bk]))),(37,.d true 0 (D.sl 0 a)),(38,.d true 0 (D.sl 0 b)),(39,.undef),(40,.d true 0 (D.pt 4 (D.ag [D.sl 0 ns,D.sl 0 al,D.int .i64 bk]))),(41,.d true 0 (D.sl 0 a)),(42,.undef)],[(7,false,[.d true 0 (D.sl 0 a)]),(8,false,[.d true 0 (D.sl 0 b)]),(11,false,[.own false 0 (bD bs27)]),(12,false,[.own false 0 (bD bs29)]),(1152921504606847015,true,[.undef]),(1152921504606847018,true,[.undef])]⟩
noncomputable def z0_13 (ns:List D) (al:List D) (bk:Int) (op:ByteArray) (a:List D) (b:List D):S:=⟨Tm.mk 52 [(0,.d true 0 (D.pt 4 (D.ag [D.sl 0 ns,D.sl 0 al,D.int .i64 bk]))),(1,.d true 0 (D.str op)),(2,.d true 0 (D.sl 0 a)),(3,.d true 0 (D.sl 0 b)),(6,.rp 7 0),(7,.rp 8 0),(8,.own false 0 []),(9,.d false 0 D.nili),(12,.d true 0 (D.str op)),(13,.d false 0 (D.bool (op.toList==[38]))),(14,.d false 0 (D.bool (op.toList==[38]))),(18,.d false 0 (D.bool (op.toList==[124]))),(19,.d false 0 (D.bool (op.toList==[124]))),(23,.d false 0 (D.bool (op.toList==[61,62]))),(24,.d false 0 (D.bool (op.toList==[61,62]))),(28,.d false 0 (D.bool (op.toList==[85]))),(29,.d false 0 (D.bool (op.toList==[85]))),(34,.d false 0 (D.bool (op.toList==[87]))),(35,.d false 0 (D.bool (op.toList==[87])))],[(8,false,[.d true 0 (D.sl 0 b)]),(7,false,[.d true 0 (D.sl 0 a)])]⟩
noncomputable def u0_0 (ns:List D) (al:List D) (bk:Int) (op:ByteArray) (a:List D) (b:List D) (bs27:List Bool) (bs29:List Bool):List (Nat×V):=[(0,.d true 0 (D.pt 4 (D.ag [D.sl 0 ns,D.sl 0 al,D.int .i64 bk]))),(1,.d true 0 (D.str op)),(2,.d true 0 (D.sl 0 a)),(3,.d true 0 (D.sl 0 b)),(6,.rp 7 0),(7,.rp 8 0),(8,.own false 0 []),(9,.d false 0 D.nili),(10,.rp 11 0),(11,.rp 12 0),(12,.d true 0 (D.str op)),(13,.d false 0 (D.bool (op.toList==[38]))),(14,.d false 0 (D.bool (op.toList==[38]))),(18,.d false 0 (D.bool (op.toList==[124]))),(19,.d false 0 (D.bool (op.toList==[124]))),(23,.d false 0 (D.bool (op.toList==[61,62]))),(24,.d false 0 (D.bool (op.toList==[61,62]))),(28,.d false 0 (D.bool (op.toList==[85]))),(29,.d false 0 (D.bool (op.toList==[85]))),(34,.d false 0 (D.bool (op.toList==[87]))),(35,.d false 0 (D.bool (op.toList==[87]))),(36,.d true 0 (D.pt 4 (D.ag [D.sl 0 ns,D.sl 0 al,D.int .i64 bk]))),(37,.d true 0 (D.sl 0 a)),(38,.d true 0 (D.sl 0 b)),(39,.bf 1152921504606847015 0),(40,.d true 0 (D.pt 4 (D.ag [D.sl 0 ns,D.sl 0 al,D.int .i64 bk]))),(41,.d true 0 (D.sl 0 a)),(42,.bf 1152921504606847018 0)]
noncomputable def v0_0 (ns:List D) (al:List D) (bk:Int) (op:ByteArray) (a:List D) (b:List D) (bs27:List Bool) (bs29:List Bool):List (Nat×Bool×List V):=[(7,false,[.d true 0 (D.sl 0 a)]),(8,false,[.d true 0 (D.sl 0 b)]),(11,false,[.own false 0 []]),(12,false,[.own false 0 []]),(1152921504606847015,true,[.own false 0 (bD bs27)]),(1152921504606847018,true,[.own false 0 (bD bs29)])]
noncomputable def z0_1 (ns:List D) (al:List D) (bk:Int) (op:ByteArray) (a:List D) (b:List D) (bs27:List Bool) (bs29:List Bool):S:=⟨Tm.mk 52 (selT (u0_0 ns al bk op a b bs27 bs29) 24300672989353301 []),selR (v0_0 ns al bk op a b bs27 bs29) 1909 [(11,false,[.own false 0 (bD bs27)]),(1152921504606847015,true,[.undef])]⟩
noncomputable def z0_2 (ns:List D) (al:List D) (bk:Int) (op:ByteArray) (a:List D) (b:List D) (bs27:List Bool) (bs29:List Bool):S:=⟨Tm.mk 52 (selT (u0_0 ns al bk op a b bs27 bs29) 24019198012642645 []),selR (v0_0 ns al bk op a b bs27 bs29) 1365 []⟩
noncomputable def z0_3 (ns:List D) (al:List D) (bk:Int) (op:ByteArray) (a:List D) (b:List D) (bs27:List Bool) (bs29:List Bool):S:=⟨Tm.mk 52 (selT (u0_0 ns al bk op a b bs27 bs29) 24019198012380501 []),selR (v0_0 ns al bk op a b bs27 bs29) 1301 []⟩
noncomputable def z0_4 (ns:List D) (al:List D) (bk:Int) (op:ByteArray) (a:List D) (b:List D) (bs27:List Bool) (bs29:List Bool):S:=⟨Tm.mk 52 (selT (u0_0 ns al bk op a b bs27 bs29) 24019198012577109 []),selR (v0_0 ns al bk op a b bs27 bs29) 1349 []⟩
noncomputable def z0_5 (ns:List D) (al:List D) (bk:Int) (op:ByteArray) (a:List D) (b:List D) (bs27:List Bool) (bs29:List Bool):S:=⟨Tm.mk 52 (selT (u0_0 ns al bk op a b bs27 bs29) 24019198012314965 []),selR (v0_0 ns al bk op a b bs27 bs29) 1285 []⟩
noncomputable def u0_1 (ns:List D) (al:List D) (bk:Int) (op:ByteArray) (a:List D) (b:List D) (bs27:List Bool):List (Nat×V):=[(0,.d true 0 (D.pt 4 (D.ag [D.sl 0 ns,D.sl 0 al,D.int .i64 bk]))),(1,.d true 0 (D.str op)),(2,.d true 0 (D.sl 0 a)),(3,.d true 0 (D.sl 0 b)),(6,.rp 7 0),(7,.rp 8 0),(8,.own false 0 []),(9,.d false 0 D.nili),(10,.rp 11 0),(11,.rp 12 0),(12,.d true 0 (D.str op)),(13,.d false 0 (D.bool (op.toList==[38]))),(14,.d false 0 (D.bool (op.toList==[38]))),(18,.d false 0 (D.bool (op.toList==[124]))),(19,.d false 0 (D.bool (op.toList==[124]))),(23,.d false 0 (D.bool (op.toList==[61,62]))),(24,.d false 0 (D.bool (op.toList==[61,62]))),(28,.d false 0 (D.bool (op.toList==[85]))),(29,.d false 0 (D.bool (op.toList==[85]))),(34,.d false 0 (D.bool (op.toList==[87]))),(35,.d false 0 (D.bool (op.toList==[87]))),(36,.d true 0 (D.pt 4 (D.ag [D.sl 0 ns,D.sl 0 al,D.int .i64 bk]))),(37,.d true 0 (D.sl 0 a)),(38,.d true 0 (D.sl 0 b)),(39,.bf 1152921504606847015 0),(40,.d true 0 (D.pt 4 (D.ag [D.sl 0 ns,D.sl 0 al,D.int .i64 bk]))),(41,.d true 0 (D.sl 0 a))]
noncomputable def v0_1 (ns:List D) (al:List D) (bk:Int) (op:ByteArray) (a:List D) (b:List D) (bs27:List Bool):List (Nat×Bool×List V):=[(7,false,[.d true 0 (D.sl 0 a)]),(8,false,[.d true 0 (D.sl 0 b)]),(11,false,[.own false 0 []]),(12,false,[.own false 0 []]),(1152921504606847015,true,[.own false 0 (bD bs27)])]
noncomputable def z0_6 (ns:List D) (al:List D) (bk:Int) (op:ByteArray) (a:List D) (b:List D) (bs27:List Bool):S:=⟨Tm.mk 52 (selT (u0_1 ns al bk op a b bs27) 6004799503160661 []),selR (v0_1 ns al bk op a b bs27) 341 []⟩
noncomputable def z0_7 (ns:List D) (al:List D) (bk:Int) (op:ByteArray) (a:List D) (b:List D) (bs27:List Bool):S:=⟨Tm.mk 52 (selT (u0_1 ns al bk op a b bs27) 6004799502898517 []),selR (v0_1 ns al bk op a b bs27) 277 []⟩
noncomputable def z0_8 (ns:List D) (al:List D) (bk:Int) (op:ByteArray) (a:List D) (b:List D) (bs27:List Bool):S:=⟨Tm.mk 52 (selT (u0_1 ns al bk op a b bs27) 6004799503095125 []),selR (v0_1 ns al bk op a b bs27) 325 []⟩
noncomputable def z0_9 (ns:List D) (al:List D) (bk:Int) (op:ByteArray) (a:List D) (b:List D) (bs27:List Bool):S:=⟨Tm.mk 52 (selT (u0_1 ns al bk op a b bs27) 6004799502832981 []),selR (v0_1 ns al bk op a b bs27) 261 []⟩
noncomputable def u0_2 (ns:List D) (al:List D) (bk:Int) (op:ByteArray) (a:List D) (b:List D):List (Nat×V):=[(0,.d true 0 (D.pt 4 (D.ag [D.sl 0 ns,D.sl 0 al,D.int .i64 bk]))),(1,.d true 0 (D.str op)),(2,.d true 0 (D.sl 0 a)),(3,.d true 0 (D.sl 0 b)),(6,.rp 7 0),(7,.rp 8 0),(8,.own false 0 []),(9,.d false 0 D.nili),(10,.rp 11 0),(11,.rp 12 0),(12,.d true 0 (D.str op)),(13,.d false 0 (D.bool (op.toList==[38]))),(14,.d false 0 (D.bool (op.toList==[38]))),(18,.d false 0 (D.bool (op.toList==[124]))),(19,.d false 0 (D.bool (op.toList==[124]))),(23,.d false 0 (D.bool (op.toList==[61,62]))),(24,.d false 0 (D.bool (op.toList==[61,62]))),(28,.d false 0 (D.bool (op.toList==[85]))),(29,.d false 0 (D.bool (op.toList==[85]))),(34,.d false 0 (D.bool (op.toList==[87]))),(35,.d false 0 (D.bool (op.toList==[87]))),(36,.d true 0 (D.pt 4 (D.ag [D.sl 0 ns,D.sl 0 al,D.int .i64 bk]))),(37,.d true 0 (D.sl 0 a)),(38,.d true 0 (D.sl 0 b)),(40,.d true 0 (D.pt 4 (D.ag [D.sl 0 ns,D.sl 0 al,D.int .i64 bk]))),(41,.d true 0 (D.sl 0 a))]
noncomputable def v0_2 (ns:List D) (al:List D) (bk:Int) (op:ByteArray) (a:List D) (b:List D):List (Nat×Bool×List V):=[(7,false,[.d true 0 (D.sl 0 a)]),(8,false,[.d true 0 (D.sl 0 b)]),(11,false,[.own false 0 []]),(12,false,[.own false 0 []])]
noncomputable def z0_10 (ns:List D) (al:List D) (bk:Int) (op:ByteArray) (a:List D) (b:List D):S:=⟨Tm.mk 52 (selT (u0_2 ns al bk op a b) 1501199875790165 []),selR (v0_2 ns al bk op a b) 85 []⟩
noncomputable def z0_11 (ns:List D) (al:List D) (bk:Int) (op:ByteArray) (a:List D) (b:List D):S:=⟨Tm.mk 52 (selT (u0_2 ns al bk op a b) 1501199875528021 []),selR (v0_2 ns al bk op a b) 21 []⟩
noncomputable def z0_12 (ns:List D) (al:List D) (bk:Int) (op:ByteArray) (a:List D) (b:List D):S:=⟨Tm.mk 52 (selT (u0_2 ns al bk op a b) 1501199875724629 []),selR (v0_2 ns al bk op a b) 69 []⟩
def a0_0:List Nat:=[0,1,2,3,4,5,6,7,8,9,10]
def a0_1:List Nat:=[0,1,2,3,4,5,6,7,8,9]
def a0_2:List Nat:=[0,1,2,3,4,5,6,7,8]
def a0_3:List Nat:=[0,1,2,3,4,5,6,7]
def a0_4:List Nat:=[0,1,2,3,4,5,6,8]
def a0_5:List Nat:=[0,1,2,3,4,5,6]
def a0_6:List Nat:=[0,1,2,3,4,5,7,8]
def a0_7:List Nat:=[0,1,2,3,4,5,7]
def a0_8:List Nat:=[0,1,2,3,4,5,8]
def a0_9:List Nat:=[0,1,2,3,4,5]
def a0_10:List Nat:=[0,1,2,4,5,7,8]
def a0_11:List Nat:=[0,1,2,4,5,7]
def a0_12:List Nat:=[0,1,2,4,5,8]
  section
  variable {β:Type} (ns:List D) (al:List D) (bk:Int) (op:ByteArray) (a:List D) (b:List D) (bs27:List Bool) (bs29:List Bool) (kont20:S→Option β)
theorem n0_0:regA Tryz.prog W7 R0 B0 1 a0_0 (z0_0 ns al bk op a b bs27 bs29) kont20=kont20 (z0_0 ns al bk op a b bs27 bs29):=by
   kernel_rfl
theorem n0_1:regA Tryz.prog W7 R0 B0 2 a0_1 (z0_1 ns al bk op a b bs27 bs29) kont20=kont20 (z0_0 ns al bk op a b bs27 bs29):=by
   refine(show _=regA Tryz.prog W7 R0 B0 1 a0_0 (z0_0 ns al bk op a b bs27 bs29) kont20 from by kernel_rfl).trans ?_
   first|(simp only[n0_0];done)|(simp only[n0_0];rfl)|simp only[n0_0]
theorem n0_2:regA Tryz.prog W7 R0 B0 3 a0_2 (z0_2 ns al bk op a b bs27 bs29) kont20=kont20 (z0_0 ns al bk op a b bs27 bs29):=by
   refine(show _=regA Tryz.prog W7 R0 B0 2 a0_1 (z0_1 ns al bk op a b bs27 bs29) kont20 from by kernel_rfl).trans ?_
   first|(simp only[n0_1];done)|(simp only[n0_1];rfl)|simp only[n0_1]
theorem n0_3:regA Tryz.prog W7 R0 B0 4 a0_3 (z0_3 ns al bk op a b bs27 bs29) kont20=kont20 (z0_0 ns al bk op a b bs27 bs29):=by
   refine(show _=regA Tryz.prog W7 R0 B0 3 a0_2 (z0_2 ns al bk op a b bs27 bs29) kont20 from by kernel_rfl).trans ?_
   first|(simp only[n0_2];done)|(simp only[n0_2];rfl)|simp only[n0_2]
theorem n0_4:regA Tryz.prog W7 R0 B0 4 a0_4 (z0_4 ns al bk op a b bs27 bs29) kont20=kont20 (z0_0 ns al bk op a b bs27 bs29):=by
   refine(show _=regA Tryz.prog W7 R0 B0 3 a0_2 (z0_2 ns al bk op a b bs27 bs29) kont20 from by kernel_rfl).trans ?_
   first|(simp only[n0_2];done)|(simp only[n0_2];rfl)|simp only[n0_2]
theorem n0_5:regA Tryz.prog W7 R0 B0 5 a0_5 (z0_5 ns al bk op a b bs27 bs29) kont20=kont20 (z0_0 ns al bk op a b bs27 bs29):=by
   refine(show _=meet (regA Tryz.prog W7 R0 B0 4 a0_3 (z0_3 ns al bk op a b bs27 bs29) kont20) (regA Tryz.prog W7 R0 B0 4 a0_4 (z0_4 ns al bk op a b bs27 bs29) kont20)from by kernel_rfl).trans ?_
   first|(simp only[n0_3,n0_4,Go.Sc.meet_self];done)|(simp only[n0_3,n0_4,Go.Sc.meet_self];rfl)|simp only[n0_3,n0_4,Go.Sc.meet_self]
noncomputable def t0_0:Option β:=if al.length≤34359738368 then match foreverB al.length bk a with
   |some bs44=>kont20 (z0_0 ns al bk op a b bs27 bs44)
   |none=>none else none
theorem n0_6:regA Tryz.prog W7 R0 B0 4 a0_6 (z0_6 ns al bk op a b bs27) kont20=t0_0 ns al bk op a b bs27 kont20:=by
   refine(show _=if al.length≤34359738368 then
   match foreverB al.length bk a with
   |some bs43=>regA Tryz.prog W7 R0 B0 3 a0_2 (z0_2 ns al bk op a b bs27 bs43) kont20
   |none=>none
  else none from by kernel_rfl).trans ?_
   first|(simp only[n0_2];done)|(simp only[n0_2];rfl)|simp only[n0_2,t0_0]
theorem n0_7:regA Tryz.prog W7 R0 B0 5 a0_7 (z0_7 ns al bk op a b bs27) kont20=t0_0 ns al bk op a b bs27 kont20:=by
   refine(show _=meet
   (if al.length≤34359738368 then
    match foreverB al.length bk a with
    |some bs39=>regA Tryz.prog W7 R0 B0 4 a0_3 (z0_3 ns al bk op a b bs27 bs39) kont20
    |none=>none
   else none)
   (regA Tryz.prog W7 R0 B0 4 a0_6 (z0_6 ns al bk op a b bs27) kont20)from by kernel_rfl).trans ?_
   first|(simp only[n0_3,n0_6,Go.Sc.meet_self];done)|(simp only[n0_3,n0_6,Go.Sc.meet_self];rfl)|simp only[n0_3,n0_6,Go.Sc.meet_self,t0_0]
theorem n0_8:regA Tryz.prog W7 R0 B0 5 a0_8 (z0_8 ns al bk op a b bs27) kont20=t0_0 ns al bk op a b bs27 kont20:=by
   refine(show _=meet
   (if al.length≤34359738368 then
    match foreverB al.length bk a with
    |some bs47=>regA Tryz.prog W7 R0 B0 4 a0_4 (z0_4 ns al bk op a b bs27 bs47) kont20
    |none=>none
   else none)
   (regA Tryz.prog W7 R0 B0 4 a0_6 (z0_6 ns al bk op a b bs27) kont20)from by kernel_rfl).trans ?_
   first|(simp only[n0_4,n0_6,Go.Sc.meet_self];done)|(simp only[n0_4,n0_6,Go.Sc.meet_self];rfl)|simp only[n0_4,n0_6,Go.Sc.meet_self,t0_0]
theorem n0_9:regA Tryz.prog W7 R0 B0 6 a0_9 (z0_9 ns al bk op a b bs27) kont20=t0_0 ns al bk op a b bs27 kont20:=by
   refine(show _=meet
   (if al.length≤34359738368 then
    match foreverB al.length bk a with
    |some bs29=>regA Tryz.prog W7 R0 B0 5 a0_5 (z0_5 ns al bk op a b bs27 bs29) kont20
    |none=>none
   else none)
   (meet (regA Tryz.prog W7 R0 B0 5 a0_7 (z0_7 ns al bk op a b bs27) kont20) (regA Tryz.prog W7 R0 B0 5 a0_8 (z0_8 ns al bk op a b bs27) kont20))from by kernel_rfl).trans ?_
   first|(simp only[n0_5,n0_7,n0_8,Go.Sc.meet_self];done)|(simp only[n0_5,n0_7,n0_8,Go.Sc.meet_self];rfl)|simp only[n0_5,n0_7,n0_8,Go.Sc.meet_self,t0_0]
noncomputable def t0_1:Option β:=if al.length≤34359738368 then match untilB al.length bk a b with
   |some bs58=>if al.length≤34359738368 then match foreverB al.length bk a with
    |some bs44=>kont20 (z0_0 ns al bk op a b bs58 bs44)
    |none=>none else none
   |none=>none else none
theorem n0_10:regA Tryz.prog W7 R0 B0 5 a0_10 (z0_10 ns al bk op a b) kont20=t0_1 ns al bk op a b kont20:=by
   refine(show _=if al.length≤34359738368 then
   match untilB al.length bk a b with
   |some bs57=>regA Tryz.prog W7 R0 B0 4 a0_6 (z0_6 ns al bk op a b bs57) kont20
   |none=>none
  else none from by kernel_rfl).trans ?_
   first|(simp only[n0_6];done)|(simp only[n0_6];rfl)|simp only[n0_6,t0_0,t0_1]
theorem n0_11:regA Tryz.prog W7 R0 B0 6 a0_11 (z0_11 ns al bk op a b) kont20=t0_1 ns al bk op a b kont20:=by
   refine(show _=meet
   (if al.length≤34359738368 then
    match untilB al.length bk a b with
    |some bs53=>regA Tryz.prog W7 R0 B0 5 a0_7 (z0_7 ns al bk op a b bs53) kont20
    |none=>none
   else none)
   (regA Tryz.prog W7 R0 B0 5 a0_10 (z0_10 ns al bk op a b) kont20)from by kernel_rfl).trans ?_
   first|(simp only[n0_7,n0_10,Go.Sc.meet_self];done)|(simp only[n0_7,n0_10,Go.Sc.meet_self];rfl)|simp only[n0_7,n0_10,Go.Sc.meet_self,t0_0,t0_1]
theorem n0_12:regA Tryz.prog W7 R0 B0 6 a0_12 (z0_12 ns al bk op a b) kont20=t0_1 ns al bk op a b kont20:=by
   refine(show _=meet
   (if al.length≤34359738368 then
    match untilB al.length bk a b with
    |some bs61=>regA Tryz.prog W7 R0 B0 5 a0_8 (z0_8 ns al bk op a b bs61) kont20
    |none=>none
   else none)
   (regA Tryz.prog W7 R0 B0 5 a0_10 (z0_10 ns al bk op a b) kont20)from by kernel_rfl).trans ?_
   first|(simp only[n0_8,n0_10,Go.Sc.meet_self];done)|(simp only[n0_8,n0_10,Go.Sc.meet_self];rfl)|simp only[n0_8,n0_10,Go.Sc.meet_self,t0_0,t0_1]
theorem n0_13:regA Tryz.prog W7 R0 B0 12 [] (z0_13 ns al bk op a b) kont20=t0_1 ns al bk op a b kont20:=by
   refine(show _=meet
   (if al.length≤34359738368 then
    match untilB al.length bk a b with
    |some bs27=>regA Tryz.prog W7 R0 B0 6 a0_9 (z0_9 ns al bk op a b bs27) kont20
    |none=>none
   else none)
   (meet (regA Tryz.prog W7 R0 B0 6 a0_11 (z0_11 ns al bk op a b) kont20) (regA Tryz.prog W7 R0 B0 6 a0_12 (z0_12 ns al bk op a b) kont20))from by kernel_rfl).trans ?_
   first|(simp only[n0_9,n0_11,n0_12,Go.Sc.meet_self];done)|(simp only[n0_9,n0_11,n0_12,Go.Sc.meet_self];rfl)|simp only[n0_9,n0_11,n0_12,Go.Sc.meet_self,t0_0,t0_1]
end
theorem reg0 {β:Type} (ns:List D) (al:List D) (bk:Int) (op:ByteArray) (a:List D) (b:List D) (kont20:S→Option β):regH Tryz.prog W7 R0 (z0_13 ns al bk op a b) kont20=if al.length≤34359738368 then match untilB al.length bk a b with
   |some bs50=>if al.length≤34359738368 then match foreverB al.length bk a with
    |some bs36=>kont20 (z0_0 ns al bk op a b bs50 bs36)
    |none=>none else none
   |none=>none else none:=(show _=regA Tryz.prog W7 R0 B0 12 [] (z0_13 ns al bk op a b) kont20 from by kernel_rfl).trans (n0_13 ..)
theorem start {β:Type} (ns:List D) (al:List D) (bk:Int) (op:ByteArray) (a:List D) (b:List D) (k:List TV→List TV→Option β):evalF Tryz.prog W7 Tryz.f73 [.d true 0 (D.pt 4 (D.ag [D.sl 0 ns,D.sl 0 al,D.int .i64 bk])),.d true 0 (D.str op),.d true 0 (D.sl 0 a),.d true 0 (D.sl 0 b)] k=if(op.toList==[38])=true then if al.length≤34359738368 then match eachB 105 [.d true 0 (D.pt 0 (D.sl 0 a)),.d true 0 (D.pt 0 (D.sl 0 b))] al.length with
   |some bs79=>k [.own false 0 (bD bs79),.d false 0 D.nili] []
   |none=>none else none else if(op.toList==[124])=true then if al.length≤34359738368 then match eachB 106 [.d true 0 (D.pt 0 (D.sl 0 a)),.d true 0 (D.pt 0 (D.sl 0 b))] al.length with
    |some bs83=>k [.own false 0 (bD bs83),.d false 0 D.nili] []
    |none=>none else none else if(op.toList==[61,62])=true then if al.length≤34359738368 then match eachB 107 [.d true 0 (D.pt 0 (D.sl 0 a)),.d true 0 (D.pt 0 (D.sl 0 b))] al.length with
     |some bs87=>k [.own false 0 (bD bs87),.d false 0 D.nili] []
     |none=>none else none else if(op.toList==[85])=true then if al.length≤34359738368 then match untilB al.length bk a b with
      |some bs91=>k [.own false 0 (bD bs91),.d false 0 D.nili] []
      |none=>none else none else if(op.toList==[87])=true then regH Tryz.prog W7 R0 (z0_13 ns al bk op a b) fun s97 ↦ J0 ns al bk op a b k s97 else if(op.toList==[82])=true then if al.length≤34359738368 then match alongB 110 [.d true 0 (D.pt 0 (D.sl 0 b)),.d true 0 (D.pt 0 (D.sl 0 a))] al.length bk true with
       |some bs101=>k [.own false 0 (bD bs101),.d false 0 D.nili] []
       |none=>none else none else k [.own false 0 [],.d false 0 (D.ifc 84 (D.int .i64 1))] []:=by kernel_rfl
theorem j0_eq {β:Type} (ns:List D) (al:List D) (bk:Int) (op:ByteArray) (a:List D) (b:List D) (bs5064:List Bool) (bs3665:List Bool) (k:List TV→List TV→Option β):J0 ns al bk op a b k (j0 ns al bk op a b bs5064 bs3665)=if al.length≤34359738368 then match eachB 108 [.d true 0 (D.pt 0 (D.sl 0 (bD bs5064))),.d true 0 (D.pt 0 (D.sl 0 (bD bs3665)))] al.length with
   |some bs104=>k [.own false 0 (bD bs104),.d false 0 D.nili] []
   |none=>none else none:=by kernel_rfl
end U73
end Go.Sd
set_option maxRecDepth 100000
namespace Go.Sc
open Go Go.Cm
def labelB (ns al:List D) (bk:Int) (s:ByteArray):Option (Int ⊕ List Bool):=
 match idxN s ns 0 with
 |some i=>if i<0 then some (.inl 30)else(eachB 98 [.d true 0 (.pt 0 (.pt 4 (.ag [.sl 0 ns,.sl 0 al,.int .i64 bk]))),.d true 0 (.pt 0 (.int .i64 i))] al.length).map .inr
 |none=>none
def oneB (ns al:List D) (bk:Int) (op:ByteArray) (a:List D):Option (Int ⊕ List Bool):=
 match eachB 99 [] al.length with
 |none=>none
 |some yes=>
  if(op.toList==[33])=true then(eachB 100 [.d true 0 (.pt 0 (.sl 0 a))] al.length).map .inr
  else if(op.toList==[88])=true then(eachB 101 [.d true 0 (.pt 0 (.sl 0 a)),.d true 0 (.pt 0 (.pt 4 (.ag [.sl 0 ns,.sl 0 al,.int .i64 bk])))] al.length).map .inr
  else if(op.toList==[70])=true then(untilB al.length bk (bD yes) a).map .inr
  else if(op.toList==[71])=true then(foreverB al.length bk a).map .inr
  else some (.inl 1)
def twoB (al:List D) (bk:Int) (op:ByteArray) (a b:List D):Option (Int ⊕ List Bool):=
 if(op.toList==[38])=true then(eachB 105 [.d true 0 (.pt 0 (.sl 0 a)),.d true 0 (.pt 0 (.sl 0 b))] al.length).map .inr
 else if(op.toList==[124])=true then(eachB 106 [.d true 0 (.pt 0 (.sl 0 a)),.d true 0 (.pt 0 (.sl 0 b))] al.length).map .inr
 else if(op.toList==[61,62])=true then(eachB 107 [.d true 0 (.pt 0 (.sl 0 a)),.d true 0 (.pt 0 (.sl 0 b))] al.length).map .inr
 else if(op.toList==[85])=true then(untilB al.length bk a b).map .inr
 else if(op.toList==[87])=true then(match untilB al.length bk a b with
  |some u=>match foreverB al.length bk a with
   |some g=>(eachB 108 [.d true 0 (.pt 0 (.sl 0 (bD u))),.d true 0 (.pt 0 (.sl 0 (bD g)))] al.length).map .inr
   |none=>none
  |none=>none)
 else if(op.toList==[82])=true then(alongB 110 [.d true 0 (.pt 0 (.sl 0 b)),.d true 0 (.pt 0 (.sl 0 a))] al.length bk true).map .inr
 else some (.inl 1)
end Go.Sc
namespace Go.Sd
open Go Go.Cm Go.Proofs Go.Sc
def ansL {β:Type} (k:List TV→List TV→Option β) (r:Option (Int ⊕ List Bool)):Option β:=
 match r with
 |some (.inl e)=>k [.own false 0 [],.d false 0 (.ifc 84 (.int .i64 e))] []
 |some (.inr bs)=>k [.own false 0 (bD bs),.d false 0 .nili] []
 |none=>none
theorem ansL_map {β:Type} (k:List TV→List TV→Option β) (r:Option (List Bool)):ansL k (r.map .inr)=match r with|some bs=>k [.own false 0 (bD bs),.d false 0 .nili] []|none=>none:=by cases r<;>rfl
def cLabel {β:Type} (args:List TV) (k:List TV→List TV→Option β):Option β:=
 match args with
 |[.d true 0 (.pt 4 (.ag [.sl 0 ns,.sl 0 al,.int .i64 bk])),.d true 0 (.str s)]=>chkK (al.length≤big∧ns.length≤big) (ansL k (labelB ns al bk s))
 |_=>none
def cOne14 {β:Type} (args:List TV) (k:List TV→List TV→Option β):Option β:=
 match args with
 |[.d true 0 (.pt 4 (.ag [.sl 0 ns,.sl 0 al,.int .i64 bk])),.d true 0 (.str op),.d true 0 (.sl 0 a)]=>chkK (al.length≤big) (ansL k (oneB ns al bk op a))
 |_=>none
def cTwo14 {β:Type} (args:List TV) (k:List TV→List TV→Option β):Option β:=
 match args with
 |[.d true 0 (.pt 4 (.ag [.sl 0 ns,.sl 0 al,.int .i64 bk])),.d true 0 (.str op),.d true 0 (.sl 0 a),.d true 0 (.sl 0 b)]=>chkK (al.length≤big) (ansL k (twoB al bk op a b))
 |_=>none
theorem envw5:EnvOk glS Tryz.prog W5:=envwe.add fun β args k r hr=>enval β 109 args k r (by simpa[Env.add]using hr)
theorem envw6:EnvOk glS Tryz.prog W6:=by
 have hbig:big=34359738368:=rfl
 refine EnvOk.add (envw5.fn mixed Tryz.func103 (by kernel_rfl) fun β args k r hr=>?_) fun β args k r hr=>?_
 ·unfold cUntil at hr
  split at hr
  ·obtain⟨h0,hr⟩:=chkK_ok hr
   split at hr
   ·rename_i bs hb
    refine⟨_,_,hr,fun q=>?_⟩
    rw[U103.start,if_pos (by omega)]
    unfold untilB at hb
    simp only[hb]
   ·cases hr
  ·cases hr
 ·unfold cForever at hr
  split at hr
  ·obtain⟨h0,hr⟩:=chkK_ok hr
   split at hr
   ·rename_i bs hb
    refine⟨_,_,hr,valid_of envw5 mixed Tryz.func104 (by kernel_rfl) ?_⟩
    rw[U104.start,if_pos (by omega)]
    unfold foreverB at hb
    simp only[hb]
   ·cases hr
  ·cases hr
theorem idx_loop {s:ByteArray} {ns:List D} (hn:ns.length≤34359738368):∀(r:List D) (i:Nat) (v:Int),ns.drop i=r→idxN s r i=some v→
  (v<0∧v= -1∧Lp U97.L0 (U97.s0 ns s i)=some (.exit 0,U97.e0x0))∨(0≤v∧Lp U97.L0 (U97.s0 ns s i)=some (.ret,U97.e0r v))
 |[],i,v,hd,h=>by
  simp only[idxN,Option.some.injEq]at h
  subst h
  have hr:=U97.round0 ns s i
  have:ns.length≤i:=by have:=congrArg List.length hd;simp at this;omega
  rw[if_neg (by simp;omega)]at hr
  exact .inl ⟨by decide,rfl,Lp_exit hr⟩
 |x::r,i,v,hd,h=>by
  have hr:=U97.round0 ns s i
  have hlt:i<ns.length:=by
   rcases Nat.lt_or_ge i ns.length with h|h
   ·exact h
   ·rw[List.drop_eq_nil_of_le h]at hd;cases hd
  have hc:=List.drop_eq_getElem_cons hlt
  rw[hd]at hc
  have hx:ns[i]? =some x:=by rw[List.getElem?_eq_getElem hlt, ←(List.cons.inj hc).1]
  rw[if_pos (by simp;omega),if_pos (by omega),Int.toNat_natCast,hx]at hr
  simp only[idxN]at h
  split at h
  ·rename_i t
   simp only at hr
   have hsym:(s.toList==t.toList)=(t.toList==s.toList):=by
    rw[Bool.eq_iff_iff,beq_iff_eq,beq_iff_eq];exact⟨Eq.symm,Eq.symm⟩
   rw[hsym]at hr
   split at h
   ·rename_i he
    cases h
    rw[if_pos he]at hr
    exact .inr ⟨by omega,Lp_exit hr⟩
   ·rename_i he
    rw[if_neg he,wrap_id (by omega) (by omega)]at hr
    rcases idx_loop hn r (i+1) v (List.cons.inj hc).2.symm h with⟨h1,h2,h3⟩|⟨h1,h3⟩
    ·exact .inl ⟨h1,h2,Lp_step hr h3⟩
    ·exact .inr ⟨h1,Lp_step hr h3⟩
  ·cases h
theorem envw7:EnvOk glS Tryz.prog W7:=envw6.fn mixed Tryz.func97 (by kernel_rfl) fun β args k r hr=>by
 unfold cIdxN at hr
 split at hr
 ·rename_i ns s
  obtain⟨h0,hr⟩:=chkK_ok hr
  split at hr
  ·rename_i v hv
   refine⟨_,_,hr,fun q=>?_⟩
   rw[U97.start]
   rcases idx_loop h0 ns 0 v rfl hv with⟨_,rfl,h⟩|⟨_,h⟩
   ·rw[show(0:Int)=((0:Nat):Int)from rfl,goLp_of h,U97.behind0x0]
   ·rw[show(0:Int)=((0:Nat):Int)from rfl,goLp_of h,U97.behind0r]
  ·cases hr
 ·cases hr
def W8:Env:=((W7.add 71 io0 cLabel).add 72 io0 cOne14).add 73 io0 cTwo14
theorem ansL_out {β:Type} {k:List TV→List TV→Option β} {x:Option (Int ⊕ List Bool)} {r:β} (h:ansL k x=some r):∃res outs,k res outs=some r∧∀{γ:Type} (q:List TV→List TV→Option γ),ansL q x=q res outs:=by
 unfold ansL at h
 split at h
 ·exact⟨_,_,h,fun q=>rfl⟩
 ·exact⟨_,_,h,fun q=>rfl⟩
 ·cases h
theorem envw8:EnvOk glS Tryz.prog W8:=by
 have hbig:big=34359738368:=rfl
 refine EnvOk.add (EnvOk.add (envw7.fn mixed Tryz.func71 (by kernel_rfl) fun β args k r hr=>?_) fun β args k r hr=>?_) fun β args k r hr=>?_
 ·unfold cLabel at hr
  split at hr
  ·rename_i ns al bk s
   obtain⟨⟨h0,h1⟩,hr⟩:=chkK_ok hr
   obtain⟨res,outs,h2,h3⟩:=ansL_out hr
   refine⟨res,outs,h2,fun q=>?_⟩
   rw[←h3 q,U71.start,if_pos (by omega)]
   unfold labelB
   cases idxN s ns 0 with
   |none=>rfl
   |some i=>
    simp only
    by_cases hi:i<0
    ·rw[if_pos (by simpa using hi),if_pos hi];rfl
    ·rw[if_neg (by simpa using hi),if_neg hi,if_pos (by omega),ansL_map]
     all_goals (generalize eachB _ _ _=z;cases z<;>rfl)
  ·cases hr
 ·unfold cOne14 at hr
  split at hr
  ·rename_i ns al bk op a
   obtain⟨h0,hr⟩:=chkK_ok hr
   obtain⟨res,outs,h2,h3⟩:=ansL_out hr
   refine⟨res,outs,h2,valid_of envw7 mixed Tryz.func72 (by kernel_rfl) (Eq.trans ?_ (h3 fun a b=>some (a,b)))⟩
   rw[U72.start,if_pos (by omega)]
   unfold oneB
   cases eachB 99 [] al.length with
   |none=>rfl
   |some yes=>
    simp only[if_pos (show al.length≤34359738368 by omega)]
    repeat' split
    all_goals first|rfl|(simp only[ansL,Option.map, *])|simp_all [ansL]
  ·cases hr
 ·unfold cTwo14 at hr
  split at hr
  ·rename_i ns al bk op a b
   obtain⟨h0,hr⟩:=chkK_ok hr
   obtain⟨res,outs,h2,h3⟩:=ansL_out hr
   refine⟨res,outs,h2,valid_of envw7 mixed Tryz.func73 (by kernel_rfl) (Eq.trans ?_ (h3 fun a b=>some (a,b)))⟩
   rw[U73.start]
   have hJ:∀u g:List Bool,U73.J0 ns al bk op a b (fun a b=>some (a,b)) (U73.z0_0 ns al bk op a b u g)=_:=fun u g=>U73.j0_eq ns al bk op a b u g _
   unfold twoB
   simp only[U73.reg0,hJ,if_pos (show al.length≤34359738368 by omega)]
   rcases hu:untilB al.length bk a b with _|u<;>rcases hf:foreverB al.length bk a with _|g<;>simp only[hu,hf]
   all_goals repeat' split
   all_goals first|rfl|(simp only[ansL,Option.map, *])|simp_all [ansL]
  ·cases hr
end Go.Sd
namespace Go.Sc
open Go Go.Cm
theorem tk_some {xs:List D} {a:Int} {c p:Int} {t:ByteArray} (h:tk xs a=some (c,t,p)):xs[a.toNat]? =some (.ag [.int .i64 c,.str t,.int .i64 p]):=by
 unfold tk tkD at h
 split at h
 ·rename_i h2;cases h;exact h2
 ·cases h
theorem tk_lt {xs:List D} {a:Int} {r:Int×ByteArray×Int} (h:tk xs a=some r) (ha:0≤a):a<xs.length:=by
 obtain⟨c,t,p⟩:=r
 have:=(List.getElem?_eq_some_iff.1 (tk_some h)).1
 omega
def Adv (a:Int):PR→Prop
 |.ok _ _ _ _ b=>a<b
 |.syn _ b=>a≤b
 |.deep _ b=>a≤b
 |.no=>True
theorem adv_deep (xs:List D) (a:Int):Adv a (deepP xs a):=by
 unfold deepP;split<;>simp[Adv]
theorem adv_chainL (xs:List D) (op:ByteArray) (one:Int→PR) (h1:∀a,Adv a (one a)):∀(n:Nat) (o nm:ByteArray) (ks:List D) (p a b:Int),b<a→Adv b (chainL xs op one n o nm ks p a)
 |0,_,_,_,_,_,_,_=>trivial
 |n+1,o,nm,ks,p,a,b,hb=>by
  unfold chainL
  split
  ·trivial
  ·split
   ·have:=h1 (a+1)
    split
    ·rename_i e;rw[e]at this;simp only[Adv]at this
     exact adv_chainL xs op one h1 n _ _ _ _ _ _ (by omega)
    ·rename_i e;rw[e]at this;simp only[Adv]at this ⊢;omega
    ·rename_i e;rw[e]at this;simp only[Adv]at this ⊢;omega
    ·trivial
   ·exact hb
theorem adv_chainP (xs:List D) (op:ByteArray) (one:Int→PR) (h1:∀a,Adv a (one a)) (a:Int):Adv a (chainP xs op one a):=by
 have:=h1 a
 unfold chainP
 split
 ·rename_i e;rw[e]at this
  exact adv_chainL xs op one h1 _ _ _ _ _ _ _ this
 ·rename_i e;rw[e]at this;exact this
 ·rename_i e;rw[e]at this;exact this
 ·trivial
theorem adv_rightP (xs:List D) (one:Int→PR) (h1:∀a,Adv a (one a)) (o nm:ByteArray) (ks:List D) (p:Int):∀(ops:List ByteArray) (a b:Int),b<a→Adv b (rightP xs one o nm ks p ops a)
 |[],a,b,h=>h
 |op::ops,a,b,h=>by
  unfold rightP
  split
  ·trivial
  ·split
   ·have:=h1 (a+1)
    split
    ·rename_i e;rw[e]at this;simp only[Adv]at this ⊢;omega
    ·rename_i e;rw[e]at this;simp only[Adv]at this ⊢;omega
    ·rename_i e;rw[e]at this;simp only[Adv]at this ⊢;omega
    ·trivial
   ·exact adv_rightP xs one h1 o nm ks p ops a b h
theorem adv_singleP (xs:List D) (P:PF) (h1:∀a,Adv a (P.single a)) (h2:∀a,Adv a (P.imply a)) (a:Int):Adv a (singleP xs P a):=by
 unfold singleP
 split
 ·trivial
 ·split
  ·simp only[Adv];omega
  ·split
   ·simp only[Adv];omega
   ·split
    ·have:=h1 (a+1)
     split
     ·rename_i e;rw[e]at this;simp only[Adv]at this ⊢;omega
     ·rename_i e;rw[e]at this;simp only[Adv]at this ⊢;omega
     ·rename_i e;rw[e]at this;simp only[Adv]at this ⊢;omega
     ·trivial
    ·split
     ·have:=h2 (a+1)
      split
      ·rename_i e;rw[e]at this;simp only[Adv]at this
       split
       ·trivial
       ·split<;>simp only[Adv]<;>omega
      ·rename_i e;rw[e]at this;simp only[Adv]at this ⊢;omega
      ·rename_i e;rw[e]at this;simp only[Adv]at this ⊢;omega
      ·trivial
     ·simp only[Adv];omega
theorem adv_untlP (xs:List D) (s u:Int→PR) (h1:∀a,Adv a (s a)) (h2:∀a,Adv a (u a)) (a:Int):Adv a (untlP xs s u a):=by
 have:=h1 a
 unfold untlP
 split
 ·rename_i e;rw[e]at this
  exact adv_rightP xs u h2 _ _ _ _ _ _ _ this
 ·rename_i e;rw[e]at this;exact this
 ·rename_i e;rw[e]at this;exact this
 ·trivial
theorem adv_implyP (xs:List D) (u i:Int→PR) (h1:∀a,Adv a (u a)) (h2:∀a,Adv a (i a)) (a:Int):Adv a (implyP xs u i a):=by
 have:=adv_chainP xs ⟨#[124]⟩ (kP xs u) (fun a=>adv_chainP xs ⟨#[38]⟩ u h1 a) a
 unfold implyP
 split
 ·rename_i e;rw[e]at this
  exact adv_rightP xs i h2 _ _ _ _ _ _ _ this
 ·rename_i e;rw[e]at this;exact this
 ·rename_i e;rw[e]at this;exact this
 ·trivial
theorem adv_pf (xs:List D):∀n:Nat,(∀a,Adv a ((pf xs n).single a))∧(∀a,Adv a ((pf xs n).untl a))∧∀a,Adv a ((pf xs n).imply a)
 |0=>⟨adv_deep xs,adv_deep xs,adv_deep xs⟩
 |n+1=>by
  obtain⟨h1,h2,h3⟩:=adv_pf xs n
  have s:=adv_singleP xs (pf xs n) h1 h3
  have u:=adv_untlP xs _ _ s h2
  exact⟨s,u,adv_implyP xs _ _ u h3⟩
theorem adv_single (xs:List D) (n:Nat) (a:Int):Adv a (pSingle xs n a):=(adv_pf xs n).1 a
theorem adv_untl (xs:List D) (n:Nat) (a:Int):Adv a (pUntl xs n a):=(adv_pf xs n).2.1 a
theorem adv_imply (xs:List D) (n:Nat) (a:Int):Adv a (pImply xs n a):=(adv_pf xs n).2.2 a
theorem adv_k (xs:List D) (n:Nat) (a:Int):Adv a (pK xs n a):=adv_chainP xs _ _ (adv_untl xs n) a
theorem pSingle_0 (xs:List D) (a:Int):pSingle xs 0 a=deepP xs a:=rfl
theorem pUntl_0 (xs:List D) (a:Int):pUntl xs 0 a=deepP xs a:=rfl
theorem pImply_0 (xs:List D) (a:Int):pImply xs 0 a=deepP xs a:=rfl
end Go.Sc
namespace Go.Sc
open Go Go.Cm
inductive PA where
 |ok (op nm:ByteArray) (ks:List D) (p:Int)
 |no (n:Int)
 |er (p n:Int)
 |bad
def endP (xs:List D):PR→PA
 |.ok op nm ks p a=>match tk xs a with
  |some (c,_,q)=>if c=0 then .ok op nm ks p else .er q 20
  |none=>.bad
 |.syn p _=>.er p 20
 |.deep p _=>.er p 21
 |.no=>.bad
def parseP (s:ByteArray) (d:Int):PA:=
 if d<1∨d>64 then .no 1
 else match Nat.ble s.size 65536 with
  |false=>.no 2
  |true=>match tokS s.toList with
   |.inl (n,p)=>.er p n
   |.inr l=>endP (l.map tokT) (pImply (l.map tokT) d.toNat 0)
end Go.Sc
namespace Go.Sc
open Go Go.Cm
inductive Fm where
 |mk (op nm:ByteArray) (ks:List Fm) (p:Int)
 deriving Inhabited
mutual
def Fm.d:Fm→D
 |.mk op nm ks p=>.ag [.str op,.str nm,.sl 5 (Fm.dL ks),.int .i64 p]
def Fm.dL:List Fm→List D
 |[]=>[]
 |f::fs=>f.d::Fm.dL fs
end
mutual
def Fm.dep:Fm→Nat
 |.mk _ _ ks _=>Fm.depL ks+1
def Fm.depL:List Fm→Nat
 |[]=>0
 |f::fs=>max f.dep (Fm.depL fs)
end
mutual
def ofD:D→Option Fm
 |.ag [.str op,.str nm,.sl 5 ks,.int .i64 p]=>match ofDL ks with|some fs=>some (.mk op nm fs p)|none=>none
 |_=>none
def ofDL:List D→Option (List Fm)
 |[]=>some []
 |x::xs=>match ofD x,ofDL xs with|some f,some fs=>some (f::fs)|_,_=>none
end
mutual
theorem ofD_d:∀f:Fm,ofD f.d=some f
 |.mk op nm ks p=>by simp only[Fm.d,ofD,ofDL_d ks]
theorem ofDL_d:∀fs:List Fm,ofDL (Fm.dL fs)=some fs
 |[]=>by simp only[Fm.dL,ofDL]
 |f::fs=>by simp only[Fm.dL,ofDL,ofD_d f,ofDL_d fs]
end
mutual
theorem d_ofD:∀(x:D) (f:Fm),ofD x=some f→x=f.d
 |.ag [.str op,.str nm,.sl 5 ks,.int .i64 p],f,h=>by
  simp only[ofD]at h
  split at h
  ·rename_i fs hk
   cases h
   rw[Fm.d,dL_ofDL ks fs hk]
  ·cases h
 |x,f,h=>by
  unfold ofD at h
  split at h
  ·rename_i op nm ks p
   split at h
   ·rename_i fs hk
    cases h
    rw[Fm.d,dL_ofDL ks fs hk]
   ·cases h
  ·cases h
theorem dL_ofDL:∀(xs:List D) (fs:List Fm),ofDL xs=some fs→xs=Fm.dL fs
 |[],fs,h=>by simp only[ofDL]at h;cases h;rfl
 |x::xs,fs,h=>by
  simp only[ofDL]at h
  split at h
  ·rename_i f fs' h1 h2
   cases h
   rw[Fm.dL, ←d_ofD x f h1, ←dL_ofDL xs fs' h2]
  ·cases h
end
theorem dL_eq:∀fs:List Fm,Fm.dL fs=fs.map Fm.d
 |[]=>rfl
 |f::fs=>by simp only[Fm.dL,List.map_cons,dL_eq fs]
theorem dep_mem:∀{fs:List Fm} {f:Fm},f∈fs→f.dep≤Fm.depL fs
 |g::gs,f,h=>by
  simp only[Fm.depL]
  rcases List.mem_cons.1 h with rfl|h
  ·omega
  ·have:=dep_mem h;omega
mutual
def Fm.sm:Fm→Bool
 |.mk _ _ ks _=>Nat.ble ks.length 4096&&Fm.smL ks
def Fm.smL:List Fm→Bool
 |[]=>true
 |f::fs=>f.sm&&Fm.smL fs
end
theorem sm_mem:∀{fs:List Fm} {f:Fm},Fm.smL fs=true→f∈fs→f.sm=true
 |g::gs,f,h,hm=>by
  simp only[Fm.smL,Bool.and_eq_true]at h
  rcases List.mem_cons.1 hm with rfl|hm
  ·exact h.1
  ·exact sm_mem h.2 hm
theorem dL_get {fs:List Fm} {i:Nat} (h:i<fs.length):(Fm.dL fs)[i]? =some (fs[i].d):=by rw[dL_eq,List.getElem?_map,List.getElem?_eq_getElem h];rfl
theorem dL_len (fs:List Fm):(Fm.dL fs).length=fs.length:=by rw[dL_eq,List.length_map]
def bd (b:Option Nat) (f:Fm):Prop:=f.sm=true∧match b with|none=>True|some n=>f.dep<n
instance (b:Option Nat) (f:Fm):Decidable (bd b f):=by unfold bd;cases b<;>infer_instance
def bdL (b:Option Nat) (fs:List Fm):Prop:=Nat.ble fs.length 4096=true∧Fm.smL fs=true∧match b with|none=>True|some n=>Fm.depL fs<n
instance (b:Option Nat) (f:List Fm):Decidable (bdL b f):=by unfold bdL;cases b<;>infer_instance
theorem bd_none {b:Option Nat} {f:Fm} (h:bd none f) (hb:∀n,b=some n→f.dep<n):bd b f:=by
 cases b with
 |none=>exact h
 |some n=>exact⟨h.1,hb n rfl⟩
theorem bd_at {f:Fm} (h:bd none f):bd (some (f.dep+1)) f:=⟨h.1,Nat.lt_succ_self _⟩
mutual
def sizeF:Fm→Int
 |.mk _ _ ks _=>sizeL ks 1
def sizeL:List Fm→Int→Int
 |[],n=>n
 |f::fs,n=>sizeL fs (if n≤4096 then min (n+sizeF f) 4097 else n)
end
mutual
def sameF:Fm→Fm→Bool
 |.mk o1 n1 k1 _,.mk o2 n2 k2 _=>o1.toList==o2.toList&&n1.toList==n2.toList&&sameL k1 k2
def sameL:List Fm→List Fm→Bool
 |[],[]=>true
 |f::fs,g::gs=>sameF f g&&sameL fs gs
 |_,_=>false
end
theorem sizeL_le:∀(fs:List Fm) (n:Int),n≤4097→1≤n→(∀f∈fs,1≤sizeF f∧sizeF f≤4097)→1≤sizeL fs n∧sizeL fs n≤4097
 |[],n,h,h1,_=>by simp only[sizeL];omega
 |f::fs,n,h,h1,hf=>by
  simp only[sizeL]
  have:=hf f (.head _)
  exact sizeL_le fs _ (by split<;>omega) (by split<;>omega) fun g hg=>hf g (.tail _ hg)
mutual
theorem sizeF_le:∀f:Fm,1≤sizeF f∧sizeF f≤4097
 |.mk _ _ ks _=>by
  simp only[sizeF]
  exact sizeL_le ks 1 (by omega) (by omega) (sizeF_leL ks)
theorem sizeF_leL:∀(fs:List Fm),∀f∈fs,1≤sizeF f∧sizeF f≤4097
 |[],f,h=>by cases h
 |g::gs,f,h=>by
  rcases List.mem_cons.1 h with e|h
  ·rw[e];exact sizeF_le g
  ·exact sizeF_leL gs f h
end
end Go.Sc
namespace Go.Sc
open Go Go.Cm
mutual
def truthF (ns al:List D) (bk:Int):Fm→Option (Int ⊕ List Bool)
 |.mk op nm ks p=>match truthL ns al bk ks with
  |none=>none
  |some (.inl e)=>some (.inl e)
  |some (.inr l)=>match l with
   |[]=>
    if(op.toList==[116,114,117,101])=true∨(op.toList==[102,97,108,115,101])=true then some (.inr (List.replicate al.length (op.toList==[116,114,117,101])))
    else if(op.toList==[108,97,98,101,108])=true then labelB ns al bk nm
    else some (.inl 1)
   |[a]=>oneB ns al bk op (bD a)
   |[a,b]=>twoB al bk op (bD a) (bD b)
   |_=>some (.inl 1)
def truthL (ns al:List D) (bk:Int):List Fm→Option (Int ⊕ List (List Bool))
 |[]=>some (.inr [])
 |f::fs=>match truthF ns al bk f with
  |none=>none
  |some (.inl e)=>some (.inl e)
  |some (.inr a)=>match truthL ns al bk fs with
   |some (.inr l)=>some (.inr (a::l))
   |some (.inl e)=>some (.inl e)
   |none=>none
end
def anyBad (n:Nat):List D→Option Bool
 |[]=>some false
 |x::r=>match x with
  |.int .i64 i=>if badI n i=true then some true else anyBad n r
  |_=>none
end Go.Sc
namespace Go.Sd
open Go Go.Cm Go.Proofs Go.Sc
def cTruths {β:Type} (b:Option Nat) (args:List TV) (k:List TV→List TV→Option β):Option β:=
 match args with
 |[.d true 0 (.pt 4 (.ag [.sl 0 ns,.sl 0 al,.int .i64 bk])),.d true 5 x]=>match ofD x with
  |some f=>chkK (bd b f∧al.length≤big∧ns.length≤big) (ansL k (truthF ns al bk f))
  |none=>none
 |_=>none
def W9 (b:Option Nat):Env:=W8.add 46 io0 (cTruths b)
def cHasI {β:Type} (args:List TV) (k:List TV→List TV→Option β):Option β:=
 match args with
 |[.d true 0 (.sl 0 xs),.d true 0 (.fn 59 [.pt 0 (.sl 0 ns)])]=>chkK (xs.length≤big) (match anyBad ns.length xs with|some b=>k [.d false 0 (.bool b)] []|none=>none)
 |_=>none
def W10:Env:=W2.add 60 io0 cHasI
end Go.Sd
namespace Go.Sd
open Go Go.Cm Go.Proofs Go.Sc
set_option maxRecDepth 100000
namespace T46
  section
  variable (b:Option Nat)
noncomputable def X:Fx:=⟨Tryz.prog,W9 b,48,2⟩
def s0 (ns:List D) (al:List D) (bk:Int) (op:ByteArray) (nm:ByteArray) (ks:List D) (p:Int) (x69:List D) (x70:Int):S:=⟨Tm.mk 78 [(0,.d true 0 (D.pt 4 (D.ag [D.sl 0 ns,D.sl 0 al,D.int .i64 bk]))),(3,.rp 4 0),(6,.own false 0 x69),(12,.d true 0 (D.sl 5 ks)),(13,.d false 0 (D.int .i64 (ks.length:Int))),(14,.d false 0 (D.int .i64 x70))],[(4,true,[.d true 0 (D.str op),.d true 0 (D.str nm),.d true 0 (D.sl 5 ks),.d true 0 (D.int .i64 p)])]⟩
def e0r (x163:Int):S:=⟨Tm.mk 78 [(4,.own false 0 []),(5,.d false 0 (D.ifc 84 (D.int .i64 x163)))],[]⟩
def e0x0 (ns:List D) (al:List D) (bk:Int) (op:ByteArray) (nm:ByteArray) (ks:List D) (p:Int) (x164:List D):S:=⟨Tm.mk 78 [(0,.d true 0 (D.pt 4 (D.ag [D.sl 0 ns,D.sl 0 al,D.int .i64 bk]))),(3,.rp 4 0),(6,.own false 0 x164)],[(4,true,[.d true 0 (D.str op),.d true 0 (D.str nm),.d true 0 (D.sl 5 ks),.d true 0 (D.int .i64 p)])]⟩
noncomputable abbrev L0:S→Option (S ⊕ (Ex×S)):=roundK (X b) [(0,73)] (sub [1,1,0,1,0,0] (body Tryz.f46))
theorem start {β:Type} (ns:List D) (al:List D) (bk:Int) (op:ByteArray) (nm:ByteArray) (ks:List D) (p:Int) (k:List TV→List TV→Option β):evalF Tryz.prog (W9 b) Tryz.f46 [.d true 0 (D.pt 4 (D.ag [D.sl 0 ns,D.sl 0 al,D.int .i64 bk])),.d true 5 (D.ag [D.str op,D.str nm,D.sl 5 ks,D.int .i64 p])] k=goLp (X b) [(0,73)] (sub [1,1,0,1,0,0] (body Tryz.f46)) [Kf.block 0 73,Kf.seq [] (sub [1,1,1] (body Tryz.f46)) 48] (finK Tryz.prog Tryz.f46 [.d true 0 (D.pt 4 (D.ag [D.sl 0 ns,D.sl 0 al,D.int .i64 bk])),.d true 5 (D.ag [D.str op,D.str nm,D.sl 5 ks,D.int .i64 p])] k) (s0 ns al bk op nm ks p [] (0:Int)):=by kernel_rfl
theorem round0_0 (ns:List D) (al:List D) (bk:Int) (op:ByteArray) (nm:ByteArray) (ks:List D) (p:Int) (x67:List D) (x68:Int):roundK (X b) [(0,73)] (sub [1,1,0,1,0,0] (body Tryz.f46)) (s0 ns al bk op nm ks p x67 x68)=if decide (x68<(ks.length:Int))=true then if 0≤x68 then match ks[x68.toNat]? with
   |some x216=>match x216 with
    |D.ag xs217=>match xs217 with
     |x218::r219=>match x218 with
      |D.str s220=>match r219 with
       |x221::r222=>match x221 with
        |D.str s223=>match r222 with
         |x224::r225=>match x224 with
          |D.sl sh226 xs227=>if sh226=5 then match r225 with
           |x228::r229=>match x228 with
            |D.int j230 m231=>if j230=IntKind.i64 then match r229 with
             |[]=>match ofD (D.ag [D.str s220,D.str s223,D.sl 5 xs227,D.int .i64 m231])with
              |some f234=>if bd b f234∧al.length≤34359738368∧ns.length≤34359738368 then match truthF ns al bk f234 with
               |some (Sum.inl e235)=>some (Sum.inr (Ex.ret,e0r e235))
               |some (Sum.inr bs239)=>if x67.length+1≤34359738368 then some (Sum.inl (s0 ns al bk op nm ks p (x67++[D.sl 0 (bD bs239)]) (IntKind.wrap .i64 (x68+1))))else none
               |none=>none else none
              |none=>none
             |x=>none else none
            |x=>none
           |[]=>none else none
          |x=>none
         |[]=>none
        |x=>none
       |[]=>none
      |x=>none
     |[]=>none
    |x=>none
   |none=>none else none else some (Sum.inr (Ex.exit 0,e0x0 ns al bk op nm ks p x67)):=by kernel_rfl
theorem behind0r {β:Type} (ns:List D) (al:List D) (bk:Int) (op:ByteArray) (nm:ByteArray) (ks:List D) (p:Int) (x163:Int) (k:List TV→List TV→Option β):applyK (X b) (finK Tryz.prog Tryz.f46 [.d true 0 (D.pt 4 (D.ag [D.sl 0 ns,D.sl 0 al,D.int .i64 bk])),.d true 5 (D.ag [D.str op,D.str nm,D.sl 5 ks,D.int .i64 p])] k) [Kf.block 0 73,Kf.seq [] (sub [1,1,1] (body Tryz.f46)) 48] Ex.ret (e0r x163)=k [.own false 0 [],.d false 0 (D.ifc 84 (D.int .i64 x163))] []:=by kernel_rfl
theorem behind0x0 {β:Type} (ns:List D) (al:List D) (bk:Int) (op:ByteArray) (nm:ByteArray) (ks:List D) (p:Int) (x164:List D) (k:List TV→List TV→Option β):applyK (X b) (finK Tryz.prog Tryz.f46 [.d true 0 (D.pt 4 (D.ag [D.sl 0 ns,D.sl 0 al,D.int .i64 bk])),.d true 5 (D.ag [D.str op,D.str nm,D.sl 5 ks,D.int .i64 p])] k) [Kf.block 0 73,Kf.seq [] (sub [1,1,1] (body Tryz.f46)) 48] (Ex.exit 0) (e0x0 ns al bk op nm ks p x164)=if((x164.length:Int)==0)=true then if(op.toList==[116,114,117,101])=true then if(op.toList==[116,114,117,101])=true then if al.length≤34359738368 then match eachB 70 [.d true 0 (D.pt 5 (D.ag [D.str op,D.str nm,D.sl 5 ks,D.int .i64 p]))] al.length with
   |some bs285=>k [.own false 0 (bD bs285),.d false 0 D.nili] []
   |none=>none else none else if(op.toList==[108,97,98,101,108])=true then if al.length≤34359738368∧ns.length≤34359738368 then match labelB ns al bk nm with
    |some (Sum.inl e289)=>k [.own false 0 [],.d false 0 (D.ifc 84 (D.int .i64 e289))] []
    |some (Sum.inr bs290)=>k [.own false 0 (bD bs290),.d false 0 D.nili] []
    |none=>none else none else k [.own false 0 [],.d false 0 (D.ifc 84 (D.int .i64 1))] []else if(op.toList==[102,97,108,115,101])=true then if al.length≤34359738368 then match eachB 70 [.d true 0 (D.pt 5 (D.ag [D.str op,D.str nm,D.sl 5 ks,D.int .i64 p]))] al.length with
   |some bs295=>k [.own false 0 (bD bs295),.d false 0 D.nili] []
   |none=>none else none else if(op.toList==[108,97,98,101,108])=true then if al.length≤34359738368∧ns.length≤34359738368 then match labelB ns al bk nm with
    |some (Sum.inl e299)=>k [.own false 0 [],.d false 0 (D.ifc 84 (D.int .i64 e299))] []
    |some (Sum.inr bs300)=>k [.own false 0 (bD bs300),.d false 0 D.nili] []
    |none=>none else none else k [.own false 0 [],.d false 0 (D.ifc 84 (D.int .i64 1))] []else if((x164.length:Int)==1)=true then if(0:Int)≤0∧(0:Int)<(x164.length:Int)then match x164[0]? with
   |some x305=>match x305 with
    |D.sl sh306 xs307=>if sh306=0 then if al.length≤34359738368 then match oneB ns al bk op xs307 with
     |some (Sum.inl e308)=>k [.own false 0 [],.d false 0 (D.ifc 84 (D.int .i64 e308))] []
     |some (Sum.inr bs309)=>k [.own false 0 (bD bs309),.d false 0 D.nili] []
     |none=>none else none else none
    |x=>none
   |none=>none else none else if((x164.length:Int)==2)=true then if(0:Int)≤1∧(1:Int)<(x164.length:Int)then match x164[1]? with
    |some x313=>match x313 with
     |D.sl sh314 xs315=>if sh314=0 then if(0:Int)≤0∧(0:Int)<(x164.length:Int)then match x164[0]? with
      |some x316=>match x316 with
       |D.sl sh317 xs318=>if sh317=0 then if al.length≤34359738368 then match twoB al bk op xs318 xs315 with
        |some (Sum.inl e319)=>k [.own false 0 [],.d false 0 (D.ifc 84 (D.int .i64 e319))] []
        |some (Sum.inr bs320)=>k [.own false 0 (bD bs320),.d false 0 D.nili] []
        |none=>none else none else none
       |x=>none
      |none=>none else none else none
     |x=>none
    |none=>none else none else k [.own false 0 [],.d false 0 (D.ifc 84 (D.int .i64 1))] []:=by kernel_rfl
end
end T46
end Go.Sd
namespace Go.Sd
open Go Go.Cm Go.Proofs Go.Sc
set_option maxRecDepth 100000
namespace B38
noncomputable def X:Fx:=⟨Tryz.prog,W10,16,2⟩
def s0 (ns:List D) (st:List D) (lp:List D) (x17:List D) (x18:Int):S:=⟨Tm.mk 54 [(2,.rp 3 0),(3,.rp 4 0),(5,.own false 4611686018427387904 x17),(11,.d true 0 (D.sl 0 ns)),(12,.d false 0 (D.int .i64 (ns.length:Int))),(13,.d false 0 (D.int .i64 x18))],[(3,false,[.d true 0 (D.sl 0 ns)]),(4,true,[.d true 0 (D.sl 0 st),.d true 0 (D.sl 0 lp)])]⟩
def e0x0 (ns:List D) (st:List D) (lp:List D) (x51:List D):S:=⟨Tm.mk 54 [(2,.rp 3 0),(3,.rp 4 0),(5,.own false 4611686018427387904 x51)],[(3,false,[.d true 0 (D.sl 0 ns)]),(4,true,[.d true 0 (D.sl 0 st),.d true 0 (D.sl 0 lp)])]⟩
noncomputable abbrev L0:S→Option (S ⊕ (Ex×S)):=roundK X [(0,44)] (sub [1,1,0,1,0,0] (body Tryz.f38))
theorem start {β:Type} (ns:List D) (st:List D) (lp:List D) (k:List TV→List TV→Option β):evalF Tryz.prog W10 Tryz.f38 [.d true 0 (D.sl 0 ns),.d true 3 (D.ag [D.sl 0 st,D.sl 0 lp])] k=goLp X [(0,44)] (sub [1,1,0,1,0,0] (body Tryz.f38)) [Kf.block 0 44,Kf.seq [] (sub [1,1,1] (body Tryz.f38)) 16] (finK Tryz.prog Tryz.f38 [.d true 0 (D.sl 0 ns),.d true 3 (D.ag [D.sl 0 st,D.sl 0 lp])] k) (s0 ns st lp [] (0:Int)):=by kernel_rfl
theorem round0 (ns:List D) (st:List D) (lp:List D) (x17:List D) (x18:Int):roundK X [(0,44)] (sub [1,1,0,1,0,0] (body Tryz.f38)) (s0 ns st lp x17 x18)=if decide (x18<(ns.length:Int))=true then if 0≤x18 then match ns[x18.toNat]? with
   |some x73=>match x73 with
    |D.str s74=>match findM Tryz.prog 9 (D.str s74) x17 0 with
     |some r76=>some (Sum.inl (s0 ns st lp (updM x17 (D.str s74) (D.bool true) r76) (IntKind.wrap .i64 (x18+1))))
     |none=>none
    |x=>none
   |none=>none else none else some (Sum.inr (Ex.exit 0,e0x0 ns st lp x17)):=by kernel_rfl
theorem behind0x0 {β:Type} (ns:List D) (st:List D) (lp:List D) (x51:List D) (k:List TV→List TV→Option β):applyK X (finK Tryz.prog Tryz.f38 [.d true 0 (D.sl 0 ns),.d true 3 (D.ag [D.sl 0 st,D.sl 0 lp])] k) [Kf.block 0 44,Kf.seq [] (sub [1,1,1] (body Tryz.f38)) 16] (Ex.exit 0) (e0x0 ns st lp x51)=if st.length+lp.length≤34359738368 then if decide ((ns.length:Int)>6)=true then k [.d false 0 (D.ifc 84 (D.int .i64 1))] []else if(!(x51.length:Int)==(ns.length:Int))=true then k [.d false 0 (D.ifc 84 (D.int .i64 1))] []else if((lp.length:Int)==0)=true then k [.d false 0 (D.ifc 84 (D.int .i64 1))] []else if decide ((↑(List.length (st++lp)):Int)>64)=true then k [.d false 0 (D.ifc 84 (D.int .i64 1))] []else if List.length (st++lp)≤34359738368 then match anyBad ns.length (st++lp)with
   |some b95=>if b95=true then k [.d false 0 (D.ifc 84 (D.int .i64 1))] []else k [.d false 0 D.nili] []
   |none=>none else none else none:=by kernel_rfl
end B38
end Go.Sd
namespace Go.Sc
def ltB (b:Option Nat) (m:Nat):Prop:=match b with|none=>True|some n=>m<n
instance (b:Option Nat) (m:Nat):Decidable (ltB b m):=by unfold ltB;cases b<;>infer_instance
end Go.Sc
namespace Go.Cm
theorem EnvOk.lims {gl:Gl} {P:Program} {E:Env} {En:Nat→Env} (h0:EnvOk gl P (En 0)) (hs:∀n,EnvOk gl P (En n)→EnvOk gl P (En (n+1)))
  (hc:∀(β:Type) (g:FuncId) (args:List TV) (k:List TV→List TV→Option β) (r:β),E.c g args k=some r→∃n,(En n).c g args k=some r):EnvOk gl P E:=by
 have h:∀n,EnvOk gl P (En n):=fun n=>by
  induction n with
  |zero=>exact h0
  |succ n ih=>exact hs n ih
 intro β g args k r hr
 obtain⟨n,hn⟩:=hc β g args k r hr
 exact h n β g args k r hn
theorem EnvOk.rec1 {gl:Gl} {P:Program} {E:Env} {f:FuncId} {io:Nat→Bool} (c:Option Nat→{β:Type}→List TV→(List TV→List TV→Option β)→Option β) (hE:EnvOk gl P E)
  (h0:∀(β:Type) (args:List TV) (k:List TV→List TV→Option β) (r:β),c (some 0) args k=some r→False)
  (hs:∀n,EnvOk gl P (E.add f io (c (some n)))→∀(β:Type) (args:List TV) (k:List TV→List TV→Option β) (r:β),c (some (n+1)) args k=some r→∃res outs,k res outs=some r∧Valid gl P f args res outs)
  (hl:∀(β:Type) (args:List TV) (k:List TV→List TV→Option β) (r:β),c Option.none args k=some r→∃n,c (some n) args k=some r):EnvOk gl P (E.add f io (c Option.none)):=by
 refine EnvOk.lims (En:=fun n=>E.add f io (c (some n))) (hE.add fun β args k r hr=>(h0 β args k r hr).elim) (fun n ih=>hE.add fun β args k r hr=>hs n ih β args k r hr) fun β g args k r hr=>?_
 simp only[Env.add]at hr ⊢
 cases hg:Nat.beq g f with
 |false=>simp only[hg]at hr ⊢;exact⟨0,hr⟩
 |true=>simp only[hg]at hr ⊢;exact hl β args k r hr
end Go.Cm
set_option maxRecDepth 100000
namespace Go.Sc
open Go Go.Cm
def bDL (l:List (List Bool)):List D:=l.map fun a=>.sl 0 (bD a)
theorem bDL_len (l:List (List Bool)):(bDL l).length=l.length:=by simp[bDL]
end Go.Sc
namespace Go.Sd
open Go Go.Cm Go.Proofs Go.Sc
theorem each70 (op nm:ByteArray) (ks:List D) (p:Int) (n:Nat):eachB 70 [.d true 0 (.pt 5 (.ag [.str op,.str nm,.sl 5 ks,.int .i64 p]))] n=some (List.replicate n (op.toList==[116,114,117,101])):=by
 have:(fun i:Int=>semB 70 (.d true 0 (.int .i64 i)::[.d true 0 (.pt 5 (.ag [.str op,.str nm,.sl 5 ks,.int .i64 p]))]))=fun _=>some (op.toList==[116,114,117,101]):=by
  funext i;unfold semB;simp only[sem1,if_neg (show ¬(70=59)by decide),if_pos]
 unfold eachB;rw[this];exact eachS_const _ n 0
theorem tru_loop {b:Option Nat} {ns al:List D} {bk:Int} {op nm:ByteArray} {p:Int} {fs:List Fm} (hl:fs.length≤4096) (hb:∀f∈fs,bd b f) (h1:al.length≤34359738368) (h2:ns.length≤34359738368):
  ∀(gs:List Fm) (i:Nat) (acc:List (List Bool)),fs.drop i=gs→acc.length=i→i≤fs.length→
  match truthL ns al bk gs with
  |none=>True
  |some (.inl e)=>Lp (T46.L0 b) (T46.s0 ns al bk op nm (Fm.dL fs) p (bDL acc) i)=some (.ret,T46.e0r e)
  |some (.inr l)=>Lp (T46.L0 b) (T46.s0 ns al bk op nm (Fm.dL fs) p (bDL acc) i)=some (.exit 0,T46.e0x0 ns al bk op nm (Fm.dL fs) p (bDL (acc++l)))
 |[],i,acc,hi,ha,hle=>by
  have hr:=T46.round0_0 b ns al bk op nm (Fm.dL fs) p (bDL acc) i
  have:fs.length≤i:=by have:=congrArg List.length hi;simp at this;omega
  rw[dL_len,if_neg (by simp;omega)]at hr
  simp only[truthL,List.append_nil]
  exact Lp_exit hr
 |f::gs,i,acc,hi,ha,hle=>by
  have hr:=T46.round0_0 b ns al bk op nm (Fm.dL fs) p (bDL acc) i
  have hlt:i<fs.length:=by
   rcases Nat.lt_or_ge i fs.length with h|h
   ·exact h
   ·rw[List.drop_eq_nil_of_le h]at hi;cases hi
  have hc:=List.drop_eq_getElem_cons hlt
  rw[hi]at hc
  have hf:fs[i]=f:=(List.cons.inj hc).1.symm
  have hgs:fs.drop (i+1)=gs:=(List.cons.inj hc).2.symm
  rw[dL_len,if_pos (by simp;omega),if_pos (by omega),Int.toNat_natCast,dL_get hlt,hf]at hr
  have hbf:=hb f (hf▸List.getElem_mem hlt)
  have ih:=fun a=>tru_loop (bk:=bk) (op:=op) (nm:=nm) (p:=p) hl hb h1 h2 gs (i+1) (acc++[a]) hgs (by simp[ha]) (by omega)
  cases f with
  |mk o n ks q=>
   have hof:=ofD_d (.mk o n ks q)
   simp only[Fm.d]at hr hof
   simp only[hof,if_true,if_pos (show bd b (.mk o n ks q)∧al.length≤34359738368∧ns.length≤34359738368 from⟨hbf,h1,h2⟩),wrap_id (show -9223372036854775808≤(i:Int)+1 by omega) (by omega)]at hr
   simp only[truthL]
   cases ht:truthF ns al bk (.mk o n ks q)with
   |none=>trivial
   |some v=>
    cases v with
    |inl e=>
     simp only[ht]at hr
     exact Lp_exit hr
    |inr a=>
     simp only[ht]at hr
     rw[if_pos (by rw[bDL_len];omega)]at hr
     have e1:bDL acc++[D.sl 0 (bD a)]=bDL (acc++[a]):=by simp[bDL]
     rw[e1]at hr
     have ih:=ih a
     have e2:((i+1:Nat):Int)=(i:Int)+1:=by omega
     rw[e2]at ih
     cases hL:truthL ns al bk gs with
     |none=>trivial
     |some v=>
      rw[hL]at ih
      cases v with
      |inl e=>exact Lp_step hr ih
      |inr l=>
       simp only[List.append_assoc,List.singleton_append]at ih
       exact Lp_step hr ih
theorem ev_tru {b:Option Nat} {ns al:List D} {bk:Int} {f:Fm} (hs:f.sm=true) (hb:∀n,b=some n→f.dep≤n) (h1:al.length≤34359738368) (h2:ns.length≤34359738368) (hn:truthF ns al bk f≠none) {γ:Type} (q:List TV→List TV→Option γ):
  evalF Tryz.prog (W9 b) Tryz.f46 [.d true 0 (.pt 4 (.ag [.sl 0 ns,.sl 0 al,.int .i64 bk])),.d true 5 f.d] q=ansL q (truthF ns al bk f):=by
 cases f with
 |mk op nm ks p=>
  simp only[Fm.sm,Bool.and_eq_true,Nat.ble_eq]at hs
  have h:=tru_loop (b:=b) (ns:=ns) (al:=al) (bk:=bk) (op:=op) (nm:=nm) (p:=p) hs.1 (fun g hg=>bd_none ⟨sm_mem hs.2 hg,trivial⟩ fun n hn=>by
   have h1:=hb n hn
   have h2:=dep_mem hg
   simp only[Fm.dep]at h1
   omega) h1 h2 ks 0 [] rfl rfl (by omega)
  have st:=T46.start b ns al bk op nm (Fm.dL ks) p q
  simp only[Fm.d]
  rw[st]
  simp only[truthF]at hn ⊢
  cases hL:truthL ns al bk ks with
  |none=>rw[hL]at hn;exact(hn rfl).elim
  |some v=>
   rw[hL]at h hn
   cases v with
   |inl e=>
    simp only at h
    have h':Lp (T46.L0 b) (T46.s0 ns al bk op nm (Fm.dL ks) p [] 0)=_:=h
    rw[goLp_of h',T46.behind0r]
    rfl
   |inr l=>
    simp only[List.nil_append]at h
    have h':Lp (T46.L0 b) (T46.s0 ns al bk op nm (Fm.dL ks) p [] 0)=_:=h
    rw[goLp_of h',T46.behind0x0]
    simp only[bDL_len,if_pos h1,if_pos (show al.length≤34359738368∧ns.length≤34359738368 from⟨h1,h2⟩),each70]
    match l with
    |[]=>
     by_cases ht:(op.toList==[116,114,117,101])=true
     ·simp only[List.length_nil,ht];rfl
     ·by_cases hf:(op.toList==[102,97,108,115,101])=true
      ·simp only[List.length_nil,ht,hf];rfl
      ·by_cases hlb:(op.toList==[108,97,98,101,108])=true
       ·simp only[List.length_nil,ht,hf,hlb]
        generalize labelB ns al bk nm=z
        rcases z with _|_|_<;>rfl
       ·simp only[List.length_nil,ht,hf,hlb];rfl
    |[a]=>
     simp only[bDL,List.map_cons,List.map_nil,List.length_cons,List.length_nil]
     generalize hz:oneB ns al bk op (bD a)=z
     simp[hz]
     rcases z with _|_|_<;>rfl
    |[a,c]=>
     simp only[bDL,List.map_cons,List.map_nil,List.length_cons,List.length_nil]
     generalize hz:twoB al bk op (bD a) (bD c)=z
     simp[hz]
     rcases z with _|_|_<;>rfl
    |a::c::d::r=>
     have e0:¬((((a::c::d::r).length:Nat):Int)==0)=true:=by simp;omega
     have e1:¬((((a::c::d::r).length:Nat):Int)==1)=true:=by simp;omega
     have e2:¬((((a::c::d::r).length:Nat):Int)==2)=true:=by simp;omega
     rw[if_neg e0,if_neg e1,if_neg e2]
     rfl
theorem envw9:EnvOk glS Tryz.prog (W9 none):=by
 refine EnvOk.rec1 (fun b {β} args k=>cTruths b args k) envw8 ?_ ?_ ?_
 ·intro β args k r hr
  unfold cTruths at hr
  split at hr
  ·split at hr
   ·obtain⟨h,_⟩:=chkK_ok hr
    have:=h.1.2;simp only at this;omega
   ·cases hr
  ·cases hr
 ·intro n ih β args k r hr
  unfold cTruths at hr
  split at hr
  ·rename_i ns al bk x
   split at hr
   ·rename_i f hf
    obtain⟨⟨h0,h1,h2⟩,hr⟩:=chkK_ok hr
    obtain⟨res,outs,h3,h4⟩:=ansL_out hr
    refine⟨res,outs,h3,valid_of ih mixed Tryz.func46 (by kernel_rfl) (Eq.trans ?_ (h4 fun a b=>some (a,b)))⟩
    rw[d_ofD _ _ hf]
    exact ev_tru (b:=some n) h0.1 (fun m hm=>by cases hm;have:=h0.2;simp only at this;omega) h1 h2 (fun e=>by rw[e]at hr;cases hr) _
   ·cases hr
  ·cases hr
 ·intro β args k r hr
  unfold cTruths at hr
  split at hr
  ·rename_i ns al bk x
   split at hr
   ·rename_i f hf
    obtain⟨⟨h0,h1,h2⟩,hr⟩:=chkK_ok hr
    refine⟨f.dep+1,?_⟩
    unfold cTruths
    simp only[hf]
    unfold chkK
    rw[if_pos ⟨⟨h0.1,by simp⟩,h1,h2⟩]
    exact hr
   ·cases hr
  ·cases hr
end Go.Sd
namespace Go.Sd
open Go Go.Cm Go.Proofs Go.Sc
set_option maxRecDepth 100000
namespace B91
noncomputable def X:Fx:=⟨Tryz.prog,WC,16,2⟩
def s0 (xs:List D) (f:Nat) (sh:Nat) (x:D) (x20:Int):S:=⟨Tm.mk 19 [(0,.d true 0 (D.sl 0 xs)),(1,.d true 0 (D.fn f [D.pt sh x])),(7,.d false 0 (D.int .i64 (xs.length:Int))),(8,.d false 0 (D.int .i64 x20))],[]⟩
def e0r (x42:Int):S:=⟨Tm.mk 19 [(4,.d false 0 (D.int .i64 x42))],[]⟩
def e0x0:S:=⟨Tm.mk 19 [],[]⟩
noncomputable abbrev L0:S→Option (S ⊕ (Ex×S)):=roundK X [(0,0)] (sub [1,0,1,0,0] (body Tryz.f91))
theorem start {β:Type} (xs:List D) (f:Nat) (sh:Nat) (x:D) (k:List TV→List TV→Option β):evalF Tryz.prog WC Tryz.f91 [.d true 0 (D.sl 0 xs),.d true 0 (D.fn f [D.pt sh x])] k=goLp X [(0,0)] (sub [1,0,1,0,0] (body Tryz.f91)) [Kf.block 0 0,Kf.seq [] (sub [1,1] (body Tryz.f91)) 16] (finK Tryz.prog Tryz.f91 [.d true 0 (D.sl 0 xs),.d true 0 (D.fn f [D.pt sh x])] k) (s0 xs f sh x (0:Int)):=by kernel_rfl
theorem round0 (xs:List D) (f:Nat) (sh:Nat) (x:D) (x20:Int):roundK X [(0,0)] (sub [1,0,1,0,0] (body Tryz.f91)) (s0 xs f sh x x20)=if decide (x20<(xs.length:Int))=true then if 0≤x20 then match xs[x20.toNat]? with
   |some x50=>match x50 with
    |D.int j51 m52=>if j51=IntKind.i64 then match semB f [.d true 0 (D.int .i64 m52),.d true 0 (D.pt sh x)]with
     |some b53=>if b53=true then some (Sum.inr (Ex.ret,e0r x20))else some (Sum.inl (s0 xs f sh x (IntKind.wrap .i64 (x20+1))))
     |none=>none else none
    |x=>none
   |none=>none else none else some (Sum.inr (Ex.exit 0,e0x0)):=by kernel_rfl
theorem behind0r {β:Type} (xs:List D) (f:Nat) (sh:Nat) (x:D) (x42:Int) (k:List TV→List TV→Option β):applyK X (finK Tryz.prog Tryz.f91 [.d true 0 (D.sl 0 xs),.d true 0 (D.fn f [D.pt sh x])] k) [Kf.block 0 0,Kf.seq [] (sub [1,1] (body Tryz.f91)) 16] Ex.ret (e0r x42)=k [.d false 0 (D.int .i64 x42)] []:=by kernel_rfl
theorem behind0x0 {β:Type} (xs:List D) (f:Nat) (sh:Nat) (x:D) (k:List TV→List TV→Option β):applyK X (finK Tryz.prog Tryz.f91 [.d true 0 (D.sl 0 xs),.d true 0 (D.fn f [D.pt sh x])] k) [Kf.block 0 0,Kf.seq [] (sub [1,1] (body Tryz.f91)) 16] (Ex.exit 0) e0x0=k [.d false 0 (D.int .i64 (-1:Int))] []:=by kernel_rfl
end B91
end Go.Sd
namespace Go.Sc
open Go Go.Cm
def idxBad (n:Nat):List D→Nat→Option Int
 |[],_=>some (-1)
 |x::r,i=>match x with
  |.int .i64 v=>if badI n v=true then some i else idxBad n r (i+1)
  |_=>none
end Go.Sc
namespace Go.Sd
open Go Go.Cm Go.Proofs Go.Sc
def cIdxI {β:Type} (args:List TV) (k:List TV→List TV→Option β):Option β:=
 match args with
 |[.d true 0 (.sl 0 xs),.d true 0 (.fn 59 [.pt 0 (.sl 0 ns)])]=>chkK (xs.length≤big) (match idxBad ns.length xs 0 with|some b=>k [.d false 0 (.int .i64 b)] []|none=>none)
 |_=>none
def WI:Env:=W2.add 91 io0 cIdxI
end Go.Sd
namespace Go.Sd
open Go Go.Cm Go.Proofs Go.Sc
set_option maxRecDepth 100000
namespace B60
noncomputable def X:Fx:=⟨Tryz.prog,WI,16,2⟩
theorem start {β:Type} (xs:List D) (ns:List D) (k:List TV→List TV→Option β):evalF Tryz.prog WI Tryz.f60 [.d true 0 (D.sl 0 xs),.d true 0 (D.fn (59:FuncId) [D.pt 0 (D.sl 0 ns)])] k=if xs.length≤34359738368 then match idxBad ns.length xs 0 with
   |some b2=>k [.d false 0 (D.bool (decide (b2≥0)))] []
   |none=>none else none:=by kernel_rfl
end B60
end Go.Sd
set_option maxRecDepth 100000
namespace Go.Sc
open Go Go.Cm
theorem idxBad_any {n:Nat}:∀(xs:List D) (i:Nat),(match idxBad n xs i with|some v=>some (decide (v≥0))|none=>none)=anyBad n xs
 |[],i=>rfl
 |.int .i64 v::r,i=>by
  have ih:=idxBad_any (n:=n) r (i+1)
  simp only[idxBad,anyBad]
  by_cases h:badI n v=true
  ·simp only[if_pos h]
   have:((i:Int)≥0):=by omega
   simp[this]
  ·simp only[if_neg h]
   exact ih
 |.int .i8 _::_,_|.int .i16 _::_,_|.int .i32 _::_,_|.int .u8 _::_,_|.int .u16 _::_,_|.int .u32 _::_,_|.int .u64 _::_,_=>rfl
 |.bool _::_,_|.str _::_,_|.nilp::_,_|.nilm::_,_|.nilf::_,_|.nili::_,_|.nilsl::_,_|.ifc _ _::_,_|.ag _::_,_|.sl _ _::_,_|.pt _ _::_,_|.mp _ _::_,_|.fn _ _::_,_=>rfl
def seenM (P:Program):List D→List D→Option (List D)
 |[],m=>some m
 |x::r,m=>match x with
  |.str s=>match findM P 9 (.str s) m 0 with
   |some q=>seenM P r (updM m (.str s) (.bool true) q)
   |none=>none
  |_=>none
def checkS (P:Program) (ns st lp:List D):Option Bool:=
 match seenM P ns []with
 |none=>none
 |some m=>
  if ns.length>6 then some false
  else if m.length≠ns.length then some false
  else if lp.length=0 then some false
  else if(st++lp).length>64 then some false
  else(anyBad ns.length (st++lp)).map (!·)
end Go.Sc
namespace Go.Sd
open Go Go.Cm Go.Proofs Go.Sc
theorem bad_loop {xs ns:List D} (hn:xs.length≤34359738368):∀(r:List D) (i:Nat) (v:Int),xs.drop i=r→idxBad ns.length r i=some v→
  (v= -1∧Lp B91.L0 (B91.s0 xs 59 0 (.sl 0 ns) i)=some (.exit 0,B91.e0x0))∨(0≤v∧Lp B91.L0 (B91.s0 xs 59 0 (.sl 0 ns) i)=some (.ret,B91.e0r v))
 |[],i,v,hd,h=>by
  simp only[idxBad,Option.some.injEq]at h
  subst h
  have hr:=B91.round0 xs 59 0 (.sl 0 ns) i
  have:xs.length≤i:=by have:=congrArg List.length hd;simp at this;omega
  rw[if_neg (by simp;omega)]at hr
  exact .inl ⟨rfl,Lp_exit hr⟩
 |x::r,i,v,hd,h=>by
  have hr:=B91.round0 xs 59 0 (.sl 0 ns) i
  have hlt:i<xs.length:=by
   rcases Nat.lt_or_ge i xs.length with h|h
   ·exact h
   ·rw[List.drop_eq_nil_of_le h]at hd;cases hd
  have hc:=List.drop_eq_getElem_cons hlt
  rw[hd]at hc
  have hx:xs[i]? =some x:=by rw[List.getElem?_eq_getElem hlt, ←(List.cons.inj hc).1]
  rw[if_pos (by simp;omega),if_pos (by omega),Int.toNat_natCast,hx]at hr
  simp only[idxBad]at h
  split at h
  ·rename_i m
   have hs:semB 59 [.d true 0 (.int .i64 m),.d true 0 (.pt 0 (.sl 0 ns))]=some (badI ns.length m):=by unfold semB;simp only[sem1,if_pos]
   simp only[if_true,hs]at hr
   split at h
   ·rename_i he
    cases h
    rw[if_pos he]at hr
    exact .inr ⟨by omega,Lp_exit hr⟩
   ·rename_i he
    rw[if_neg he,wrap_id (by omega) (by omega)]at hr
    rcases bad_loop hn r (i+1) v (List.cons.inj hc).2.symm h with⟨h1,h3⟩|⟨h1,h3⟩
    ·exact .inl ⟨h1,Lp_step hr h3⟩
    ·exact .inr ⟨h1,Lp_step hr h3⟩
  ·cases h
theorem envwi:EnvOk glS Tryz.prog WI:=envw2.add fun β args k r hr=>by
 unfold cIdxI at hr
 split at hr
 ·rename_i xs ns
  obtain⟨h0,hr⟩:=chkK_ok hr
  split at hr
  ·rename_i v hv
   refine⟨_,_,hr,valid_of envwc mixed Tryz.func91 (by kernel_rfl) ?_⟩
   rw[B91.start]
   rcases bad_loop h0 xs 0 v rfl hv with⟨rfl,h⟩|⟨_,h⟩
   ·have h':Lp B91.L0 (B91.s0 xs 59 0 (.sl 0 ns) 0)=_:=h
    rw[goLp_of h',B91.behind0x0]
   ·have h':Lp B91.L0 (B91.s0 xs 59 0 (.sl 0 ns) 0)=_:=h
    rw[goLp_of h',B91.behind0r]
  ·cases hr
 ·cases hr
theorem envw10:EnvOk glS Tryz.prog W10:=envw2.add fun β args k r hr=>by
 unfold cHasI at hr
 split at hr
 ·rename_i xs ns
  obtain⟨h0,hr⟩:=chkK_ok hr
  have hbig:big=34359738368:=rfl
  split at hr
  ·rename_i b hb
   refine⟨_,_,hr,valid_of envwi mixed Tryz.func60 (by kernel_rfl) ?_⟩
   rw[B60.start,if_pos (by omega)]
   rw[←idxBad_any xs 0]at hb
   cases hv:idxBad ns.length xs 0 with
   |none=>rw[hv]at hb;cases hb
   |some v=>rw[hv]at hb;cases hb;rfl
  ·cases hr
 ·cases hr
noncomputable def cCheck {β:Type} (args:List TV) (k:List TV→List TV→Option β):Option β:=
 match args with
 |[.d true 0 (.sl 0 ns),.d true 3 (.ag [.sl 0 st,.sl 0 lp])]=>chkK (ns.length≤big∧st.length+lp.length≤big) (match checkS Tryz.prog ns st lp with
  |some true=>k [.d false 0 .nili] []
  |some false=>k [.d false 0 (.ifc 84 (.int .i64 1))] []
  |none=>none)
 |_=>none
theorem seen_loop {ns st lp:List D} (hn:ns.length≤34359738368):∀(r:List D) (i:Nat) (m m':List D),ns.drop i=r→seenM Tryz.prog r m=some m'→
  Lp B38.L0 (B38.s0 ns st lp m i)=some (.exit 0,B38.e0x0 ns st lp m')
 |[],i,m,m',hd,h=>by
  simp only[seenM,Option.some.injEq]at h
  subst h
  have hr:=B38.round0 ns st lp m i
  have:ns.length≤i:=by have:=congrArg List.length hd;simp at this;omega
  rw[if_neg (by simp;omega)]at hr
  exact Lp_exit hr
 |x::r,i,m,m',hd,h=>by
  have hr:=B38.round0 ns st lp m i
  have hlt:i<ns.length:=by
   rcases Nat.lt_or_ge i ns.length with h|h
   ·exact h
   ·rw[List.drop_eq_nil_of_le h]at hd;cases hd
  have hc:=List.drop_eq_getElem_cons hlt
  rw[hd]at hc
  have hx:ns[i]? =some x:=by rw[List.getElem?_eq_getElem hlt, ←(List.cons.inj hc).1]
  rw[if_pos (by simp;omega),if_pos (by omega),Int.toNat_natCast,hx]at hr
  simp only[seenM]at h
  split at h
  ·rename_i s
   simp only at hr
   split at h
   ·rename_i q hq
    simp only[hq,wrap_id (show -9223372036854775808≤(i:Int)+1 by omega) (by omega)]at hr
    exact Lp_step hr (seen_loop hn r (i+1) _ m' (List.cons.inj hc).2.symm h)
   ·cases h
  ·cases h
noncomputable def W11:Env:=W10.add 38 io0 cCheck
theorem envw11:EnvOk glS Tryz.prog W11:=envw10.fn mixed Tryz.func38 (by kernel_rfl) fun β args k r hr=>by
 unfold cCheck at hr
 have hbig:big=34359738368:=rfl
 split at hr
 ·rename_i ns st lp
  obtain⟨⟨h0,h1⟩,hr⟩:=chkK_ok hr
  rw[hbig]at h0 h1
  cases hc:checkS Tryz.prog ns st lp with
  |none=>rw[hc]at hr;cases hr
  |some b=>
   have key:∀{γ:Type} (q:List TV→List TV→Option γ),evalF Tryz.prog W10 Tryz.f38 [.d true 0 (.sl 0 ns),.d true 3 (.ag [.sl 0 st,.sl 0 lp])] q=match b with
     |true=>q [.d false 0 .nili] []
     |false=>q [.d false 0 (.ifc 84 (.int .i64 1))] []:=by
    intro γ q
    unfold checkS at hc
    cases hm:seenM Tryz.prog ns []with
    |none=>rw[hm]at hc;cases hc
    |some m=>
     rw[hm]at hc
     simp only at hc
     have hl:Lp B38.L0 (B38.s0 ns st lp [] 0)=_:=seen_loop (st:=st) (lp:=lp) h0 ns 0 [] m rfl hm
     rw[B38.start,goLp_of hl,B38.behind0x0,if_pos h1]
     by_cases c1:ns.length>6
     ·rw[if_pos c1]at hc;cases hc
      rw[if_pos (by simp;omega)]
     ·rw[if_neg c1]at hc
      rw[if_neg (by simp;omega)]
      by_cases c2:m.length≠ns.length
      ·rw[if_pos c2]at hc;cases hc
       rw[if_pos (by simp;omega)]
      ·rw[if_neg c2]at hc
       rw[if_neg (by simp;omega)]
       by_cases c3:lp.length=0
       ·rw[if_pos c3]at hc;cases hc
        rw[if_pos (by simpa using c3)]
       ·rw[if_neg c3]at hc
        rw[if_neg (by simpa using c3)]
        by_cases c4:(st++lp).length>64
        ·rw[if_pos c4]at hc;cases hc
         rw[if_pos (by simp at c4 ⊢;omega)]
        ·rw[if_neg c4]at hc
         rw[if_neg (by simp at c4 ⊢;omega),if_pos (by rw[List.length_append];exact h1)]
         cases hb:anyBad ns.length (st++lp)with
         |none=>rw[hb]at hc;cases hc
         |some v=>
          rw[hb]at hc
          cases hc
          cases v<;>rfl
   rw[hc]at hr
   cases b with
   |true=>exact⟨_,_,hr,fun q=>key q⟩
   |false=>exact⟨_,_,hr,fun q=>key q⟩
 ·cases hr
end Go.Sd
namespace Go.Sc
open Go Go.Cm
def wantN (op:ByteArray):Int:=
 if(op.toList==[116,114,117,101])=true∨(op.toList==[102,97,108,115,101])=true∨(op.toList==[108,97,98,101,108])=true then 0
 else if(op.toList==[33])=true∨(op.toList==[88])=true∨(op.toList==[70])=true∨(op.toList==[71])=true then 1
 else if(op.toList==[38])=true∨(op.toList==[124])=true∨(op.toList==[61,62])=true∨(op.toList==[85])=true∨(op.toList==[87])=true∨(op.toList==[82])=true then 2
 else -1
mutual
def lformF:Fm→Bool
 |.mk op _ ks _=>decide ((ks.length:Int)=wantN op)&&lformL ks
def lformL:List Fm→Bool
 |[]=>true
 |f::fs=>lformF f&&lformL fs
end
def idxNF:List Fm→Nat→Int
 |[],_=> -1
 |f::fs,i=>if lformF f=true then idxNF fs (i+1)else i
end Go.Sc
namespace Go.Sd
open Go Go.Cm Go.Proofs Go.Sc
def cLF {β:Type} (b:Option Nat) (args:List TV) (k:List TV→List TV→Option β):Option β:=
 match args with
 |[.d true 5 x]=>match ofD x with
  |some f=>chkK (bd b f) (k [.d false 0 (.bool (lformF f))] [])
  |none=>none
 |_=>none
def cLN {β:Type} (b:Option Nat) (args:List TV) (k:List TV→List TV→Option β):Option β:=
 match args with
 |[.d true 5 x]=>match ofD x with
  |some f=>chkK (bd b f) (k [.d false 0 (.bool (!lformF f))] [])
  |none=>none
 |_=>none
def cLI {β:Type} (b:Option Nat) (args:List TV) (k:List TV→List TV→Option β):Option β:=
 match args with
 |[.d true 0 (.sl 5 ys),.d true 0 (.fn 67 [])]=>match ofDL ys with
  |some fs=>chkK (bdL b fs) (k [.d false 0 (.int .i64 (idxNF fs 0))] [])
  |none=>none
 |_=>none
def cLC {β:Type} (b:Option Nat) (args:List TV) (k:List TV→List TV→Option β):Option β:=
 match args with
 |[.d true 0 (.sl 5 ys),.d true 0 (.fn 67 [])]=>match ofDL ys with
  |some fs=>chkK (bdL b fs) (k [.d false 0 (.bool (!lformL fs))] [])
  |none=>none
 |_=>none
def WF (B:Option Nat×Option Nat×Option Nat×Option Nat):Env:=(((Env.none.add 44 io0 (cLF B.1)).add 67 io0 (cLN B.2.1)).add 96 io0 (cLI B.2.2.1)).add 66 io0 (cLC B.2.2.2)
end Go.Sd

/- Truths of a formula over a lasso: what it says of the word. -/
import Derived.Test.YtbpndgllhhajoaaGreatDoorLd
import Derived.Test.YtbpndgllhhajoaaGreatDoorPe
set_option linter.unusedVariables false
set_option linter.unusedSimpArgs false
namespace Go.Sc
open Go Go.Cm
open Go.Sd (wrap_id)
theorem nxt_nat {n bk i:Nat} (hn:n≤34359738368) (hi:i<n):nxt n bk i=((nxN n bk i:Nat):Int):=by
 unfold nxt nxN
 rw[wrap_id (by omega) (by omega)]
 by_cases h:i+1<n
 ·rw[if_pos h,if_pos (by omega)];omega
 ·rw[if_neg h,if_neg (by omega)]
theorem pass_fin {now:Int→Bool→Option Bool} {p q:Nat→Bool} {n bk:Nat} (hb:bk<n) (hn:n≤34359738368) (hnow:∀(i:Nat) (l:Bool),i<n→now (i:Int) l=some (p i||(q i&&l))) (e:Bool):
  ∀(m:Nat) (l:List Bool),m≤n→l.length=n→(∀i,m≤i→i<n→l[i]? =some (finB p q e (n - i) i))→(bk<m→l[bk]? =some e)→
   ∃r,passS now n bk m l=some r∧r.length=n∧∀i,i<n→r[i]? =some (finB p q e (n - i) i)
 |0,l,hm,hl,hd,he=>⟨l,rfl,hl,fun i hi=>hd i (by omega) hi⟩
 |m+1,l,hm,hl,hd,he=>by
  have hx:l[(nxt n bk m).toNat]? =some (finB p q e (n - (m+1)) (m+1)):=by
   rw[nxt_nat hn (by omega),Int.toNat_natCast];unfold nxN
   split
   ·rename_i h;exact hd (m+1) (by omega) h
   ·rename_i h;rw[show n - (m+1)=0 by omega];exact he (by omega)
  have h0:0≤nxt n bk m:=by rw[nxt_nat hn (by omega)];omega
  simp only[passS]
  rw[if_pos h0,hx]
  simp only
  rw[hnow m _ (by omega)]
  simp only
  refine pass_fin hb hn hnow e m _ (by omega) (by rw[List.length_set];exact hl) (fun i h1 h2=>?_) (fun h=>?_)
  ·rw[List.getElem?_set]
   split
   ·rename_i hi
    subst hi
    rw[if_pos (by omega),show n - m=(n - (m+1))+1 by omega];rfl
   ·exact hd i (by omega) h2
  ·rw[List.getElem?_set,if_neg (by omega)]
   exact he (by omega)
theorem getD_of {l:List Bool} {i:Nat} {b:Bool} (h:l[i]? =some b):l.getD i false=b:=by rw[List.getD_eq_getElem?_getD,h];rfl
theorem along_ex {g:Nat} {cs:List TV} {p q:Nat→Bool} {n bk:Nat} (hb:bk<n) (hn:n≤34359738368) (t:Bool)
  (hnow:∀(i:Nat) (l:Bool),i<n→nowB g (.d true 0 (.int .i64 (i:Int))::.d true 0 (.bool l)::cs)=some (p i||(q i&&l))):
  ∃l,alongB g cs n bk t=some l∧l.length=n∧∀i,i<n→l.getD i false=walkB p q n bk t i:=by
 obtain⟨r1,h1,h2,h3⟩:=pass_fin (now:=fun i l=>nowB g (.d true 0 (.int .i64 i)::.d true 0 (.bool l)::cs)) hb hn hnow t n (List.replicate n t) (Nat.le_refl _) (by simp) (fun i a b=>absurd b (by omega)) (fun h=>by simp[h])
 obtain⟨r2,h4,h5,h6⟩:=pass_fin (now:=fun i l=>nowB g (.d true 0 (.int .i64 i)::.d true 0 (.bool l)::cs)) hb hn hnow (edgeB p q n bk t) n r1 (Nat.le_refl _) h2 (fun i a b=>absurd b (by omega)) (fun h=>h3 bk h)
 refine⟨r2,?_,h5,fun i hi=>getD_of (h6 i hi)⟩
 unfold alongB alongS
 rw[h1];exact h4
theorem each_fn {sem:Int→Option Bool} {f:Nat→Bool}:∀(m i:Nat),(∀j:Nat,i≤j→j<i+m→sem (j:Int)=some (f j))→∃bs,eachS sem i m=some bs∧bs.length=m∧∀j,j<m→bs[j]? =some (f (i+j))
 |0,i,h=>⟨[],rfl,rfl,fun j hj=>absurd hj (Nat.not_lt_zero _)⟩
 |m+1,i,h=>by
  obtain⟨bs,h1,h2,h3⟩:=each_fn m (i+1) (fun j a b=>h j (by omega) (by omega))
  refine⟨f i::bs,?_,by simp[h2],fun j hj=>?_⟩
  ·simp only[eachS]
   rw[h i (Nat.le_refl _) (by omega)]
   simp only
   rw[h1];rfl
  ·cases j with
   |zero=>rfl
   |succ j=>rw[List.getElem?_cons_succ,h3 j (by omega),show i+1+j=i+(j+1)by omega]
theorem each_ex {g:Nat} {cs:List TV} {f:Nat→Bool} {n:Nat} (h:∀i:Nat,i<n→semB g (.d true 0 (.int .i64 (i:Int))::cs)=some (f i)):
  ∃l,eachB g cs n=some l∧l.length=n∧∀i,i<n→l.getD i false=f i:=by
 obtain⟨bs,h1,h2,h3⟩:=each_fn (sem:=fun i=>semB g (.d true 0 (.int .i64 i)::cs)) (f:=f) n 0 (fun j _ b=>h j (by omega))
 exact⟨bs,h1,h2,fun i hi=>getD_of (by rw[h3 i hi,Nat.zero_add])⟩
theorem bAt_bD {l:List Bool} {i:Nat} (h:i<l.length):bAt (bD l) (i:Int)=some (l.getD i false):=by
 unfold bAt
 rw[if_pos (by omega),Int.toNat_natCast]
 simp[bD,h]
section
variable {ns al:List D} {n bk:Nat} {a:Nat→Int}
structure Wd (al:List D) (n bk:Nat) (a:Nat→Int):Prop where
 len:al.length=n
 bk:bk<n
 big:n≤34359738368
 at':∀i,i<n→al[i]? =some (.int .i64 (a i))
structure Ts (n:Nat) (l:List Bool) (f:Nat→Bool):Prop where
 len:l.length=n
 at':∀i,i<n→l.getD i false=f i
theorem Ts.b {l:List Bool} {f:Nat→Bool} (h:Ts n l f) {i:Nat} (hi:i<n):bAt (bD l) (i:Int)=some (f i):=by rw[bAt_bD (by rw[h.len];exact hi),h.at' i hi]
theorem until_ex (hw:Wd al n bk a) {x y:List Bool} {f g:Nat→Bool} (hx:Ts n x f) (hy:Ts n y g):∃l,untilB al.length bk (bD x) (bD y)=some l∧Ts n l (walkB g f n bk false):=by
 obtain⟨l,h1,h2,h3⟩:=along_ex (g:=120) (cs:=[.d true 0 (.pt 0 (.sl 0 (bD y))),.d true 0 (.pt 0 (.sl 0 (bD x)))]) (p:=g) (q:=f) hw.bk hw.big false (fun i l hi=>by
  simp only[nowB,now2]
  rw[hx.b hi,hy.b hi]
  cases g i<;>cases f i<;>cases l<;>rfl)
 exact⟨l,by rw[hw.len];exact h1,h2,h3⟩
theorem forever_ex (hw:Wd al n bk a) {x:List Bool} {f:Nat→Bool} (hx:Ts n x f):∃l,foreverB al.length bk (bD x)=some l∧Ts n l (walkB (fun _=>false) f n bk true):=by
 obtain⟨l,h1,h2,h3⟩:=along_ex (g:=121) (cs:=[.d true 0 (.pt 0 (.sl 0 (bD x)))]) (p:=fun _=>false) (q:=f) hw.bk hw.big true (fun i l hi=>by
  simp only[nowB,now1]
  rw[hx.b hi]
  cases f i<;>cases l<;>rfl)
 exact⟨l,by rw[hw.len];exact h1,h2,h3⟩
theorem rel_ex (hw:Wd al n bk a) {x y:List Bool} {f g:Nat→Bool} (hx:Ts n x f) (hy:Ts n y g):∃l,alongB 110 [.d true 0 (.pt 0 (.sl 0 (bD y))),.d true 0 (.pt 0 (.sl 0 (bD x)))] al.length bk true=some l∧Ts n l (walkB (fun i=>g i&&f i) g n bk true):=by
 obtain⟨l,h1,h2,h3⟩:=along_ex (g:=110) (cs:=[.d true 0 (.pt 0 (.sl 0 (bD y))),.d true 0 (.pt 0 (.sl 0 (bD x)))]) (p:=fun i=>g i&&f i) (q:=g) hw.bk hw.big true (fun i l hi=>by
  simp only[nowB,now2]
  rw[hx.b hi,hy.b hi]
  cases g i<;>cases f i<;>cases l<;>rfl)
 exact⟨l,by rw[hw.len];exact h1,h2,h3⟩
theorem each2_eq (o:Bool→Bool→Bool) {v w:Bool} (ho:o v w=if v then(if o true true then(if o true false then true else w)else false)else(if o false true then(if o false false then true else w)else false)):
  ((some v).bind fun v=>if v then(if o true true then(if o true false then some true else some w)else some false)else(if o false true then(if o false false then some true else some w)else some false))=some (o v w):=by
 rw[ho]
 cases v<;>cases o true true<;>cases o true false<;>cases o false true<;>cases o false false<;>rfl
theorem each2 (hw:Wd al n bk a) (c:Nat) (o:Bool→Bool→Bool) (hc:∀(i:Int) (x y:List D),sem2 c i (.sl 0 x) (.sl 0 y)=(bAt x i).bind fun v=>if v then(if o true true then(if o true false then some true else bAt y i)else some false)else(if o false true then(if o false false then some true else bAt y i)else some false))
  (ho:∀x y,o x y=if x then(if o true true then(if o true false then true else y)else false)else(if o false true then(if o false false then true else y)else false))
  {x y:List Bool} {f g:Nat→Bool} (hx:Ts n x f) (hy:Ts n y g):∃l,eachB c [.d true 0 (.pt 0 (.sl 0 (bD x))),.d true 0 (.pt 0 (.sl 0 (bD y)))] al.length=some l∧Ts n l (fun i=>o (f i) (g i)):=by
 obtain⟨l,h1,h2,h3⟩:=each_ex (g:=c) (cs:=[.d true 0 (.pt 0 (.sl 0 (bD x))),.d true 0 (.pt 0 (.sl 0 (bD y)))]) (f:=fun i=>o (f i) (g i)) (n:=n) (fun i hi=>by
  show sem2 c i (.sl 0 (bD x)) (.sl 0 (bD y))=some (o (f i) (g i))
  rw[hc,hx.b hi,hy.b hi]
  exact each2_eq o (ho (f i) (g i)))
 exact⟨l,by rw[hw.len];exact h1,h2,h3⟩
def lbAt (ns:List D) (L:Nat→Int) (s:ByteArray) (k:Nat):Prop:=∃i:Int,0≤i∧idxN s ns 0=some i∧bitA (L k) i=true
def lbOk (ns:List D) (s:ByteArray):Prop:=∃i:Int,0≤i∧idxN s ns 0=some i
theorem ts_true (hw:Wd al n bk a):∃l,eachB 99 [] al.length=some l∧Ts n l (fun _=>true):=by
 obtain⟨l,h1,h2,h3⟩:=each_ex (g:=99) (cs:=[]) (f:=fun _=>true) (n:=n) (fun i hi=>rfl)
 exact⟨l,by rw[hw.len];exact h1,h2,h3⟩
theorem truth_sat (hw:Wd al n bk a):∀(t:Pr) (f:Fm),f.abs=some t→t.labs (lbOk ns)→
  ∃l g,truthF ns al bk f=some (.inr l)∧Ts n l g∧∀k,g (posN n bk k)=true↔t.sat (lbAt ns fun k=>a (posN n bk k)) k
 |t,f,h,hl=>by
  rcases abs_inv h with⟨op,nm,p,rfl,h1⟩|⟨op,nm,b,p,o,x,rfl,h1,h2,rfl⟩|⟨op,nm,b,c,p,o,x,y,rfl,h1,h2,h3,rfl⟩
  ·simp only[truthF,truthL]
   rcases h1 with⟨h1,rfl⟩|⟨h1,rfl⟩|⟨h1,rfl⟩
   ·rw[h1]
    refine⟨List.replicate n true,fun _=>true,?_,⟨by simp,fun i hi=>getD_of (by simp[hi])⟩,fun k=>by simp[Pr.sat]⟩
    rw[hw.len];rfl
   ·rw[h1]
    refine⟨List.replicate n false,fun _=>false,?_,⟨by simp,fun i hi=>getD_of (by simp[hi])⟩,fun k=>by simp[Pr.sat]⟩
    rw[hw.len];rfl
   ·rw[h1]
    obtain⟨i,hi0,hi⟩:=hl
    obtain⟨l,e1,e2,e3⟩:=each_ex (g:=98) (cs:=[.d true 0 (.pt 0 (.pt 4 (.ag [.sl 0 ns,.sl 0 al,.int .i64 bk]))),.d true 0 (.pt 0 (.int .i64 i))]) (f:=fun j=>bitA (a j) i) (n:=n) (fun j hj=>by
     show(if 0≤i then(iAt al j).map (bitA · i)else none)=some (bitA (a j) i)
     rw[if_pos hi0]
     unfold iAt
     rw[if_pos (by omega),Int.toNat_natCast,hw.at' j hj]
     rfl)
    refine⟨l,_,?_,⟨e2,e3⟩,fun k=>?_⟩
    ·rw[if_neg (by decide),if_pos (by decide)]
     unfold labelB
     rw[hi]
     simp only
     rw[if_neg (by omega),hw.len,e1]
     rfl
    ·simp only[Pr.sat,lbAt]
     constructor
     ·exact fun h=>⟨i,hi0,hi,h⟩
     ·rintro⟨j,_,hj,h⟩
      rw[hi]at hj
      cases hj;exact h
  ·obtain⟨l,g,e1,e2,e3⟩:=truth_sat hw x b h2 hl
   obtain⟨yes,y1,y2⟩:=ts_true hw
   simp only[truthF,truthL,e1]
   unfold oneB
   rw[y1,h1]
   simp only
   cases o with
   |no=>
    obtain⟨r,r1,r2,r3⟩:=each_ex (g:=100) (cs:=[.d true 0 (.pt 0 (.sl 0 (bD l)))]) (f:=fun i=> !g i) (n:=n) (fun i hi=>by
     show(bAt (bD l) i).map (!·)=some (!g i)
     rw[e2.b hi];rfl)
    refine⟨r,_,?_,⟨r2,r3⟩,fun k=>?_⟩
    ·rw[if_pos (by decide),hw.len,r1];rfl
    ·simp only[Pr.sat, ←e3 k,Bool.not_eq_true',Bool.not_eq_true]
   |X=>
    obtain⟨r,r1,r2,r3⟩:=each_ex (g:=101) (cs:=[.d true 0 (.pt 0 (.sl 0 (bD l))),.d true 0 (.pt 0 (.pt 4 (.ag [.sl 0 ns,.sl 0 al,.int .i64 bk])))]) (f:=fun i=>g (nxN n bk i)) (n:=n) (fun i hi=>by
     show bAt (bD l) (nxt al.length bk i)=some (g (nxN n bk i))
     rw[hw.len,nxt_nat hw.big hi,e2.b (nxN_lt hw.bk i)])
    refine⟨r,_,?_,⟨r2,r3⟩,fun k=>?_⟩
    ·rw[if_neg (by decide),if_pos (by decide),hw.len,r1];rfl
    ·simp only[Pr.sat];exact e3 (k+1)
   |F=>
    obtain⟨r,r1,r2⟩:=until_ex hw y2 e2
    refine⟨r,_,?_,r2,fun k=>?_⟩
    ·rw[if_neg (by decide),if_neg (by decide),if_pos (by decide),r1];rfl
    ·rw[walk_false hw.bk]
     simp only[Pr.sat,UntP]
     exact⟨fun⟨d,h,_⟩=>⟨d,(e3 _).1 h⟩,fun⟨d,h⟩=>⟨d,(e3 _).2 h,fun _ _=>trivial⟩⟩
   |G=>
    obtain⟨r,r1,r2⟩:=forever_ex hw e2
    refine⟨r,_,?_,r2,fun k=>?_⟩
    ·rw[if_neg (by decide),if_neg (by decide),if_neg (by decide),if_pos (by decide),r1];rfl
    ·rw[walk_true hw.bk]
     simp only[Pr.sat,UntP]
     constructor
     ·rintro(⟨d,h,_⟩|h)
      ·cases h
      ·exact fun d=>(e3 _).1 (h d)
     ·exact fun h=>.inr fun d=>(e3 _).2 (h d)
  ·obtain⟨l,g,e1,e2,e3⟩:=truth_sat hw x b h2 hl.1
   obtain⟨m,u,f1,f2,f3⟩:=truth_sat hw y c h3 hl.2
   simp only[truthF,truthL,e1,f1]
   unfold twoB
   rw[h1]
   have hun:∀{k},UntP (fun i=>u (posN n bk i)=true) (fun i=>g (posN n bk i)=true) k↔UntP (y.sat (lbAt ns fun k=>a (posN n bk k))) (x.sat (lbAt ns fun k=>a (posN n bk k))) k:=by
    intro k
    exact⟨fun⟨d,h,h'⟩=>⟨d,(f3 _).1 h,fun j hj=>(e3 _).1 (h' j hj)⟩,fun⟨d,h,h'⟩=>⟨d,(f3 _).2 h,fun j hj=>(e3 _).2 (h' j hj)⟩⟩
   cases o with
   |and=>
    obtain⟨r,r1,r2⟩:=each2 hw 105 and (fun i x y=>rfl) (by decide) e2 f2
    refine⟨r,_,?_,r2,fun k=>?_⟩
    ·rw[if_pos (by decide),r1];rfl
    ·simp only[Pr.sat, ←e3 k, ←f3 k,Bool.and_eq_true]
   |or=>
    obtain⟨r,r1,r2⟩:=each2 hw 106 or (fun i x y=>rfl) (by decide) e2 f2
    refine⟨r,_,?_,r2,fun k=>?_⟩
    ·rw[if_neg (by decide),if_pos (by decide),r1];rfl
    ·simp only[Pr.sat, ←e3 k, ←f3 k,Bool.or_eq_true]
   |imp=>
    obtain⟨r,r1,r2⟩:=each2 hw 107 (fun x y=> !x||y) (fun i x y=>rfl) (by decide) e2 f2
    refine⟨r,_,?_,r2,fun k=>?_⟩
    ·rw[if_neg (by decide),if_neg (by decide),if_pos (by decide),r1];rfl
    ·simp only[Pr.sat, ←e3 k, ←f3 k]
     cases g (posN n bk k)<;>cases u (posN n bk k)<;>simp
   |U=>
    obtain⟨r,r1,r2⟩:=until_ex hw e2 f2
    refine⟨r,_,?_,r2,fun k=>?_⟩
    ·rw[if_neg (by decide),if_neg (by decide),if_neg (by decide),if_pos (by decide),r1];rfl
    ·rw[walk_false hw.bk]
     exact hun
   |W=>
    obtain⟨r,r1,r2⟩:=until_ex hw e2 f2
    obtain⟨v,v1,v2⟩:=forever_ex hw e2
    obtain⟨z,z1,z2⟩:=each2 hw 108 or (fun i x y=>rfl) (by decide) r2 v2
    refine⟨z,_,?_,z2,fun k=>?_⟩
    ·rw[if_neg (by decide),if_neg (by decide),if_neg (by decide),if_neg (by decide),if_pos (by decide),r1,v1]
     simp only
     rw[z1];rfl
    ·rw[Bool.or_eq_true,walk_false hw.bk,walk_true hw.bk,hun]
     simp only[Pr.sat]
     constructor
     ·rintro(h|⟨d,h,_⟩|h)
      ·exact .inl h
      ·cases h
      ·exact .inr fun d=>(e3 _).1 (h d)
     ·rintro(h|h)
      ·exact .inl h
      ·exact .inr (.inr fun d=>(e3 _).2 (h d))
   |R=>
    obtain⟨r,r1,r2⟩:=rel_ex hw e2 f2
    refine⟨r,_,?_,r2,fun k=>?_⟩
    ·rw[if_neg (by decide),if_neg (by decide),if_neg (by decide),if_neg (by decide),if_neg (by decide),if_pos (by decide),r1];rfl
    ·rw[walk_true hw.bk]
     simp only[Pr.sat]
     constructor
     ·rintro(⟨d,h,h'⟩|h)
      ·have h:(u (posN n bk (k+d))&&g (posN n bk (k+d)))=true:=h
       rw[Bool.and_eq_true]at h
       exact .inl ⟨d,⟨(f3 _).1 h.1,(e3 _).1 h.2⟩,fun j hj=>(f3 _).1 (h' j hj)⟩
      ·exact .inr fun d=>(f3 _).1 (h d)
     ·rintro(⟨d,h,h'⟩|h)
      ·exact .inl ⟨d,by show(u (posN n bk (k+d))&&g (posN n bk (k+d)))=true;rw[Bool.and_eq_true];exact⟨(f3 _).2 h.1,(e3 _).2 h.2⟩,fun j hj=>(f3 _).2 (h' j hj)⟩
      ·exact .inr fun d=>(f3 _).2 (h d)
theorem truth_labs (bk:Int):∀(t:Pr) (f:Fm) (l:List Bool),f.abs=some t→truthF ns al bk f=some (.inr l)→t.labs (lbOk ns)
 |t,f,l,h,hl=>by
  rcases abs_inv h with⟨op,nm,p,rfl,h1⟩|⟨op,nm,b,p,o,x,rfl,h1,h2,rfl⟩|⟨op,nm,b,c,p,o,x,y,rfl,h1,h2,h3,rfl⟩
  ·rcases h1 with⟨h1,rfl⟩|⟨h1,rfl⟩|⟨h1,rfl⟩
   ·trivial
   ·trivial
   ·simp only[truthF,truthL]at hl
    rw[h1,if_neg (by decide),if_pos (by decide)]at hl
    unfold labelB at hl
    split at hl
    ·rename_i i hi
     split at hl
     ·cases hl
     ·exact⟨i,by omega,hi⟩
    ·cases hl
  ·simp only[truthF,truthL]at hl
   cases e:truthF ns al bk b with
   |none=>rw[e]at hl;cases hl
   |some r=>
    cases r with
    |inl v=>rw[e]at hl;cases hl
    |inr m=>exact truth_labs bk x b m h2 e
  ·simp only[truthF,truthL]at hl
   cases e:truthF ns al bk b with
   |none=>rw[e]at hl;cases hl
   |some r=>
    cases r with
    |inl v=>rw[e]at hl;cases hl
    |inr m=>
     cases e':truthF ns al bk c with
     |none=>rw[e,e']at hl;cases hl
     |some r=>
      cases r with
      |inl v=>rw[e,e']at hl;cases hl
      |inr m'=>exact⟨truth_labs bk x b m h2 e,truth_labs bk y c m' h3 e'⟩
theorem idxN_any (s:ByteArray):∀(ns:List D) (k:Nat),(∀d∈ns,∃u,d=.str u)→∃i,idxN s ns k=some i
 |[],k,h=>⟨_,rfl⟩
 |x::r,k,h=>by
  obtain⟨u,rfl⟩:=h x (.head _)
  simp only[idxN]
  split
  ·exact⟨_,rfl⟩
  ·exact idxN_any s r (k+1) fun d hd=>h d (.tail _ hd)
theorem truth_any (hw:Wd al n bk a) (hn:∀d∈ns,∃u,d=.str u):∀(t:Pr) (f:Fm),f.abs=some t→∃r,truthF ns al bk f=some r
 |t,f,h=>by
  by_cases hl:t.labs (lbOk ns)
  ·obtain⟨l,g,e,_⟩:=truth_sat hw t f h hl
   exact⟨_,e⟩
  rcases abs_inv h with⟨op,nm,p,rfl,h1⟩|⟨op,nm,b,p,o,x,rfl,h1,h2,rfl⟩|⟨op,nm,b,c,p,o,x,y,rfl,h1,h2,h3,rfl⟩
  ·rcases h1 with⟨h1,rfl⟩|⟨h1,rfl⟩|⟨h1,rfl⟩
   ·exact(hl trivial).elim
   ·exact(hl trivial).elim
   ·simp only[truthF,truthL]
    rw[h1,if_neg (by decide),if_pos (by decide)]
    obtain⟨i,hi⟩:=idxN_any nm ns 0 hn
    unfold labelB
    rw[hi]
    simp only
    by_cases h0:i<0
    ·rw[if_pos h0];exact⟨_,rfl⟩
    ·exact(hl ⟨i,by omega,hi⟩).elim
  ·obtain⟨r,e⟩:=truth_any hw hn x b h2
   simp only[truthF,truthL,e]
   cases r with
   |inl v=>exact⟨_,rfl⟩
   |inr m=>exact(hl (truth_labs bk x b m h2 e)).elim
  ·obtain⟨r,e⟩:=truth_any hw hn x b h2
   obtain⟨r',e'⟩:=truth_any hw hn y c h3
   simp only[truthF,truthL,e,e']
   cases r with
   |inl v=>exact⟨_,rfl⟩
   |inr m=>
    cases r' with
    |inl v=>exact⟨_,rfl⟩
    |inr m'=>exact(hl ⟨truth_labs bk x b m h2 e,truth_labs bk y c m' h3 e'⟩).elim
end
end Go.Sc
namespace Go.Sc
open Go Go.Cm Go.Proofs
def LW (l:List D):Prop:=∀d∈l,∃v:Int,d=.int .i64 v∧0≤v∧v<8
def aD (l:List D) (i:Nat):Int:=match l[i]? with|some (.int .i64 v)=>v|_=>0
def strm (st lp:List D) (k:Nat):Int:=aD (st++lp) (posN (st.length+lp.length) st.length k)
theorem LW.app {a b:List D} (h:LW a) (k:LW b):LW (a++b):=fun d hd=>by
 rcases List.mem_append.1 hd with h'|h'
 ·exact h d h'
 ·exact k d h'
theorem LW.tl {x:D} {a:List D} (h:LW (x::a)):LW a:=fun d hd=>h d (.tail _ hd)
theorem LW.at' {l:List D} (h:LW l) {i:Nat} (hi:i<l.length):l[i]? =some (.int .i64 (aD l i)):=by
 obtain⟨v,e,_⟩:=h l[i] (List.getElem_mem hi)
 unfold aD
 rw[List.getElem?_eq_getElem hi,e]
theorem wd_of {st lp:List D} (h1:LW st) (h2:LW lp) (h3:lp≠[]) (h4:st.length+lp.length≤64):Wd (st++lp) (st.length+lp.length) st.length (aD (st++lp)) where
 len:=List.length_append
 bk:=by
  cases lp with
  |nil=>exact absurd rfl h3
  |cons a l=>simp
 big:=by omega
 at':=fun i hi=>(h1.app h2).at' (by rw[List.length_append];exact hi)
theorem pos_bisim {n bk n' bk':Nat} {R:Nat→Nat→Prop} (h0:R 0 0) (hs:∀p p',R p p'→R (nxN n bk p) (nxN n' bk' p')):∀k,R (posN n bk k) (posN n' bk' k)
 |0=>h0
 |k+1=>hs _ _ (pos_bisim h0 hs k)
theorem aD_app_l {a b:List D} {i:Nat} (h:i<a.length):aD (a++b) i=aD a i:=by unfold aD;rw[List.getElem?_append_left h]
theorem aD_app_r {a b:List D} {i:Nat} (h:a.length≤i):aD (a++b) i=aD b (i - a.length):=by unfold aD;rw[List.getElem?_append_right h]
theorem strm_draw (st lr:List D) (x:D):strm (st++[x]) (lr++[x])=strm st (x::lr):=by
 funext k
 unfold strm
 have h:=pos_bisim (n:=st.length+(lr.length+1)) (bk:=st.length) (n':=st.length+1+(lr.length+1)) (bk':=st.length+1)
  (R:=fun p p'=>(p'<st.length+(lr.length+1)∧p=p')∨(p'=st.length+(lr.length+1)∧p=st.length)) (.inl ⟨by omega,rfl⟩) (fun p p' h=>by
   unfold nxN
   rcases h with⟨h1,rfl⟩|⟨rfl,rfl⟩
   ·by_cases h:p+1<st.length+(lr.length+1)
    ·rw[if_pos h,if_pos (by omega)];exact .inl ⟨h,rfl⟩
    ·rw[if_neg h,if_pos (by omega)];exact .inr ⟨by omega,rfl⟩
   ·rw[if_neg (show ¬(st.length+(lr.length+1)+1<st.length+1+(lr.length+1))by omega)]
    by_cases h:st.length+1<st.length+(lr.length+1)
    ·rw[if_pos h];exact .inl ⟨h,rfl⟩
    ·rw[if_neg h];exact .inr ⟨by omega,rfl⟩) k
 simp only[List.length_append,List.length_cons,List.length_nil,Nat.zero_add]
 have e:st++[x]++(lr++[x])=(st++x::lr)++[x]:=by simp
 rw[e]
 rcases h with⟨h1,h2⟩|⟨h1,h2⟩
 ·rw[aD_app_l (by simp;omega),h2]
 ·rw[h1,h2,aD_app_r (by simp),aD_app_r (Nat.le_refl _)]
  simp[aD]
theorem strm_twice (st lp:List D) (hl:0<lp.length):strm st (lp++lp)=strm st lp:=by
 funext k
 unfold strm
 have h:=pos_bisim (n:=st.length+lp.length) (bk:=st.length) (n':=st.length+(lp.length+lp.length)) (bk':=st.length)
  (R:=fun p p'=>(p'<st.length+lp.length∧p=p')∨(st.length≤p∧p<st.length+lp.length∧p'=p+lp.length)) (.inl ⟨by omega,rfl⟩) (fun p p' h=>by
   unfold nxN
   rcases h with⟨h1,rfl⟩|⟨h1,h2,rfl⟩
   ·rw[if_pos (show p+1<st.length+(lp.length+lp.length)by omega)]
    by_cases h:p+1<st.length+lp.length
    ·rw[if_pos h];exact .inl ⟨h,rfl⟩
    ·rw[if_neg h];exact .inr ⟨Nat.le_refl _,by omega,by omega⟩
   ·by_cases h:p+1<st.length+lp.length
    ·rw[if_pos h,if_pos (by omega)];exact .inr ⟨by omega,by omega,by omega⟩
    ·rw[if_neg h,if_neg (by omega)];exact .inl ⟨by omega,rfl⟩) k
 simp only[List.length_append]
 rcases h with⟨h1,h2⟩|⟨h1,h2,h3⟩
 ·rw[←List.append_assoc,aD_app_l (by simp;omega),h2]
 ·rw[h3, ←List.append_assoc,aD_app_r (by simp;omega),aD_app_r (by omega)]
  congr 1
  simp;omega
theorem bad_no {v:Int} (h0:0≤v) (h1:v<8):badI 3 v=false:=by
 unfold badI
 have e:IntKind.wrap .i64 (1*2 ^ min 3 64)=8:=by decide
 rw[e]
 simp;omega
theorem anyBad_no:∀{l:List D},LW l→anyBad 3 l=some false
 |[],_=>rfl
 |x::r,h=>by
  obtain⟨v,e,h0,h1⟩:=h x (.head _)
  subst e
  simp only[anyBad]
  rw[bad_no h0 h1,if_neg (by decide)]
  exact anyBad_no h.tl
theorem seen_names:∃m,seenM Tryz.prog namesD []=some m∧m.length=3:=⟨[.ag [.str ⟨#[97]⟩,.bool true],.ag [.str ⟨#[98]⟩,.bool true],.ag [.str ⟨#[103,111,97,108]⟩,.bool true]],by kernel_rfl,rfl⟩
theorem check_names {st lp:List D} (h1:LW st) (h2:LW lp) (h3:lp≠[]) (h4:st.length+lp.length≤64):checkS Tryz.prog namesD st lp=some true:=by
 obtain⟨m,e,hm⟩:=seen_names
 unfold checkS
 rw[e]
 simp only
 rw[if_neg (by decide),if_neg (by rw[hm];decide),if_neg (by cases lp with|nil=>exact absurd rfl h3|cons=>simp),if_neg (by rw[List.length_append];omega)]
 show(anyBad 3 (st++lp)).map (!·)=some true
 rw[anyBad_no (h1.app h2)];rfl
theorem lform_abs:∀(t:Pr) (f:Fm),f.abs=some t→lformF f=true
 |t,f,h=>by
  rcases abs_inv h with⟨op,nm,p,rfl,h1⟩|⟨op,nm,a,p,o,x,rfl,h1,h2,rfl⟩|⟨op,nm,a,b,p,o,x,y,rfl,h1,h2,h3,rfl⟩
  ·simp only[lformF,lformL,Bool.and_true,decide_eq_true_eq]
   unfold wantN
   rcases h1 with⟨h1,rfl⟩|⟨h1,rfl⟩|⟨h1,rfl⟩<;>rw[h1]<;>rfl
  ·simp only[lformF,lformL,lform_abs x a h2,Bool.and_true,decide_eq_true_eq]
   unfold wantN
   rw[h1]
   cases o<;>rfl
  ·simp only[lformF,lformL,lform_abs x a h2,lform_abs y b h3,Bool.and_true,decide_eq_true_eq]
   unfold wantN
   rw[h1]
   cases o<;>rfl
open Classical in
theorem holdX_of {x:D} {f:Fm} {t:Pr} {st lp:List D} (hf:ofD x=some f) (ha:f.abs=some t) (hz:t.sz≤4096) (hl:t.labs (lbOk namesD)) (h1:LW st) (h2:LW lp) (h3:lp≠[]) (h4:st.length+lp.length≤64):
  holdX Tryz.prog x namesD st lp=some (decide (t.sat (lbAt namesD (strm st lp)) 0)):=by
 unfold holdX
 simp only[hf]
 rw[if_pos ⟨⟨sm_abs f t ha,trivial⟩,by decide,by have:big=34359738368:=rfl;omega⟩]
 have hw:=wd_of h1 h2 h3 h4
 obtain⟨l,g,e1,e2,e3⟩:=truth_sat hw t f ha hl
 have e4:holdN Tryz.prog namesD f st lp=some (.inr (g 0)):=by
  unfold holdN truthsT
  rw[check_names h1 h2 h3 h4]
  simp only
  rw[if_neg (by rw[size_abs t f ha];omega),if_pos (lform_abs t f ha),e1]
  cases l with
  |nil=>have:=e2.len;have:=hw.bk;simp at*;omega
  |cons b l=>
   have:=e2.at' 0 (by have:=hw.bk;omega)
   simp at this
   rw[←this]
 rw[e4]
 simp only[Option.some.injEq]
 have:=e3 0
 simp only[posN]at this
 rw[Bool.eq_iff_iff,this,decide_eq_true_eq]
 exact Iff.rfl
theorem otherX_labs {x:D} {f:Fm} {t:Pr} (hf:ofD x=some f) (ha:f.abs=some t) (h:otherX Tryz.prog x=some false):t.labs (lbOk namesD):=by
 unfold otherX at h
 simp only[hf]at h
 split at h
 ·split at h
  ·cases h
  ·rename_i b he
   unfold holdN at he
   split at he
   ·cases he
   ·rename_i b' l' he'
    unfold truthsT at he'
    split at he'
    ·cases he'
    ·cases he'
    ·split at he'
     ·cases he'
     ·split at he'
      ·exact truth_labs _ t f _ ha he'
      ·cases he'
   ·cases he
  ·cases h
 ·cases h
theorem lw_zero:LW [.int .i64 0]:=fun d hd=>⟨0,List.mem_singleton.1 hd,by decide,by decide⟩
theorem names_str:∀d∈namesD,∃u,d=.str u:=by
 intro d hd
 simp only[namesD,List.mem_cons,List.not_mem_nil,or_false]at hd
 rcases hd with rfl|rfl|rfl<;>exact⟨_,rfl⟩
theorem otherX_of {x:D} {f:Fm} {t:Pr} (hf:ofD x=some f) (ha:f.abs=some t) (hz:t.sz≤4096):∃b,otherX Tryz.prog x=some b:=by
 have hw:Wd ([]++[D.int .i64 0]) _ _ _:=wd_of (st:=[]) (lp:=[.int .i64 0]) (fun d hd=>by cases hd) lw_zero (by simp) (by decide)
 obtain⟨r,e⟩:=truth_any hw names_str t f ha
 have e4:truthsT Tryz.prog f namesD [] [.int .i64 0]=some r:=by
  unfold truthsT
  rw[check_names (fun d hd=>by cases hd) lw_zero (by simp) (by decide)]
  simp only
  rw[if_neg (by rw[size_abs t f ha];omega),if_pos (lform_abs t f ha)]
  exact e
 unfold otherX
 simp only[hf]
 rw[if_pos ⟨sm_abs f t ha,trivial⟩]
 unfold holdN
 rw[e4]
 cases r with
 |inl v=>exact⟨_,rfl⟩
 |inr l=>
  cases l with
  |nil=>
   exfalso
   have hl:=truth_labs _ t f _ ha e
   obtain⟨l,g,e1,e2,_⟩:=truth_sat hw t f ha hl
   rw[e]at e1
   cases e1
   have:=e2.len
   simp at this
  |cons b l=>exact⟨_,rfl⟩
end Go.Sc

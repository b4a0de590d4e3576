/- The clean machine, part 50: what comes in, as data trees: by the form of its type. -/
import Derived.Test.YtbpndgllhhajoaaGreatDoorMae
import Derived.ChangeArms
import Derived.WideShapes
import Derived.Carry
import Derived.ChangeOld
set_option linter.unusedVariables false
set_option linter.unusedSimpArgs false
namespace Go.Cm
inductive Sc where
 |int (k:IntKind)
 |bool
 |str
 |sl (e:Sc)
 |st (fs:List Sc)
mutual
def Sc.n:Sc→Nat
 |.st fs=>Sc.nL fs
 |.int _=>1
 |.bool=>1
 |.str=>1
 |.sl _=>1
def Sc.nL:List Sc→Nat
 |[]=>0
 |f::fs=>f.n+Sc.nL fs
end
def Sc.sh:Sc→Nat
 |.st fs=>Sc.nL fs+1
 |_=>0
mutual
def Fits:Sc→List D→Prop
 |.int k,ys=>∃n,ys=[.int k n]∧(Lit.int k n).wf=true
 |.bool,ys=>∃b,ys=[.bool b]
 |.str,ys=>∃s:ByteArray,ys=[.str s]∧s.size≤maxLen
 |.sl e,ys=>∃xs,ys=[.sl e.sh xs]∧xs.length≤maxLen∧∀x∈xs,x.shape=e.sh∧Fits e x.cells
 |.st fs,ys=>FitsL fs ys
def FitsL:List Sc→List D→Prop
 |[],ys=>ys=[]
 |f::fs,ys=>∃a b,ys=a++b∧Fits f a∧FitsL fs b
end
mutual
def Sc.okB (P:Program):Sc→TypeId→Bool
 |.int k,t=>match P.underlying t with|some (.int j)=>decide (j=k)|_=>false
 |.bool,t=>match P.underlying t with|some .bool=>true|_=>false
 |.str,t=>match P.underlying t with|some .string=>true|_=>false
 |.sl e,t=>match P.underlying t with|some (.slice u)=>e.okB P u&&Nat.beq (P.cellsOf u) e.n&&Nat.blt 0 e.n|_=>false
 |.st fs,t=>match P.underlying t with|some (.struct gs)=>Nat.beq (P.cellsOf t) (Sc.nL fs)&&Sc.okL P fs gs.toList 0|_=>false
def Sc.okL (P:Program):List Sc→List Field→Nat→Bool
 |[],gs,_=>match gs with|[]=>true|_=>false
 |f::fs,gs,o=>match gs with
  |g::gs=>Nat.beq g.offset o&&Nat.beq (P.cellsOf g.type) f.n&&f.okB P g.type&&Sc.okL P fs gs (o+f.n)
  |[]=>false
end
def mkEl (e:Sc) (ys:List D):D:=match e with|.st _=>.ag ys|_=>ys.headD .nilp
theorem cells_one {y z:D} (hs:y.shape=0) (h:y.cells=[z]):y=z:=by
 cases y<;>simp only[D.cells,List.cons.injEq,and_true]at h<;>first|exact h|(simp[D.shape]at hs)
theorem Fits.of_sl {e:Sc} {y:D} (hs:y.shape=(Sc.sl e).sh) (h:Fits (.sl e) y.cells):∃xs,y=.sl e.sh xs∧xs.length≤maxLen∧∀x∈xs,x.shape=e.sh∧Fits e x.cells:=by
 obtain⟨xs,e1,h1,h2⟩:=h
 exact⟨xs,cells_one hs e1,h1,h2⟩
theorem Fits.of_int {k:IntKind} {y:D} (hs:y.shape=(Sc.int k).sh) (h:Fits (.int k) y.cells):∃n,y=.int k n∧(Lit.int k n).wf=true:=by
 obtain⟨n,e1,h1⟩:=h
 exact⟨n,cells_one hs e1,h1⟩
theorem Fits.of_str {y:D} (hs:y.shape=Sc.str.sh) (h:Fits .str y.cells):∃s:ByteArray,y=.str s∧s.size≤maxLen:=by
 obtain⟨n,e1,h1⟩:=h
 exact⟨n,cells_one hs e1,h1⟩
section
variable {H:Type} {enc:TypeId×Value→H} {P:Program} {w:World} {base:Nat} {sp:Nat→Bool}
abbrev Fw (w:World):Nat→Prop:=fun b=>b<w.heap.size
theorem ra_one {H:Hp} {F:Nat→Prop} {x:D} {u:Value} (h:RA H F x u) (hs:x.shape=0):u.cells= #[u]:=by
 cases x<;>simp only[RA]at h<;>try (first|(subst h;rfl)|(obtain⟨_,rfl,_⟩:=h;rfl)|(obtain⟨_,_,rfl,_⟩:=h;rfl)|(obtain⟨_,_,_,_,_,rfl,_⟩:=h;rfl))
 simp[D.shape]at hs
theorem Fits.len' (τ:Sc):∀ys:List D,Fits τ ys→ys.length=τ.n:=by
 refine Sc.rec (motive_1:=fun τ=>∀ys,Fits τ ys→ys.length=τ.n) (motive_2:=fun fs=>∀ys,FitsL fs ys→ys.length=Sc.nL fs) ?_ ?_ ?_ ?_ ?_ ?_ ?_ τ
 ·rintro k ys ⟨n,rfl,_⟩;rfl
 ·rintro ys ⟨b,rfl⟩;rfl
 ·rintro ys ⟨s,rfl,_⟩;rfl
 ·rintro e _ ys ⟨xs,rfl,_⟩;rfl
 ·intro fs ih ys h;exact ih ys h
 ·intro ys h;simp only[FitsL]at h;subst h;rfl
 ·rintro f fs ih1 ih2 ys ⟨a,b,rfl,h1,h2⟩
  simp only[List.length_append,Sc.nL,ih1 a h1,ih2 b h2]
theorem Fits.len {τ:Sc} {ys:List D} (h:Fits τ ys):ys.length=τ.n:=Fits.len' τ ys h
theorem mkEl_shape {e:Sc} {ys:List D} (h:Fits e ys) (hs:∀y∈ys,y.shape=0):(mkEl e ys).shape=e.sh∧(mkEl e ys).cells=ys:=by
 have hl:=Fits.len h
 cases e with
 |st fs=>simp only[mkEl,D.shape,Sc.sh,D.cells];exact⟨by rw[hl];rfl,trivial⟩
 |int k=>
  obtain⟨n,rfl,_⟩:=h;exact⟨rfl,rfl⟩
 |bool=>obtain⟨b,rfl⟩:=h;exact⟨rfl,rfl⟩
 |str=>obtain⟨s,rfl,_⟩:=h;exact⟨rfl,rfl⟩
 |sl e=>obtain⟨xs,rfl,_⟩:=h;exact⟨rfl,rfl⟩
theorem mkEl_ra {e:Sc} {ys:List D} (h:Fits e ys) (hs:∀y∈ys,y.shape=0) {Hh:Hp} {F:Nat→Prop} {cs:List Value} (hr:RL Hh F ys cs):∃u,RA Hh F (mkEl e ys) u∧u.cells.toList=cs:=by
 have one:∀y,ys=[y]→mkEl e ys=y→∃u,RA Hh F (mkEl e ys) u∧u.cells.toList=cs:=by
  rintro y rfl he
  simp only[RL]at hr
  obtain⟨u,r,rfl,hu,rfl⟩:=hr
  exact⟨u,by rw[he];exact hu,by rw[ra_one hu (hs y (.head _))]⟩
 cases e with
 |st fs=>exact⟨.agg cs.toArray,by simp only[mkEl,RA];exact⟨cs,rfl,hr,hs⟩,by simp[Value.cells]⟩
 |int k=>obtain⟨n,rfl,_⟩:=h;exact one _ rfl rfl
 |bool=>obtain⟨b,rfl⟩:=h;exact one _ rfl rfl
 |str=>obtain⟨s,rfl,_⟩:=h;exact one _ rfl rfl
 |sl e=>obtain⟨xs,rfl,_⟩:=h;exact one _ rfl rfl
theorem open_elems {e:Sc} {a:Addr} {z:Nat} (hz:0<z) (he:e.n=z) {b:Nat} (hb:a.block=b) {off0:Nat} (hoff:a.off=off0) {cs:Array Value} {ety:TypeId} {fr:Nat×Nat} (hcs:w.heap[b]? =some (.cells cs ety fr)):
  ∀(len i0:Nat),(∀i,i0≤i→i<i0+len→∃ci ys,(∀r,r<z→cs[off0+i*z+r]? =ci[r]?)∧ci.length=z∧Fits e ys∧RL (hp w) (Fw w) ys ci∧∀y∈ys,y.shape=0)→
   ∃xs us,xs.length=len∧RF (hp w) (Fw w) xs us∧(∀x∈xs,x.shape=e.sh∧Fits e x.cells)∧us.length=len*z∧∀(j:Nat) u,us[j]? =some u→cs[off0+i0*z+j]? =some u
 |0,i0,_=>⟨[],[],rfl,by simp[RF],by simp,by simp,by simp⟩
 |len+1,i0,h=>by
  obtain⟨ci,ys,h1,h2,h3,h4,h5⟩:=h i0 (Nat.le_refl _) (by omega)
  obtain⟨xs,us,g1,g2,g3,g4,g5⟩:=open_elems hz he hb hoff hcs len (i0+1) fun i hi hlt=>h i (by omega) (by omega)
  obtain⟨u,k1,k2⟩:=mkEl_ra h3 h5 h4
  obtain⟨q1,q2⟩:=mkEl_shape h3 h5
  refine⟨mkEl e ys::xs,ci++us,by simp[g1],?_,?_,?_,?_⟩
  ·simp only[RF];exact⟨u,us,by rw[k2],k1,g2⟩
  ·intro x hx
   rcases List.mem_cons.1 hx with rfl|hx
   ·exact⟨q1,by rw[q2];exact h3⟩
   ·exact g3 x hx
  ·rw[List.length_append,h2,g4,Nat.add_mul,Nat.one_mul];omega
  ·intro j v hj
   by_cases hjz:j<z
   ·rw[List.getElem?_append_left (by omega)]at hj
    rw[h1 j hjz];exact hj
   ·rw[List.getElem?_append_right (by omega)]at hj
    have:=g5 _ v hj
    rw[Nat.add_mul,Nat.one_mul]at this
    rw[←this]
    congr 1;omega
theorem cell_cells {a:Addr} {v:Value} (h:w.cell? a=some v):a.spot=none∧∃cs e fr,w.heap[a.block]? =some (.cells cs e fr)∧cs[a.off]? =some v:=by
 unfold World.cell? at h
 split at h
 ·rename_i cs e fr hc
  split at h
  ·cases h
  ·rename_i hs
   exact⟨by simpa using hs,cs,e,fr,hc,h⟩
 ·cases h
theorem add_at {a:Addr} (h:a.spot=none) (n:Nat):a.add n=⟨a.block,a.off+n,none⟩:=by
 obtain⟨b,o,s⟩:=a
 simp only at h
 subst h
 unfold Addr.add
 by_cases hn:n=0<;>simp[hn]
theorem open_sc:∀(τ:Sc) (t:TypeId) (cs:List Value) (fuel:Nat) (x:DataW H×List MemPlace),τ.okB P t=true→DataW.trod enc P w base sp true fuel t cs=some x→
  cs.length=τ.n∧∃ys,Fits τ ys∧RL (hp w) (Fw w) ys cs∧∀y∈ys,y.shape=0:=by
 refine Sc.rec (motive_1:=fun τ=>∀(t:TypeId) (cs:List Value) (fuel:Nat) (x:DataW H×List MemPlace),τ.okB P t=true→DataW.trod enc P w base sp true fuel t cs=some x→cs.length=τ.n∧∃ys,Fits τ ys∧RL (hp w) (Fw w) ys cs∧∀y∈ys,y.shape=0)
  (motive_2:=fun fs=>∀(gs:List Field) (o:Nat) (cs:List Value) (n:Nat),Sc.okL P fs gs o=true→(∀(i:Nat) g,gs[i]? =some g→∃x:DataW H×List MemPlace,DataW.trod enc P w base sp true n g.type ((cs.drop g.offset).take (P.cellsOf g.type))=some x)→
   ∃ys,FitsL fs ys∧RL (hp w) (Fw w) ys ((cs.drop o).take (Sc.nL fs))∧∀y∈ys,y.shape=0) ?_ ?_ ?_ ?_ ?_ ?_ ?_
 ·intro k t cs fuel x hok h
  simp only[Sc.okB]at hok
  split at hok
  ·rename_i j hu
   have:j=k:=by simpa using hok
   subst this
   obtain⟨n,rfl,_,hw⟩:=DataW.trod_int hu h
   exact⟨rfl,[.int j n],⟨n,rfl,hw⟩,by simp[RL,RA],by simp[D.shape]⟩
  ·cases hok
 ·intro t cs fuel x hok h
  simp only[Sc.okB]at hok
  split at hok
  ·rename_i hu
   obtain⟨b,rfl,_⟩:=DataW.trod_bool hu h
   exact⟨rfl,[.bool b],⟨b,rfl⟩,by simp[RL,RA],by simp[D.shape]⟩
  ·cases hok
 ·intro t cs fuel x hok h
  simp only[Sc.okB]at hok
  split at hok
  ·rename_i hu
   obtain⟨s,rfl,_,hs⟩:=DataW.trod_string hu h
   exact⟨rfl,[.str s],⟨s,rfl,hs⟩,by simp[RL,RA],by simp[D.shape]⟩
  ·cases hok
 ·intro e ih t cs fuel x hok h
  simp only[Sc.okB]at hok
  split at hok
  ·rename_i u hu
   simp only[Bool.and_eq_true,Nat.beq_eq,Nat.blt_eq]at hok
   obtain⟨⟨hok,hcu⟩,hpos⟩:=hok
   rcases DataW.trod_slice hu h with⟨rfl,_⟩|⟨a,len,cap,elems,rest,n,_,rfl,_,_,hlc,hcap,hel,hat,_,_⟩
   ·exact⟨rfl,[.sl e.sh []],⟨[],rfl,by simp,by simp⟩,by simp only[RL,RA];exact⟨_,[],rfl,⟨none,0,rfl,by simp,by simp,by simp,[],by simp[RF],by simp⟩,rfl⟩,by simp[D.shape]⟩
   ·have each:∀i,i<len→∃ci ys,(∀r,r<e.n→w.cell? ((a.add (i*e.n)).add r)=ci[r]?)∧ci.length=e.n∧Fits e ys∧RL (hp w) (Fw w) ys ci∧∀y∈ys,y.shape=0:=by
     intro i hi
     have h1:=hat i hi
     rw[List.getElem?_eq_getElem (by omega),Option.bind_eq_some_iff]at h1
     obtain⟨ci,hc,ht⟩:=h1
     obtain⟨_,h2,h3⟩:=World.cells?_some hc
     obtain⟨h4,ys,h5,h6,h7⟩:=ih u ci n _ hok ht
     rw[hcu]at h2 h3
     exact⟨ci,ys,h3,h2,h5,h6,h7⟩
    by_cases hl0:len=0
    ·subst hl0
     refine⟨rfl,[.sl e.sh []],⟨[],rfl,by simp,by simp⟩,?_,by simp[D.shape]⟩
     simp only[RL,RA]
     exact⟨_,[],rfl,⟨some a,cap,rfl,by simp,by simp,by simp,[],by simp[RF],by simp⟩,rfl⟩
    ·obtain⟨c0,_,q1,q2,_⟩:=each 0 (by omega)
     have q3:=q1 0 hpos
     rw[List.getElem?_eq_getElem (by omega)]at q3
     rw[Nat.zero_mul]at q3
     have e0:(a.add 0).add 0=a:=by simp[Addr.add]
     rw[e0]at q3
     obtain⟨hs,cells,ety,fr,hb,_⟩:=cell_cells q3
     have key:∀i r,i<len→r<e.n→w.cell? ((a.add (i*e.n)).add r)=cells[a.off+i*e.n+r]? :=by
      intro i r hi hr
      rw[add_at hs,add_at (by rfl)]
      simp only[World.cell?,hb,Option.isSome_none,Bool.false_eq_true,if_false]
     obtain⟨xs,us,g1,g2,g3,g4,g5⟩:=open_elems (w:=w) (e:=e) hpos rfl rfl rfl hb len 0 fun i _ hi=>by
      obtain⟨ci,ys,p1,p2,p3,p4,p5⟩:=each i (by omega)
      exact⟨ci,ys,fun r hr=>by rw[←key i r (by omega) hr];exact p1 r hr,p2,p3,p4,p5⟩
     refine⟨rfl,[.sl e.sh xs],⟨xs,rfl,by omega,g3⟩,?_,by simp[D.shape]⟩
     simp only[RL,RA]
     refine⟨_,[],rfl,⟨some a,cap,by rw[g1],by omega,by simp,fun x hx=>(g3 x hx).1,us,g2,fun _=>⟨a,rfl,(Array.getElem?_eq_some_iff.1 hb).1,hs,cells,ety,fr,hb,fun j u hj=>?_⟩⟩,rfl⟩
     have:=g5 j u hj
     rwa [Nat.zero_mul,Nat.add_zero]at this
  ·cases hok
 ·intro fs ih t cs fuel x hok h
  simp only[Sc.okB]at hok
  split at hok
  ·rename_i gs hu
   simp only[Bool.and_eq_true,Nat.beq_eq]at hok
   obtain⟨xs,n,_,_,hl,hxl,hat⟩:=DataW.trod_struct hu h
   obtain⟨ys,h1,h2,h3⟩:=ih gs.toList 0 cs n hok.2 fun i g hg=>by
    have hi:=hat i g (by simpa using hg)
    have hlt:i<gs.size:=by simpa using(List.getElem?_eq_some_iff.1 hg).1
    rw[List.getElem?_eq_getElem (by omega)]at hi
    exact⟨_,hi⟩
   rw[List.drop_zero,List.take_of_length_le (by rw[hl,hok.1];exact Nat.le_refl _)]at h2
   exact⟨hl.trans hok.1,ys,h1,h2,h3⟩
  ·cases hok
 ·intro gs o cs n hok _
  exact⟨[],rfl,by simp[RL,Sc.nL],by simp⟩
 ·intro f fs ih1 ih2 gs o cs n hok hat
  cases gs with
  |nil=>simp[Sc.okL]at hok
  |cons g gs=>
   simp only[Sc.okL,Bool.and_eq_true,Nat.beq_eq]at hok
   obtain⟨⟨⟨h1,h2⟩,h3⟩,h4⟩:=hok
   obtain⟨x,hx⟩:=hat 0 g rfl
   obtain⟨k1,ys,k2,k3,k4⟩:=ih1 g.type _ n x h3 hx
   obtain⟨zs,l1,l2,l3⟩:=ih2 gs (o+f.n) cs n h4 fun i g' hg=>hat (i+1) g' (by simpa using hg)
   rw[h1,h2]at k3
   refine⟨ys++zs,⟨ys,zs,rfl,k2,l1⟩,?_,fun y hy=>(List.mem_append.1 hy).elim (k4 y) (l3 y)⟩
   have e:(cs.drop o).take (Sc.nL (f::fs))=(cs.drop o).take f.n++(cs.drop (o+f.n)).take (Sc.nL fs):=by
    simp only[Sc.nL]
    rw[List.take_add,List.drop_drop]
   rw[e]
   exact RL.append k3 l2
theorem open_in {τ:Sc} {t:TypeId} {v:Value} {d:DataW H} {ps:List MemPlace} {w':World} {r:Reach} {b0:Nat} (hok:τ.okB P t=true) (hw:Value.okWide P w' r b0 t v) (h:DataW.Trod enc P w base sp true t v d ps):
  ∃y,RA (hp w) (Fw w) y v∧y.shape=τ.sh∧Fits τ y.cells:=by
 obtain⟨fuel,h⟩:=h
 obtain⟨h1,ys,h2,h3,h4⟩:=open_sc τ t _ fuel _ hok h
 have one:τ.sh=0→v.cells= #[v]→∃y,RA (hp w) (Fw w) y v∧y.shape=τ.sh∧Fits τ y.cells:=by
  intro h0 hv
  rw[hv]at h3
  have hl:=RL.length h3
  match ys,hl with
  |[y],_=>
   simp only[RL]at h3
   obtain⟨u,rr,e,hu,_⟩:=h3
   cases e
   have hs:=h4 y (.head _)
   have hc:y.cells=[y]:=by cases y<;>first|rfl|(simp[D.shape]at hs)
   exact⟨y,hu,by rw[hs,h0],by rw[hc];exact h2⟩
 cases τ with
 |int k=>
  simp only[Sc.okB]at hok
  split at hok
  ·rename_i hu;obtain⟨n,rfl⟩:=WideShapes.okWide_int hu hw;exact one rfl rfl
  ·cases hok
 |bool=>
  simp only[Sc.okB]at hok
  split at hok
  ·rename_i hu;obtain⟨n,rfl⟩:=WideShapes.okWide_bool hu hw;exact one rfl rfl
  ·cases hok
 |str=>
  simp only[Sc.okB]at hok
  split at hok
  ·rename_i hu;obtain⟨n,rfl⟩:=WideShapes.okWide_string hu hw;exact one rfl rfl
  ·cases hok
 |sl e=>
  simp only[Sc.okB]at hok
  split at hok
  ·rename_i hu;obtain⟨a,len,cap,rfl⟩:=WideShapes.okWide_slice hu hw;exact one rfl rfl
  ·cases hok
 |st fs=>
  simp only[Sc.okB]at hok
  split at hok
  ·rename_i gs hu
   simp only[Value.okWide,hu]at hw
   obtain⟨cs,rfl,_⟩:=hw
   refine⟨.ag ys,?_,?_,h2⟩
   ·simp only[RA];exact⟨cs.toList,by simp,h3,h4⟩
   ·simp only[D.shape,Sc.sh];rw[Fits.len h2];rfl
  ·cases hok
end
end Go.Cm
namespace Go.Cm
open Go.RowKit
section
variable {P:Program} {gl:Gl}
inductive ArgsD (W:World):List TV→List Value→Prop where
 |nil:ArgsD W [] []
 |cons {x:D} {u:Value} {sh:Nat} {xs:List TV} {us:List Value}:RA (hp W) (Fw W) x u→x.shape=sh→ArgsD W xs us→ArgsD W (.d true sh x::xs) (u::us)
theorem ArgsD.rt {W:World} {xs:List TV} {us:List Value} (h:ArgsD W xs us):RTs (hp W) (Fin W [] (fun _=>True)) xs us []:=by
 induction h with
 |nil=>simp[RTs]
 |cons h hs _ ih=>
  simp only[RTs]
  refine⟨_,_,[],[],rfl,rfl,?_,ih⟩
  simp only[RT]
  exact⟨trivial,hs,RA.mono (fun b hb=>⟨⟨hb,by simp,rfl,trivial⟩,rfl⟩) _ _ h⟩
theorem ArgsD.als {W:World} {xs:List TV} {us:List Value} (h:ArgsD W xs us) {H:Hp} {F:Fr}:Als H F xs us:=by
 have no:∀(j:Nat) t b f avs,xs[j]? ≠some (.fc t b f avs):=by
  induction h with
  |nil=>intro j t b f avs e;simp at e
  |cons h hs _ ih=>
   intro j t b f avs e
   cases j with
   |zero=>simp at e
   |succ j=>exact ih j t b f avs (by simpa using e)
 exact fun j t b f avs e=>(no j t b f avs e).elim
theorem calls_of_runs' {f:FuncId} {fn:Func} {args:Array Value} {w:World} {R:Ending→World→Prop} (hf:P.funcs[f]? =some fn) (hn:(fn.name== "runtime.NumGoroutine")=false) (hb:fn.body.isSome=true)
  (h:Runs P f args w R):Calls P f args w R:=by
 have hb':fn.body.isNone=false:=by cases hx:fn.body<;>simp[hx]at hb ⊢
 have e:(callFunc f args).run P w=.ok (.enter f args) w:=by
  simp only[callFunc,Sem.run_bind,run_program,Result.andThen,hf,hn,hb',Bool.false_eq_true,if_false,Sem.run_pure]
 unfold Runs at h
 rw[e]at h
 exact h
theorem calls_true' {f:FuncId} {fn:Func} {args:List TV} {us:List Value} (hf:P.funcs[f]? =some fn) (hn:(fn.name== "runtime.NumGoroutine")=false) (hb:fn.body.isSome=true)
  (hv:Valid gl P f args [.d false 0 (.bool true)] []) {W:World} (hG:gl.G W) (hr:ArgsD W args us):
  Calls P f us.toArray W fun e W'=>e=.returned (.bool true)∧Below W.heap.size W W':=by
 have h:=hv W us [] (fun _=>True) ⟨hG,fun _ _=>by simp⟩ hr.rt hr.als List.nodup_nil
 refine(calls_of_runs' hf hn hb h).mono fun e W'=>?_
 rintro⟨rs,M',rfl,B⟩
 have hl:=B.len
 have hrt:=B.rt
 match rs,hl with
 |[r],_=>
  rw[List.append_nil,List.cons_append,RTs]at hrt
  obtain⟨u,rest,M1,M2,e1,_,h1,_⟩:=hrt
  simp only[RT,RA]at h1
  cases e1
  rw[h1.2.2]
  exact⟨rfl,B.os,B.tape,B.output,B.size,fun b hb=>B.old b hb (by simp)⟩
theorem shut_arg {H:Type} {enc:TypeId×Value→H} {t:TypeId} {W W':World} {v:Value} {d:DataW H} {ps:List MemPlace} (hl:laidOutB P=true) (hr:P.readableRec t=true) (hrow:t<P.types.size)
  (h:DataW.Trod enc P W 0 (fun _=>true) true t v d ps) (hb:Below W.heap.size W W'):DataW.Trod enc P W' 0 (fun b=>decide (b<W.heap.size)) true t v d ps:=by
 refine Below.trod hl hr hrow h hb fun x hx=>?_
 obtain⟨fuel,hf⟩:=h
 exact DataW.trod_lt fuel t _ _ hf x hx
end
end Go.Cm
namespace Go.Sd
open Go Go.Cm Go.Proofs Go.Sc
set_option maxRecDepth 100000
namespace F51
theorem start {β:Type} (s:ByteArray) (c:Int) (k:List TV→List TV→Option β):evalF Tryz.prog E0 Tryz.f139 [.d true 0 (.str s),.d true 0 (.int .u8 c)] k=k [.d false 0 (.int .i64 (idxS s c))] []:=by kernel_rfl
end F51
namespace F46
theorem start {β:Type} (s:ByteArray) (c:Int) (k:List TV→List TV→Option β):evalF Tryz.prog E1 Tryz.f137 [.d true 0 (.str s),.d true 0 (.int .u8 c)] k=k [.d false 0 (.int .i64 (idxS s c))] []:=by kernel_rfl
end F46
namespace F44
theorem start {β:Type} (s:ByteArray) (p:ByteArray) (k:List TV→List TV→Option β):evalF Tryz.prog E2 Tryz.f135 [.d true 0 (.str s),.d true 0 (.str p)] k=if decide ((↑(ByteArray.size s):Int)≥(↑(ByteArray.size p):Int))=true then if(0:Int)≤(↑(ByteArray.size p):Int)∧(↑(ByteArray.size p):Int)≤(↑(ByteArray.size s):Int)∧(0:Int)≤0∧(0:Int)≤(↑(ByteArray.size p):Int)then k [.d false 0 (.bool (ByteArray.toList (ByteArray.extract s 0 (Int.toNat (↑(ByteArray.size p):Int)))==p.toList))] []else none else k [.d false 0 (.bool false)] []:=by kernel_rfl
end F44
namespace F31
theorem start {β:Type} (s:ByteArray) (p:ByteArray) (k:List TV→List TV→Option β):evalF Tryz.prog E3 Tryz.f124 [.d true 0 (.str s),.d true 0 (.str p)] k=k [.d false 0 (.bool (hasP s p))] []:=by kernel_rfl
end F31
namespace F50
theorem start {β:Type} (s:ByteArray) (p:ByteArray) (k:List TV→List TV→Option β):evalF Tryz.prog E4 Tryz.f138 [.d true 0 (.str s),.d true 0 (.str p)] k=if((↑(ByteArray.size p):Int)==0)=true then k [.d false 0 (.int .i64 0)] []else if(p.toList==s.toList)=true then k [.d false 0 (.int .i64 0)] []else if((↑(ByteArray.size p):Int)==1)=true then match p[0]? with
   |some c10=>k [.d false 0 (.int .i64 (idxS s (↑(UInt8.toNat c10):Int)))] []
   |none=>none else if decide ((↑(ByteArray.size p):Int)≥(↑(ByteArray.size s):Int))=true then k [.d false 0 (.int .i64 (-1:Int))] []else none:=by kernel_rfl
end F50
namespace F45
theorem start {β:Type} (s:ByteArray) (p:ByteArray) (k:List TV→List TV→Option β):evalF Tryz.prog E5 Tryz.f136 [.d true 0 (.str s),.d true 0 (.str p)] k=match p.toList with
   |[c2]=>if decide (indexS s c2≥0)=true then if 0≤indexS s c2∧indexS s c2≤(↑(ByteArray.size s):Int)∧(0:Int)≤0∧0≤indexS s c2 then if(0:Int)≤(↑(ByteArray.size s):Int)∧(↑(ByteArray.size s):Int)≤(↑(ByteArray.size s):Int)∧0≤IntKind.wrap .i64 (indexS s c2+(↑(ByteArray.size p):Int))∧IntKind.wrap .i64 (indexS s c2+(↑(ByteArray.size p):Int))≤(↑(ByteArray.size s):Int)then k [.d false 0 (.str (ByteArray.extract s 0 (Int.toNat (indexS s c2)))),.d false 0 (.str (ByteArray.extract s (Int.toNat (IntKind.wrap .i64 (indexS s c2+(↑(ByteArray.size p):Int)))) (Int.toNat (↑(ByteArray.size s):Int)))),.d false 0 (.bool true)] []else none else none else k [.d false 0 (.str s),.d false 0 (.str (ByteArray.mk #[])),.d false 0 (.bool false)] []
   |x=>none:=by kernel_rfl
end F45
namespace F32
theorem start {β:Type} (s:ByteArray) (p:ByteArray) (k:List TV→List TV→Option β):evalF Tryz.prog E6 Tryz.f125 [.d true 0 (.str s),.d true 0 (.str p)] k=match p.toList with
   |[c2]=>if small s then match Nat.ble (ByteArray.size s) (Int.toNat (indexS s c2))||decide (indexS s c2<0)with
    |true=>k [.d false 0 (.str s),.d false 0 (.str (ByteArray.mk #[])),.d false 0 (.bool false)] []
    |false=>k [.d false 0 (.str (ByteArray.extract s 0 (Int.toNat (indexS s c2)))),.d false 0 (.str (ByteArray.extract s (Int.toNat (indexS s c2)+1) (ByteArray.size s))),.d false 0 (.bool true)] []else none
   |x=>none:=by kernel_rfl
end F32
namespace F33
theorem start {β:Type} (c:Int) (k:List TV→List TV→Option β):evalF Tryz.prog E7 Tryz.f126 [.d true 0 (.int .u8 c)] k=if decide (c≥97)=true then if decide (c≤122)=true then k [.d false 0 (.int .i64 1)] []else if decide (c≥65)=true then if decide (c≤90)=true then k [.d false 0 (.int .i64 1)] []else if(c==95)=true then k [.d false 0 (.int .i64 1)] []else if decide (c≥48)=true then if decide (c≤57)=true then k [.d false 0 (.int .i64 2)] []else if(c==34)=true then k [.d false 0 (.int .i64 3)] []else if decide (idxS (ByteArray.mk #[45,60,62,33,61,46,91,93,40,41,58,59,44,43,42,38,124,63,39]) c≥0)=true then k [.d false 0 (.int .i64 4)] []else k [.d false 0 (.int .i64 (-1:Int))] []else if(c==34)=true then k [.d false 0 (.int .i64 3)] []else if decide (idxS (ByteArray.mk #[45,60,62,33,61,46,91,93,40,41,58,59,44,43,42,38,124,63,39]) c≥0)=true then k [.d false 0 (.int .i64 4)] []else k [.d false 0 (.int .i64 (-1:Int))] []else if(c==95)=true then k [.d false 0 (.int .i64 1)] []else if decide (c≥48)=true then if decide (c≤57)=true then k [.d false 0 (.int .i64 2)] []else if(c==34)=true then k [.d false 0 (.int .i64 3)] []else if decide (idxS (ByteArray.mk #[45,60,62,33,61,46,91,93,40,41,58,59,44,43,42,38,124,63,39]) c≥0)=true then k [.d false 0 (.int .i64 4)] []else k [.d false 0 (.int .i64 (-1:Int))] []else if(c==34)=true then k [.d false 0 (.int .i64 3)] []else if decide (idxS (ByteArray.mk #[45,60,62,33,61,46,91,93,40,41,58,59,44,43,42,38,124,63,39]) c≥0)=true then k [.d false 0 (.int .i64 4)] []else k [.d false 0 (.int .i64 (-1:Int))] []else if decide (c≥65)=true then if decide (c≤90)=true then k [.d false 0 (.int .i64 1)] []else if(c==95)=true then k [.d false 0 (.int .i64 1)] []else if decide (c≥48)=true then if decide (c≤57)=true then k [.d false 0 (.int .i64 2)] []else if(c==34)=true then k [.d false 0 (.int .i64 3)] []else if decide (idxS (ByteArray.mk #[45,60,62,33,61,46,91,93,40,41,58,59,44,43,42,38,124,63,39]) c≥0)=true then k [.d false 0 (.int .i64 4)] []else k [.d false 0 (.int .i64 (-1:Int))] []else if(c==34)=true then k [.d false 0 (.int .i64 3)] []else if decide (idxS (ByteArray.mk #[45,60,62,33,61,46,91,93,40,41,58,59,44,43,42,38,124,63,39]) c≥0)=true then k [.d false 0 (.int .i64 4)] []else k [.d false 0 (.int .i64 (-1:Int))] []else if(c==95)=true then k [.d false 0 (.int .i64 1)] []else if decide (c≥48)=true then if decide (c≤57)=true then k [.d false 0 (.int .i64 2)] []else if(c==34)=true then k [.d false 0 (.int .i64 3)] []else if decide (idxS (ByteArray.mk #[45,60,62,33,61,46,91,93,40,41,58,59,44,43,42,38,124,63,39]) c≥0)=true then k [.d false 0 (.int .i64 4)] []else k [.d false 0 (.int .i64 (-1:Int))] []else if(c==34)=true then k [.d false 0 (.int .i64 3)] []else if decide (idxS (ByteArray.mk #[45,60,62,33,61,46,91,93,40,41,58,59,44,43,42,38,124,63,39]) c≥0)=true then k [.d false 0 (.int .i64 4)] []else k [.d false 0 (.int .i64 (-1:Int))] []:=by kernel_rfl
end F33
namespace F35
theorem start {β:Type} (c:Int) (k:List TV→List TV→Option β):evalF Tryz.prog E8 Tryz.f128 [.d true 0 (.int .i64 c)] k=if(c==1)=true then k [.d false 0 (.bool true)] []else k [.d false 0 (.bool (c==2))] []:=by kernel_rfl
end F35
namespace F36
theorem start {β:Type} (c:Int) (k:List TV→List TV→Option β):evalF Tryz.prog E8b Tryz.f129 [.d true 0 (.int .i64 c)] k=k [.d false 0 (.bool (c==2))] []:=by kernel_rfl
end F36
namespace F34a
noncomputable def X:Fx:=⟨Tryz.prog,E9,64,3⟩
def s0 (s:ByteArray) (a:Int) (x9:Int):S:=⟨Tm.mk 27 [(0,.d true 0 (.str s)),(1,.d true 0 (.int .i64 a)),(2,.d true 0 (.fn 128 [])),(7,.d false 0 (.int .i64 x9))],[]⟩
def e0x0 (x20:Int):S:=⟨Tm.mk 27 [(7,.d false 0 (.int .i64 x20))],[]⟩
noncomputable abbrev L0:S→Option (S ⊕ (Ex×S)):=roundK X [(0,128)] (sub [1,1,0,0,0] (body Tryz.f127))
theorem start {β:Type} (s:ByteArray) (a:Int) (k:List TV→List TV→Option β):evalF Tryz.prog E9 Tryz.f127 [.d true 0 (.str s),.d true 0 (.int .i64 a),.d true 0 (.fn (128:FuncId) [])] k=goLp X [(0,128)] (sub [1,1,0,0,0] (body Tryz.f127)) [Kf.block 0 128,Kf.seq [] (sub [1,1,1] (body Tryz.f127)) 64] (finK Tryz.prog Tryz.f127 [.d true 0 (.str s),.d true 0 (.int .i64 a),.d true 0 (.fn (128:FuncId) [])] k) (s0 s a (0:Int)):=by kernel_rfl
theorem round0 (s:ByteArray) (a:Int) (x9:Int):roundK X [(0,128)] (sub [1,1,0,0,0] (body Tryz.f127)) (s0 s a x9)=if decide (IntKind.wrap .i64 (a+x9)<(↑(ByteArray.size s):Int))=true then if 0≤IntKind.wrap .i64 (a+x9)then match s[Int.toNat (IntKind.wrap .i64 (a+x9))]? with
   |some c25=>if(0:Int)≤(↑(UInt8.toNat c25):Int)∧(↑(UInt8.toNat c25):Int)<256 then if may1 (kindI (↑(UInt8.toNat c25):Int))=true then some (Sum.inl (s0 s a (IntKind.wrap .i64 (x9+1))))else some (Sum.inr (Ex.exit 0,e0x0 x9))else none
   |none=>none else none else some (Sum.inr (Ex.exit 0,e0x0 x9)):=by kernel_rfl
theorem behind0x0 {β:Type} (s:ByteArray) (a:Int) (x20:Int) (k:List TV→List TV→Option β):applyK X (finK Tryz.prog Tryz.f127 [.d true 0 (.str s),.d true 0 (.int .i64 a),.d true 0 (.fn (128:FuncId) [])] k) [Kf.block 0 128,Kf.seq [] (sub [1,1,1] (body Tryz.f127)) 64] (Ex.exit 0) (e0x0 x20)=k [.d false 0 (.int .i64 x20)] []:=by kernel_rfl
end F34a
namespace F34b
noncomputable def X:Fx:=⟨Tryz.prog,E9,64,3⟩
def s0 (s:ByteArray) (a:Int) (x9:Int):S:=⟨Tm.mk 27 [(0,.d true 0 (.str s)),(1,.d true 0 (.int .i64 a)),(2,.d true 0 (.fn 129 [])),(7,.d false 0 (.int .i64 x9))],[]⟩
def e0x0 (x20:Int):S:=⟨Tm.mk 27 [(7,.d false 0 (.int .i64 x20))],[]⟩
noncomputable abbrev L0:S→Option (S ⊕ (Ex×S)):=roundK X [(0,128)] (sub [1,1,0,0,0] (body Tryz.f127))
theorem start {β:Type} (s:ByteArray) (a:Int) (k:List TV→List TV→Option β):evalF Tryz.prog E9 Tryz.f127 [.d true 0 (.str s),.d true 0 (.int .i64 a),.d true 0 (.fn (129:FuncId) [])] k=goLp X [(0,128)] (sub [1,1,0,0,0] (body Tryz.f127)) [Kf.block 0 128,Kf.seq [] (sub [1,1,1] (body Tryz.f127)) 64] (finK Tryz.prog Tryz.f127 [.d true 0 (.str s),.d true 0 (.int .i64 a),.d true 0 (.fn (129:FuncId) [])] k) (s0 s a (0:Int)):=by kernel_rfl
theorem round0 (s:ByteArray) (a:Int) (x9:Int):roundK X [(0,128)] (sub [1,1,0,0,0] (body Tryz.f127)) (s0 s a x9)=if decide (IntKind.wrap .i64 (a+x9)<(↑(ByteArray.size s):Int))=true then if 0≤IntKind.wrap .i64 (a+x9)then match s[Int.toNat (IntKind.wrap .i64 (a+x9))]? with
   |some c25=>if(0:Int)≤(↑(UInt8.toNat c25):Int)∧(↑(UInt8.toNat c25):Int)<256 then if may2 (kindI (↑(UInt8.toNat c25):Int))=true then some (Sum.inl (s0 s a (IntKind.wrap .i64 (x9+1))))else some (Sum.inr (Ex.exit 0,e0x0 x9))else none
   |none=>none else none else some (Sum.inr (Ex.exit 0,e0x0 x9)):=by kernel_rfl
theorem behind0x0 {β:Type} (s:ByteArray) (a:Int) (x20:Int) (k:List TV→List TV→Option β):applyK X (finK Tryz.prog Tryz.f127 [.d true 0 (.str s),.d true 0 (.int .i64 a),.d true 0 (.fn (129:FuncId) [])] k) [Kf.block 0 128,Kf.seq [] (sub [1,1,1] (body Tryz.f127)) 64] (Ex.exit 0) (e0x0 x20)=k [.d false 0 (.int .i64 x20)] []:=by kernel_rfl
end F34b
namespace F30
noncomputable def X:Fx:=⟨Tryz.prog,E10,12,1⟩
def s0 (s:ByteArray) (x15:Int) (x16:Int):S:=⟨Tm.mk 28 [(0,.d true 0 (.str s)),(4,.d false 0 (.int .i64 x15)),(8,.d false 0 (.int .i64 (↑(ByteArray.size s):Int))),(9,.d false 0 (.int .i64 x16))],[]⟩
def e0r:S:=⟨Tm.mk 28 [(2,.d false 0 (.int .i64 0)),(3,.d false 0 (.bool false))],[]⟩
def e0x0 (x33:Int):S:=⟨Tm.mk 28 [(4,.d false 0 (.int .i64 x33))],[]⟩
noncomputable abbrev L0:S→Option (S ⊕ (Ex×S)):=roundK X [(0,16)] (sub [1,1,0,1,0,0] (body Tryz.f130))
theorem start {β:Type} (s:ByteArray) (k:List TV→List TV→Option β):evalF Tryz.prog E10 Tryz.f130 [.d true 0 (.str s)] k=goLp X [(0,16)] (sub [1,1,0,1,0,0] (body Tryz.f130)) [Kf.block 0 16,Kf.seq [] (sub [1,1,1] (body Tryz.f130)) 12] (finK Tryz.prog Tryz.f130 [.d true 0 (.str s)] k) (s0 s (0:Int) (0:Int)):=by kernel_rfl
theorem round0 (s:ByteArray) (x15:Int) (x16:Int):roundK X [(0,16)] (sub [1,1,0,1,0,0] (body Tryz.f130)) (s0 s x15 x16)=if decide (x16<(↑(ByteArray.size s):Int))=true then if 0≤x16 then match s[x16.toNat]? with
   |some c42=>if decide (x15>IntKind.wrap .i64 (Int.tdiv (IntKind.wrap .i64 ((9223372036854775807:Int) - IntKind.wrap .i64 (IntKind.wrap IntKind.u8 ((↑(UInt8.toNat c42):Int) - 48)))) (10:Int)))=true then some (Sum.inr (Ex.ret,e0r))else some (Sum.inl (s0 s (IntKind.wrap .i64 (IntKind.wrap .i64 ((10:Int)*x15)+IntKind.wrap .i64 (IntKind.wrap IntKind.u8 ((↑(UInt8.toNat c42):Int) - 48)))) (IntKind.wrap .i64 (x16+1))))
   |none=>none else none else some (Sum.inr (Ex.exit 0,e0x0 x15)):=by kernel_rfl
theorem behind0r {β:Type} (s:ByteArray) (k:List TV→List TV→Option β):applyK X (finK Tryz.prog Tryz.f130 [.d true 0 (.str s)] k) [Kf.block 0 16,Kf.seq [] (sub [1,1,1] (body Tryz.f130)) 12] Ex.ret e0r=k [.d false 0 (.int .i64 0),.d false 0 (.bool false)] []:=by kernel_rfl
theorem behind0x0 {β:Type} (s:ByteArray) (x33:Int) (k:List TV→List TV→Option β):applyK X (finK Tryz.prog Tryz.f130 [.d true 0 (.str s)] k) [Kf.block 0 16,Kf.seq [] (sub [1,1,1] (body Tryz.f130)) 12] (Ex.exit 0) (e0x0 x33)=k [.d false 0 (.int .i64 x33),.d false 0 (.bool true)] []:=by kernel_rfl
end F30
namespace F38
noncomputable def X:Fx:=⟨Tryz.prog,E11,4,1⟩
def s0 (s:ByteArray) (x22:Int):S:=⟨Tm.mk 31 [(0,.d true 0 (.str s)),(3,.d false 0 (.int .i64 (idxS (ByteArray.extract s 1 (Int.toNat (↑(ByteArray.size s):Int))) (34:Int)))),(4,.d false 0 (.int .i64 x22))],[]⟩
def e0r:S:=⟨Tm.mk 31 [(2,.d false 0 (.int .i64 0))],[]⟩
def e0x0 (s:ByteArray):S:=⟨Tm.mk 31 [(3,.d false 0 (.int .i64 (idxS (ByteArray.extract s 1 (Int.toNat (↑(ByteArray.size s):Int))) (34:Int))))],[]⟩
noncomputable abbrev L0:S→Option (S ⊕ (Ex×S)):=roundK X [(0,8)] (sub [1,1,1,0,1,0,0] (body Tryz.f132))
theorem start {β:Type} (s:ByteArray) (k:List TV→List TV→Option β):evalF Tryz.prog E11 Tryz.f132 [.d true 0 (.str s)] k=if(0:Int)≤(↑(ByteArray.size s):Int)∧(↑(ByteArray.size s):Int)≤(↑(ByteArray.size s):Int)∧(0:Int)≤1∧(1:Int)≤(↑(ByteArray.size s):Int)then if decide (idxS (ByteArray.extract s 1 (Int.toNat (↑(ByteArray.size s):Int))) (34:Int)<1)=true then k [.d false 0 (.int .i64 0)] []else if decide (idxS (ByteArray.extract s 1 (Int.toNat (↑(ByteArray.size s):Int))) (34:Int)>32)=true then k [.d false 0 (.int .i64 0)] []else goLp X [(0,8)] (sub [1,1,1,0,1,0,0] (body Tryz.f132)) [Kf.block 0 8,Kf.seq [] (sub [1,1,1,1] (body Tryz.f132)) 4] (finK Tryz.prog Tryz.f132 [.d true 0 (.str s)] k) (s0 s (1:Int))else none:=by kernel_rfl
theorem round0 (s:ByteArray) (x22:Int):roundK X [(0,8)] (sub [1,1,1,0,1,0,0] (body Tryz.f132)) (s0 s x22)=if decide (x22≤idxS (ByteArray.extract s 1 (Int.toNat (↑(ByteArray.size s):Int))) (34:Int))=true then if 0≤x22 then match s[x22.toNat]? with
   |some c35=>if decide ((↑(UInt8.toNat c35):Int)<32)=true then some (Sum.inr (Ex.ret,e0r))else if 0≤x22 then match s[x22.toNat]? with
    |some c38=>if decide ((↑(UInt8.toNat c38):Int)>126)=true then some (Sum.inr (Ex.ret,e0r))else some (Sum.inl (s0 s (IntKind.wrap .i64 (x22+1))))
    |none=>none else none
   |none=>none else none else some (Sum.inr (Ex.exit 0,e0x0 s)):=by kernel_rfl
theorem behind0r {β:Type} (s:ByteArray) (k:List TV→List TV→Option β):applyK X (finK Tryz.prog Tryz.f132 [.d true 0 (.str s)] k) [Kf.block 0 8,Kf.seq [] (sub [1,1,1,1] (body Tryz.f132)) 4] Ex.ret e0r=k [.d false 0 (.int .i64 0)] []:=by kernel_rfl
theorem behind0x0 {β:Type} (s:ByteArray) (k:List TV→List TV→Option β):applyK X (finK Tryz.prog Tryz.f132 [.d true 0 (.str s)] k) [Kf.block 0 8,Kf.seq [] (sub [1,1,1,1] (body Tryz.f132)) 4] (Ex.exit 0) (e0x0 s)=k [.d false 0 (.int .i64 (IntKind.wrap .i64 (idxS (ByteArray.extract s 1 (Int.toNat (↑(ByteArray.size s):Int))) (34:Int)+2)))] []:=by kernel_rfl
end F38
namespace F39
noncomputable def X:Fx:=⟨Tryz.prog,E12,4,1⟩
def s0 (s:ByteArray) (x9:Int):S:=⟨Tm.mk 18 [(0,.d true 0 (.str s)),(5,.ag [.d false 0 (.str (ByteArray.mk #[45,62])),.d false 0 (.str (ByteArray.mk #[60,61])),.d false 0 (.str (ByteArray.mk #[62,61])),.d false 0 (.str (ByteArray.mk #[33,61])),.d false 0 (.str (ByteArray.mk #[61,62])),.d false 0 (.str (ByteArray.mk #[46,46]))]),(6,.d false 0 (.int .i64 x9))],[]⟩
def e0r:S:=⟨Tm.mk 18 [(2,.d false 0 (.int .i64 2))],[]⟩
def e0x0 (s:ByteArray):S:=⟨Tm.mk 18 [(0,.d true 0 (.str s))],[]⟩
noncomputable abbrev L0:S→Option (S ⊕ (Ex×S)):=roundK X [(0,1)] (sub [1,0,1,0,0] (body Tryz.f133))
theorem start {β:Type} (s:ByteArray) (k:List TV→List TV→Option β):evalF Tryz.prog E12 Tryz.f133 [.d true 0 (.str s)] k=goLp X [(0,1)] (sub [1,0,1,0,0] (body Tryz.f133)) [Kf.block 0 1,Kf.seq [] (sub [1,1] (body Tryz.f133)) 4] (finK Tryz.prog Tryz.f133 [.d true 0 (.str s)] k) (s0 s (0:Int)):=by kernel_rfl
theorem round0_0 (s:ByteArray):roundK X [(0,1)] (sub [1,0,1,0,0] (body Tryz.f133)) (s0 s (0:Int))=if hasP s (ByteArray.mk #[45,62])=true then some (Sum.inr (Ex.ret,e0r))else some (Sum.inl (s0 s (1:Int))):=by kernel_rfl
theorem round0_1 (s:ByteArray):roundK X [(0,1)] (sub [1,0,1,0,0] (body Tryz.f133)) (s0 s (1:Int))=if hasP s (ByteArray.mk #[60,61])=true then some (Sum.inr (Ex.ret,e0r))else some (Sum.inl (s0 s (2:Int))):=by kernel_rfl
theorem round0_2 (s:ByteArray):roundK X [(0,1)] (sub [1,0,1,0,0] (body Tryz.f133)) (s0 s (2:Int))=if hasP s (ByteArray.mk #[62,61])=true then some (Sum.inr (Ex.ret,e0r))else some (Sum.inl (s0 s (3:Int))):=by kernel_rfl
theorem round0_3 (s:ByteArray):roundK X [(0,1)] (sub [1,0,1,0,0] (body Tryz.f133)) (s0 s (3:Int))=if hasP s (ByteArray.mk #[33,61])=true then some (Sum.inr (Ex.ret,e0r))else some (Sum.inl (s0 s (4:Int))):=by kernel_rfl
theorem round0_4 (s:ByteArray):roundK X [(0,1)] (sub [1,0,1,0,0] (body Tryz.f133)) (s0 s (4:Int))=if hasP s (ByteArray.mk #[61,62])=true then some (Sum.inr (Ex.ret,e0r))else some (Sum.inl (s0 s (5:Int))):=by kernel_rfl
theorem round0_5 (s:ByteArray):roundK X [(0,1)] (sub [1,0,1,0,0] (body Tryz.f133)) (s0 s (5:Int))=if hasP s (ByteArray.mk #[46,46])=true then some (Sum.inr (Ex.ret,e0r))else some (Sum.inl (s0 s (6:Int))):=by kernel_rfl
theorem round0_6 (s:ByteArray):roundK X [(0,1)] (sub [1,0,1,0,0] (body Tryz.f133)) (s0 s (6:Int))=some (Sum.inr (Ex.exit 0,e0x0 s)):=by kernel_rfl
theorem behind0r {β:Type} (s:ByteArray) (k:List TV→List TV→Option β):applyK X (finK Tryz.prog Tryz.f133 [.d true 0 (.str s)] k) [Kf.block 0 1,Kf.seq [] (sub [1,1] (body Tryz.f133)) 4] Ex.ret e0r=k [.d false 0 (.int .i64 2)] []:=by kernel_rfl
theorem behind0x0 {β:Type} (s:ByteArray) (k:List TV→List TV→Option β):applyK X (finK Tryz.prog Tryz.f133 [.d true 0 (.str s)] k) [Kf.block 0 1,Kf.seq [] (sub [1,1] (body Tryz.f133)) 4] (Ex.exit 0) (e0x0 s)=match s[0]? with
   |some c99=>if((↑(UInt8.toNat c99):Int)==46)=true then k [.d false 0 (.int .i64 0)] []else k [.d false 0 (.int .i64 1)] []
   |none=>none:=by kernel_rfl
end F39
namespace F23
noncomputable def X:Fx:=⟨Tryz.prog,E13,16,2⟩
def s0 (s:ByteArray) (a:Int) (x35:Bool) (x36:Int):S:=⟨Tm.mk 53 [(0,.d true 0 (.str s)),(1,.d true 0 (.int .i64 a)),(5,.d x35 0 (.int .i64 x36))],[]⟩
def e0x0 (a:Int) (x74:Bool) (x75:Int):S:=⟨Tm.mk 53 [(1,.d true 0 (.int .i64 a)),(5,.d x74 0 (.int .i64 x75))],[]⟩
def j0 (s:ByteArray) (a:Int) (x22:Bool) (x54:Bool) (x55:Int):S:=⟨Tm.mk 53 [(0,.d true 0 (.str s)),(1,.d true 0 (.int .i64 a)),(5,.d x54 0 (.int .i64 x55)),(14,.d false 0 (.bool x22))],[]⟩
noncomputable abbrev L0:S→Option (S ⊕ (Ex×S)):=roundK X [(0,34)] (sub [1,1,0,0,0] (body Tryz.f115))
theorem start {β:Type} (s:ByteArray) (a:Int) (k:List TV→List TV→Option β):evalF Tryz.prog E13 Tryz.f115 [.d true 0 (.str s),.d true 0 (.int .i64 a)] k=goLp X [(0,34)] (sub [1,1,0,0,0] (body Tryz.f115)) [Kf.block 0 34,Kf.seq [] (sub [1,1,1] (body Tryz.f115)) 16] (finK Tryz.prog Tryz.f115 [.d true 0 (.str s),.d true 0 (.int .i64 a)] k) (s0 s a true a):=by kernel_rfl
theorem round0 (s:ByteArray) (a:Int) (x35:Bool) (x36:Int):roundK X [(0,34)] (sub [1,1,0,0,0] (body Tryz.f115)) (s0 s a x35 x36)=if decide (x36<(↑(ByteArray.size s):Int))=true then if 0≤x36 then match s[x36.toNat]? with
   |some c91=>if((↑(UInt8.toNat c91):Int)==32)=true then applyK X (finR X [(0,34)] (sub [1,1,0,0,0] (body Tryz.f115))) [Kf.seq [(2,34),(1,35),(0,34)] (sub [1,1,0,0,0,1,0,0,0,1] (body Tryz.f115)) 34,Kf.block 2 34,Kf.seq [(1,35),(0,34)] (sub [1,1,0,0,0,1,0,1] (body Tryz.f115)) 35,Kf.block 1 35] Ex.norm (j0 s a ((↑(UInt8.toNat c91):Int)==32) x35 x36)else if 0≤x36 then match s[x36.toNat]? with
    |some c94=>if((↑(UInt8.toNat c94):Int)==9)=true then applyK X (finR X [(0,34)] (sub [1,1,0,0,0] (body Tryz.f115))) [Kf.seq [(2,34),(1,35),(0,34)] (sub [1,1,0,0,0,1,0,0,0,1] (body Tryz.f115)) 34,Kf.block 2 34,Kf.seq [(1,35),(0,34)] (sub [1,1,0,0,0,1,0,1] (body Tryz.f115)) 35,Kf.block 1 35] Ex.norm (j0 s a ((↑(UInt8.toNat c94):Int)==9) x35 x36)else if 0≤x36 then match s[x36.toNat]? with
     |some c97=>if((↑(UInt8.toNat c97):Int)==10)=true then applyK X (finR X [(0,34)] (sub [1,1,0,0,0] (body Tryz.f115))) [Kf.seq [(2,34),(1,35),(0,34)] (sub [1,1,0,0,0,1,0,0,0,1] (body Tryz.f115)) 34,Kf.block 2 34,Kf.seq [(1,35),(0,34)] (sub [1,1,0,0,0,1,0,1] (body Tryz.f115)) 35,Kf.block 1 35] Ex.norm (j0 s a ((↑(UInt8.toNat c97):Int)==10) x35 x36)else if 0≤x36 then match s[x36.toNat]? with
      |some c100=>applyK X (finR X [(0,34)] (sub [1,1,0,0,0] (body Tryz.f115))) [Kf.seq [(2,34),(1,35),(0,34)] (sub [1,1,0,0,0,1,0,0,0,1] (body Tryz.f115)) 34,Kf.block 2 34,Kf.seq [(1,35),(0,34)] (sub [1,1,0,0,0,1,0,1] (body Tryz.f115)) 35,Kf.block 1 35] Ex.norm (j0 s a ((↑(UInt8.toNat c100):Int)==13) x35 x36)
      |none=>none else none
     |none=>none else none
    |none=>none else none
   |none=>none else none else some (Sum.inr (Ex.exit 0,e0x0 a x35 x36)):=by kernel_rfl
theorem behind0x0 {β:Type} (s:ByteArray) (a:Int) (x74:Bool) (x75:Int) (k:List TV→List TV→Option β):applyK X (finK Tryz.prog Tryz.f115 [.d true 0 (.str s),.d true 0 (.int .i64 a)] k) [Kf.block 0 34,Kf.seq [] (sub [1,1,1] (body Tryz.f115)) 16] (Ex.exit 0) (e0x0 a x74 x75)=k [.d false 0 (.int .i64 (IntKind.wrap .i64 (x75 - a)))] []:=by kernel_rfl
theorem j0_eq (s:ByteArray) (a:Int) (x22:Bool) (x54:Bool) (x55:Int):applyK X (finR X [(0,34)] (sub [1,1,0,0,0] (body Tryz.f115))) [Kf.seq [(2,34),(1,35),(0,34)] (sub [1,1,0,0,0,1,0,0,0,1] (body Tryz.f115)) 34,Kf.block 2 34,Kf.seq [(1,35),(0,34)] (sub [1,1,0,0,0,1,0,1] (body Tryz.f115)) 35,Kf.block 1 35] Ex.norm (j0 s a x22 x54 x55)=if x22=true then some (Sum.inl (s0 s a false (IntKind.wrap .i64 (x55+1))))else if(0:Int)≤(↑(ByteArray.size s):Int)∧(↑(ByteArray.size s):Int)≤(↑(ByteArray.size s):Int)∧0≤x55∧x55≤(↑(ByteArray.size s):Int)then if hasP (ByteArray.extract s x55.toNat (Int.toNat (↑(ByteArray.size s):Int))) (ByteArray.mk #[47,47])=true then if(0:Int)≤(↑(ByteArray.size s):Int)∧(↑(ByteArray.size s):Int)≤(↑(ByteArray.size s):Int)∧0≤x55∧x55≤(↑(ByteArray.size s):Int)then if small (ByteArray.extract s x55.toNat (Int.toNat (↑(ByteArray.size s):Int)))then match Nat.ble (ByteArray.size (ByteArray.extract s x55.toNat (Int.toNat (↑(ByteArray.size s):Int)))) (Int.toNat (indexS (ByteArray.extract s x55.toNat (Int.toNat (↑(ByteArray.size s):Int))) (UInt8.ofNat (nat_lit 10))))||decide (indexS (ByteArray.extract s x55.toNat (Int.toNat (↑(ByteArray.size s):Int))) (UInt8.ofNat (nat_lit 10))<0)with
   |true=>some (Sum.inl (s0 s a false (IntKind.wrap .i64 (x55+(↑(ByteArray.size (ByteArray.extract s x55.toNat (Int.toNat (↑(ByteArray.size s):Int)))):Int)))))
   |false=>some (Sum.inl (s0 s a false (IntKind.wrap .i64 (x55+(↑(ByteArray.size (ByteArray.extract (ByteArray.extract s x55.toNat (Int.toNat (↑(ByteArray.size s):Int))) 0 (Int.toNat (indexS (ByteArray.extract s x55.toNat (Int.toNat (↑(ByteArray.size s):Int))) (UInt8.ofNat (nat_lit 10)))))):Int)))))else none else none else some (Sum.inr (Ex.exit 0,e0x0 a x54 x55))else none:=by kernel_rfl
end F23
namespace F37
theorem start {β:Type} (p:Int) (n:Int) (k:List TV→List TV→Option β):evalF Tryz.prog E14 Tryz.f131 [.d true 0 (.int .i64 p),.d true 0 (.ifc (84:TypeId) (.int .i64 n))] k=k [.d true 0 (.ifc 114 (.pt 3 (.ag [D.int .i64 p,D.ifc 84 (.int .i64 n)])))] []:=by kernel_rfl
end F37
namespace F24
theorem start {β:Type} (s:ByteArray) (a:Int) (k:List TV→List TV→Option β):evalF Tryz.prog E15 Tryz.f116 [.d true 0 (.str s),.d true 0 (.int .i64 a)] k=if 0≤a then match s[a.toNat]? with
   |some c2=>if(0:Int)≤(↑(UInt8.toNat c2):Int)∧(↑(UInt8.toNat c2):Int)<256 then if(kindI (↑(UInt8.toNat c2):Int)==1)=true then if inS s a then if((↑(runL may1 (List.drop a.toNat s.toList)):Int)==0)=true then k [.d false 4 (.ag [D.int .i64 0,D.str (ByteArray.mk #[]),D.int .i64 0]),.d false 0 (.int .i64 0),.d false 0 (.ifc 114 (.pt 3 (.ag [D.int .i64 a,D.ifc 84 (.int .i64 20)])))] []else if 0≤IntKind.wrap .i64 (a+(↑(runL may1 (List.drop a.toNat s.toList)):Int))∧IntKind.wrap .i64 (a+(↑(runL may1 (List.drop a.toNat s.toList)):Int))≤(↑(ByteArray.size s):Int)∧0≤a∧a≤IntKind.wrap .i64 (a+(↑(runL may1 (List.drop a.toNat s.toList)):Int))then k [.d true 4 (.ag [D.int .i64 (kindI (↑(UInt8.toNat c2):Int)),D.str (ByteArray.extract s a.toNat (Int.toNat (IntKind.wrap .i64 (a+(↑(runL may1 (List.drop a.toNat s.toList)):Int))))),D.int .i64 a]),.d false 0 (.int .i64 (↑(runL may1 (List.drop a.toNat s.toList)):Int)),.d false 0 D.nili] []else none else none else if(kindI (↑(UInt8.toNat c2):Int)==2)=true then if inS s a then if 0≤IntKind.wrap .i64 (a+(↑(runL may2 (List.drop a.toNat s.toList)):Int))∧IntKind.wrap .i64 (a+(↑(runL may2 (List.drop a.toNat s.toList)):Int))≤(↑(ByteArray.size s):Int)∧0≤a∧a≤IntKind.wrap .i64 (a+(↑(runL may2 (List.drop a.toNat s.toList)):Int))then if small (ByteArray.extract s a.toNat (Int.toNat (IntKind.wrap .i64 (a+(↑(runL may2 (List.drop a.toNat s.toList)):Int)))))∧digitsL (ByteArray.toList (ByteArray.extract s a.toNat (Int.toNat (IntKind.wrap .i64 (a+(↑(runL may2 (List.drop a.toNat s.toList)):Int))))))then match valI (ByteArray.toList (ByteArray.extract s a.toNat (Int.toNat (IntKind.wrap .i64 (a+(↑(runL may2 (List.drop a.toNat s.toList)):Int)))))) (0:Int)with
    |some n17=>if((↑(runL may2 (List.drop a.toNat s.toList)):Int)==0)=true then k [.d false 4 (.ag [D.int .i64 0,D.str (ByteArray.mk #[]),D.int .i64 0]),.d false 0 (.int .i64 0),.d false 0 (.ifc 114 (.pt 3 (.ag [D.int .i64 a,D.ifc 84 (.int .i64 20)])))] []else if 0≤IntKind.wrap .i64 (a+(↑(runL may2 (List.drop a.toNat s.toList)):Int))∧IntKind.wrap .i64 (a+(↑(runL may2 (List.drop a.toNat s.toList)):Int))≤(↑(ByteArray.size s):Int)∧0≤a∧a≤IntKind.wrap .i64 (a+(↑(runL may2 (List.drop a.toNat s.toList)):Int))then k [.d true 4 (.ag [D.int .i64 (kindI (↑(UInt8.toNat c2):Int)),D.str (ByteArray.extract s a.toNat (Int.toNat (IntKind.wrap .i64 (a+(↑(runL may2 (List.drop a.toNat s.toList)):Int))))),D.int .i64 a]),.d false 0 (.int .i64 (↑(runL may2 (List.drop a.toNat s.toList)):Int)),.d false 0 D.nili] []else none
    |none=>k [.d false 4 (.ag [D.int .i64 0,D.str (ByteArray.mk #[]),D.int .i64 0]),.d false 0 (.int .i64 0),.d false 0 (.ifc 114 (.pt 3 (.ag [D.int .i64 a,D.ifc 84 (.int .i64 10)])))] []else none else none else none else if(kindI (↑(UInt8.toNat c2):Int)==3)=true then if(0:Int)≤(↑(ByteArray.size s):Int)∧(↑(ByteArray.size s):Int)≤(↑(ByteArray.size s):Int)∧0≤a∧a≤(↑(ByteArray.size s):Int)then if small (ByteArray.extract s a.toNat (Int.toNat (↑(ByteArray.size s):Int)))∧0<ByteArray.size (ByteArray.extract s a.toNat (Int.toNat (↑(ByteArray.size s):Int)))then if decide ((↑(quotedL (ByteArray.toList (ByteArray.extract s a.toNat (Int.toNat (↑(ByteArray.size s):Int))))):Int)>0)=true then if 0≤IntKind.wrap .i64 (IntKind.wrap .i64 (a+(↑(quotedL (ByteArray.toList (ByteArray.extract s a.toNat (Int.toNat (↑(ByteArray.size s):Int))))):Int)) - 1)∧IntKind.wrap .i64 (IntKind.wrap .i64 (a+(↑(quotedL (ByteArray.toList (ByteArray.extract s a.toNat (Int.toNat (↑(ByteArray.size s):Int))))):Int)) - 1)≤(↑(ByteArray.size s):Int)∧0≤IntKind.wrap .i64 (a+1)∧IntKind.wrap .i64 (a+1)≤IntKind.wrap .i64 (IntKind.wrap .i64 (a+(↑(quotedL (ByteArray.toList (ByteArray.extract s a.toNat (Int.toNat (↑(ByteArray.size s):Int))))):Int)) - 1)then k [.d true 4 (.ag [D.int .i64 (kindI (↑(UInt8.toNat c2):Int)),D.str (ByteArray.extract s (Int.toNat (IntKind.wrap .i64 (a+1))) (Int.toNat (IntKind.wrap .i64 (IntKind.wrap .i64 (a+(↑(quotedL (ByteArray.toList (ByteArray.extract s a.toNat (Int.toNat (↑(ByteArray.size s):Int))))):Int)) - 1)))),D.int .i64 a]),.d false 0 (.int .i64 (↑(quotedL (ByteArray.toList (ByteArray.extract s a.toNat (Int.toNat (↑(ByteArray.size s):Int))))):Int)),.d false 0 D.nili] []else none else if((↑(quotedL (ByteArray.toList (ByteArray.extract s a.toNat (Int.toNat (↑(ByteArray.size s):Int))))):Int)==0)=true then k [.d false 4 (.ag [D.int .i64 0,D.str (ByteArray.mk #[]),D.int .i64 0]),.d false 0 (.int .i64 0),.d false 0 (.ifc 114 (.pt 3 (.ag [D.int .i64 a,D.ifc 84 (.int .i64 20)])))] []else if 0≤IntKind.wrap .i64 (a+(↑(quotedL (ByteArray.toList (ByteArray.extract s a.toNat (Int.toNat (↑(ByteArray.size s):Int))))):Int))∧IntKind.wrap .i64 (a+(↑(quotedL (ByteArray.toList (ByteArray.extract s a.toNat (Int.toNat (↑(ByteArray.size s):Int))))):Int))≤(↑(ByteArray.size s):Int)∧0≤a∧a≤IntKind.wrap .i64 (a+(↑(quotedL (ByteArray.toList (ByteArray.extract s a.toNat (Int.toNat (↑(ByteArray.size s):Int))))):Int))then k [.d true 4 (.ag [D.int .i64 (kindI (↑(UInt8.toNat c2):Int)),D.str (ByteArray.extract s a.toNat (Int.toNat (IntKind.wrap .i64 (a+(↑(quotedL (ByteArray.toList (ByteArray.extract s a.toNat (Int.toNat (↑(ByteArray.size s):Int))))):Int))))),D.int .i64 a]),.d false 0 (.int .i64 (↑(quotedL (ByteArray.toList (ByteArray.extract s a.toNat (Int.toNat (↑(ByteArray.size s):Int))))):Int)),.d false 0 D.nili] []else none else none else none else if(kindI (↑(UInt8.toNat c2):Int)==4)=true then if(0:Int)≤(↑(ByteArray.size s):Int)∧(↑(ByteArray.size s):Int)≤(↑(ByteArray.size s):Int)∧0≤a∧a≤(↑(ByteArray.size s):Int)then if 0<ByteArray.size (ByteArray.extract s a.toNat (Int.toNat (↑(ByteArray.size s):Int)))then if((↑(markL (ByteArray.toList (ByteArray.extract s a.toNat (Int.toNat (↑(ByteArray.size s):Int))))):Int)==0)=true then k [.d false 4 (.ag [D.int .i64 0,D.str (ByteArray.mk #[]),D.int .i64 0]),.d false 0 (.int .i64 0),.d false 0 (.ifc 114 (.pt 3 (.ag [D.int .i64 a,D.ifc 84 (.int .i64 20)])))] []else if 0≤IntKind.wrap .i64 (a+(↑(markL (ByteArray.toList (ByteArray.extract s a.toNat (Int.toNat (↑(ByteArray.size s):Int))))):Int))∧IntKind.wrap .i64 (a+(↑(markL (ByteArray.toList (ByteArray.extract s a.toNat (Int.toNat (↑(ByteArray.size s):Int))))):Int))≤(↑(ByteArray.size s):Int)∧0≤a∧a≤IntKind.wrap .i64 (a+(↑(markL (ByteArray.toList (ByteArray.extract s a.toNat (Int.toNat (↑(ByteArray.size s):Int))))):Int))then k [.d true 4 (.ag [D.int .i64 (kindI (↑(UInt8.toNat c2):Int)),D.str (ByteArray.extract s a.toNat (Int.toNat (IntKind.wrap .i64 (a+(↑(markL (ByteArray.toList (ByteArray.extract s a.toNat (Int.toNat (↑(ByteArray.size s):Int))))):Int))))),D.int .i64 a]),.d false 0 (.int .i64 (↑(markL (ByteArray.toList (ByteArray.extract s a.toNat (Int.toNat (↑(ByteArray.size s):Int))))):Int)),.d false 0 D.nili] []else none else none else none else k [.d false 4 (.ag [D.int .i64 0,D.str (ByteArray.mk #[]),D.int .i64 0]),.d false 0 (.int .i64 0),.d false 0 (.ifc 114 (.pt 3 (.ag [D.int .i64 a,D.ifc 84 (.int .i64 20)])))] []else none
   |none=>none else none:=by kernel_rfl
end F24
namespace F10
noncomputable def X:Fx:=⟨Tryz.prog,E16,12,1⟩
def s0 (s:ByteArray) (x25:List D) (x26:Int):S:=⟨Tm.mk 47 [(0,.d true 0 (.str s)),(4,.own false 4 x25),(5,.d false 0 (.int .i64 x26))],[]⟩
def e0r (x53:Int) (x54:Int):S:=⟨Tm.mk 47 [(2,.own false 4 []),(3,.d false 0 (.ifc 114 (.pt 3 (.ag [D.int .i64 x53,D.ifc 84 (.int .i64 x54)]))))],[]⟩
def e0x0 (s:ByteArray) (x55:List D):S:=⟨Tm.mk 47 [(0,.d true 0 (.str s)),(4,.own false 4 x55)],[]⟩
noncomputable abbrev L0:S→Option (S ⊕ (Ex×S)):=roundK X [(0,17)] (sub [1,1,1,1,0,0,0] (body Tryz.f92))
theorem start {β:Type} (s:ByteArray) (k:List TV→List TV→Option β):evalF Tryz.prog E16 Tryz.f92 [.d true 0 (.str s)] k=if decide ((↑(ByteArray.size s):Int)>65536)=true then k [.own false 4 [],.d false 0 (.ifc 84 (.int .i64 2))] []else if inS s (0:Int)then goLp X [(0,17)] (sub [1,1,1,1,0,0,0] (body Tryz.f92)) [Kf.block 0 17,Kf.seq [] (sub [1,1,1,1,1] (body Tryz.f92)) 12] (finK Tryz.prog Tryz.f92 [.d true 0 (.str s)] k) (s0 s [] (↑(blankL (List.drop 0 s.toList)):Int))else none:=by kernel_rfl
theorem round0 (s:ByteArray) (x25:List D) (x26:Int):roundK X [(0,17)] (sub [1,1,1,1,0,0,0] (body Tryz.f92)) (s0 s x25 x26)=if decide (x26<(↑(ByteArray.size s):Int))=true then if inS s x26∧x26<(↑(ByteArray.size s):Int)then match oneL (List.drop x26.toNat s.toList)with
   |Sum.inl n66=>some (Sum.inr (Ex.ret,e0r x26 n66))
   |Sum.inr (c70,t71,n72)=>if x25.length+1≤34359738368 then if inS s (IntKind.wrap .i64 (x26+(↑n72:Int)))then some (Sum.inl (s0 s (x25++[D.ag [D.int .i64 c70,D.str (B t71),D.int .i64 x26]]) (IntKind.wrap .i64 (IntKind.wrap .i64 (x26+(↑n72:Int))+(↑(blankL (List.drop (Int.toNat (IntKind.wrap .i64 (x26+(↑n72:Int)))) s.toList)):Int)))))else none else none else none else some (Sum.inr (Ex.exit 0,e0x0 s x25)):=by kernel_rfl
theorem behind0r {β:Type} (s:ByteArray) (x53:Int) (x54:Int) (k:List TV→List TV→Option β):applyK X (finK Tryz.prog Tryz.f92 [.d true 0 (.str s)] k) [Kf.block 0 17,Kf.seq [] (sub [1,1,1,1,1] (body Tryz.f92)) 12] Ex.ret (e0r x53 x54)=k [.own false 4 [],.d false 0 (.ifc 114 (.pt 3 (.ag [D.int .i64 x53,D.ifc 84 (.int .i64 x54)])))] []:=by kernel_rfl
theorem behind0x0 {β:Type} (s:ByteArray) (x55:List D) (k:List TV→List TV→Option β):applyK X (finK Tryz.prog Tryz.f92 [.d true 0 (.str s)] k) [Kf.block 0 17,Kf.seq [] (sub [1,1,1,1,1] (body Tryz.f92)) 12] (Ex.exit 0) (e0x0 s x55)=if x55.length+1≤34359738368 then k [.own false 4 (x55++[D.ag [D.int .i64 0,D.str (ByteArray.mk #[]),D.int .i64 (↑(ByteArray.size s):Int)]]),.d false 0 D.nili] []else none:=by kernel_rfl
end F10
end Go.Sd

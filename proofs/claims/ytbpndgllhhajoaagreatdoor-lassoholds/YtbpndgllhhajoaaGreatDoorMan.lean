/- Lists of integers that came in, and how long they are. -/
import Derived.Test.YtbpndgllhhajoaaGreatDoorMag
import Derived.Test.YtbpndgllhhajoaaGreatDoorMam
import Derived.ChangeArms
import Derived.SizedLaws
set_option linter.unusedVariables false
set_option linter.unusedSimpArgs false
namespace Go.Sd
open Go Go.Cm Go.Sc Go.Proofs Go.RowKit Go.ChangeMaps
theorem i64_of:∀(xs:List D),(∀x∈xs,x.shape=(Sc.int .i64).sh∧Fits (.int .i64) x.cells)→intsB xs=true
 |[],_=>rfl
 |x::xs,h=>by
  obtain⟨hs,hf⟩:=h x (.head _)
  obtain⟨n,e,hw⟩:=hf.of_int hs
  subst e
  exact i64_of xs fun y hy=>h y (.tail _ hy)
theorem sl_len {H:Type} {enc:TypeId×Value→H} {P:Program} {W:World} {base:Nat} {sp:Nat→Bool} {held:Bool} {t e:TypeId} {v:Value} {d:DataW H} {ps:List MemPlace} {F:Nat→Prop} {Hh:Hp} {sh:Nat} {xs:List D} {ts:List TypeId} {ds:List (DataW H)} {j:Nat}
  (hu:P.underlying t=some (.slice e)) (hb:P.bytesOf e=8) (hd:DataW.Trod enc P W base sp held t v d ps) (hr:RA Hh F (.sl sh xs) v)
  (hw:(DataW.weightsEach P ts ds).all (· ≤reachBytes)=true) (ht:ts[j]? =some t) (hj:ds[j]? =some d):xs.length≤4611686018427387903:=by
 rw[RA]at hr
 obtain⟨a,c,rfl,_⟩:=hr
 obtain⟨fuel,hf⟩:=hd
 rcases DataW.trod_slice hu hf with⟨h1,_⟩|⟨a',len,cap,elems,rest,n,_,h1,h2,_,_,_,h3,_⟩
 ·simp[Value.cells]at h1
  omega
 ·simp[Value.cells]at h1
  have hd:d=.slice (elems.map (·.1)) (rest.map (·.1)):=(Prod.mk.inj h2).1
  subst hd
  have:=sized_slice hw ht hj hu
  rw[hb,List.length_map,h3]at this
  have h47:reachBytes<2 ^ 47:=reachBytes_lt
  have e1:len=xs.length:=h1.2.1.symm
  omega
end Go.Sd

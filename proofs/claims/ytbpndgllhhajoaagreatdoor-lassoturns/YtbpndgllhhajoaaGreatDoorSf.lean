/- The scan laws' seat: errors.As where the error itself is what is wanted. -/
import Derived.Test.YtbpndgllhhajoaaGreatDoorSe
set_option linter.unusedVariables false
set_option linter.unusedSimpArgs false
namespace Go.Sd
open Go Go.Proofs Go.RowKit Go.Extern.Stop Go.Stop Go.Extern
set_option maxRecDepth 100000
set_option maxHeartbeats 4000000 in
theorem as_hit55 (n:Int) (t:Addr) (old:Value) (w:World) (hg:w.cell? ⟨0,0,none⟩=some (.iface 156 (.agg #[.pointer (some ⟨2,29,none⟩)]))) (ht0:w.cell? t=some old) (hf0:w.frozen? t=false):
  Calls Tryz.prog 48 #[.iface 84 (.int .i64 n),.iface 93 (.pointer (some t))] w fun ev w'=>ev=.returned (.bool true)∧w'=((((w.alloc (.cells #[.pointer (some t)] 93)).alloc (.cells #[.pointer (some ⟨2,93,none⟩),.pointer (some ⟨w.heap.size,0,none⟩),.int .u64 150] 128)).alloc (.cells #[.pointer (some ⟨2,93,none⟩),.pointer (some ⟨w.heap.size,0,none⟩),.int .u64 150] 128)).alloc (.cells #[.int .i64 n] 84)).setCell t (.int .i64 n):=by
 have h40:=@run_callFunc_extern Tryz.prog 74 _ (fun args=>ReflectliteValue.unpack (args.getD 0 (.tuple #[]))) Tryz.func74 (by kernel_rfl) (by kernel_rfl) (by kernel_rfl) (by kernel_rfl)
 have h41:=@run_callFunc_extern Tryz.prog 75 _ (ReflectliteValue.methodAny (ReflectliteValue.valueError "reflectlite.Value.Type" 0) (fun t _ _ _=>ReflectliteType.toType t)) Tryz.func75 (by kernel_rfl) (by kernel_rfl) (by kernel_rfl) (by kernel_rfl)
 have h42:=@run_callFunc_extern Tryz.prog 76 _ (ReflectliteValue.method (ReflectliteValue.valueError "reflectlite.Value.IsNil" 0) ReflectliteValue.isNil) Tryz.func76 (by kernel_rfl) (by kernel_rfl) (by kernel_rfl) (by kernel_rfl)
 have h71:=@run_callFunc_extern Tryz.prog 159 _ (ReflectliteType.abiMethod fun t=>do pure (.int .u8 (←Rtype.kind t))) Tryz.func159 (by kernel_rfl) (by kernel_rfl) (by kernel_rfl) (by kernel_rfl)
 have h83:=@run_callFunc_extern Tryz.prog 171 _ (ReflectliteType.method ReflectliteType.elem) Tryz.func171 (by kernel_rfl) (by kernel_rfl) (by kernel_rfl) (by kernel_rfl)
 have h84:=@run_callFunc_extern Tryz.prog 172 _ (ReflectliteType.relation "Implements" ReflectliteType.implements_) Tryz.func172 (by kernel_rfl) (by kernel_rfl) (by kernel_rfl) (by kernel_rfl)
 have h47:=@run_callFunc_extern Tryz.prog 111 _ ReflectliteType.typeOf Tryz.func111 (by kernel_rfl) (by kernel_rfl) (by kernel_rfl) (by kernel_rfl)
 have h81:=@run_callFunc_extern Tryz.prog 169 _ (ReflectliteType.relation "AssignableTo" ReflectliteType.assignableTo) Tryz.func169 (by kernel_rfl) (by kernel_rfl) (by kernel_rfl) (by kernel_rfl)
 have h48:=@run_callFunc_extern Tryz.prog 112 _ (ReflectliteValue.method (ReflectliteValue.valueError "reflectlite.Value.Elem" 0) ReflectliteValue.elem) Tryz.func112 (by kernel_rfl) (by kernel_rfl) (by kernel_rfl) (by kernel_rfl)
 have h49:=@run_callFunc_extern Tryz.prog 113 _ ReflectliteValue.set Tryz.func113 (by kernel_rfl) (by kernel_rfl) (by kernel_rfl) (by kernel_rfl)
 have tO:=typeOf55
 have mA:=methodAssignableTo
 have a25:=assignable55
 have v25:=valueOf55
 have f6:=valueOf62
 have f7:=type62
 have mK:=methodKind
 have mE:=methodElem
 have mI:=methodImplements
 have k27:=kind62
 have k25:=kind55
 have e27:=elem62
 have i25:=implements55
 have n8:=isNil62 ⟨w.heap.size,0,none⟩ t ((w.alloc (.cells #[.pointer (some t)] 93)).alloc (.cells #[.pointer (some ⟨2,93,none⟩),.pointer (some ⟨w.heap.size,0,none⟩),.int .u64 150] 128)) (by simp)
 have hlt:0<w.heap.size:=by
  rcases Nat.eq_zero_or_pos w.heap.size with h0|h
  ·simp[World.cell?,h0]at hg
  ·exact h
 have hg2:((w.alloc (.cells #[.pointer (some t)] 93)).alloc (.cells #[.pointer (some ⟨2,93,none⟩),.pointer (some ⟨w.heap.size,0,none⟩),.int .u64 150] 128)).cell? ⟨0,0,none⟩=some (.iface 156 (.agg #[.pointer (some ⟨2,29,none⟩)])):=by
  rw[World.cell?_alloc_lt _ _ ⟨0,0,none⟩ (by simp),World.cell?_alloc_lt _ _ ⟨0,0,none⟩ hlt];exact hg
 have htl:t.block<w.heap.size:=by
  rcases Nat.lt_or_ge t.block w.heap.size with h|h
  ·exact h
  ·simp[World.cell?,Array.getElem?_eq_none h]at ht0
 have el:=elemV62 ⟨w.heap.size,0,none⟩ t (((w.alloc (.cells #[.pointer (some t)] 93)).alloc (.cells #[.pointer (some ⟨2,93,none⟩),.pointer (some ⟨w.heap.size,0,none⟩),.int .u64 150] 128)).alloc (.cells #[.pointer (some ⟨2,93,none⟩),.pointer (some ⟨w.heap.size,0,none⟩),.int .u64 150] 128)) (by rw[World.cell?_alloc_lt _ _ ⟨w.heap.size,0,none⟩ (by simp;omega)];simp)
 have st:=set55 t ⟨w.heap.size+1+1+1,0,none⟩ n old ((((w.alloc (.cells #[.pointer (some t)] 93)).alloc (.cells #[.pointer (some ⟨2,93,none⟩),.pointer (some ⟨w.heap.size,0,none⟩),.int .u64 150] 128)).alloc (.cells #[.pointer (some ⟨2,93,none⟩),.pointer (some ⟨w.heap.size,0,none⟩),.int .u64 150] 128)).alloc (.cells #[.int .i64 n] 84))
  (by rw[World.cell?_alloc_at _ _ _ _ (by simp)];rfl)
  (by rw[World.cell?_alloc_lt _ _ t (by simp;omega),World.cell?_alloc_lt _ _ t (by simp;omega),World.cell?_alloc_lt _ _ t (by simp;omega),World.cell?_alloc_lt _ _ t htl];exact ht0)
  (by rw[World.frozen?_alloc_old _ _ t (by simp;omega),World.frozen?_alloc_old _ _ t (by simp;omega),World.frozen?_alloc_old _ _ t (by simp;omega),World.frozen?_alloc_old _ _ t (Nat.ne_of_lt htl)];exact hf0)
 go_enter Tryz.func48,Tryz.ntmps48
 go_wp2
 refine wp_loop_rounds 1 ?_
 rw[rounds_succ]
 go_wp2
 go_ret
 exact⟨rfl,rfl⟩
end Go.Sd

/- The scan laws' seat: errors.As at a target of type *Errno and at one of type **At (after the kit's worked example Toyas). -/
import Derived.KernelRfl
import Derived.Test.YtbpndgllhhajoaaGreatDoorProg
import Derived.WalkKit
import Derived.LaidEql
import Derived.Stop.Asserts
import Derived.RowKitTokens
set_option linter.unusedVariables false
set_option linter.unusedSimpArgs false
namespace Go.Sd
open Go Go.Proofs Go.RowKit Go.Extern.Stop Go.Stop Go.Extern
set_option maxRecDepth 100000
theorem rlm (z:Sem Value) (f:TypeId→Addr→Nat→Nat→Sem Value) (v:Value):
  ReflectliteValue.method z f #[v]=(do match ←ReflectliteValue.parts v with|none=>z|some (t,a,fl)=>f t a fl (fl % 32)):=rfl
theorem rls (v x:Value):ReflectliteValue.set #[v,x]=(do
  let(some (dst,a,fl),some (src,b,_)):=(←ReflectliteValue.parts v, ←ReflectliteValue.parts x)
   |unsupported (.noEntry "extern/(internal/reflectlite.Value).Set.zeroValue")
  if fl / ReflectliteValue.flagAddr % 2==0 then unsupported (.noEntry "extern/(internal/reflectlite.Value).Set.unaddressable")
  let val ←loadVar src b
  if ←Rtype.directlyAssignable dst src then storeVar dst a val
  else if ←Rtype.implements dst src then
   if(←Rtype.kind src)==20 then
    match val with
    |.nilIface=>unsupported (.noEntry "extern/reflectlite: a nil value of one interface type handed on as a value of another")
    |_=>storeVar dst a val
   else storeVar dst a (.iface src val)
  else panicString ("reflectlite.Set: value of type " ++(←Rtype.spelt src)++ " is not assignable to type " ++(←Rtype.spelt dst))
  pure (.tuple #[])):=rfl
theorem methodKind (h:Value) (w:World):(Go.method 318 156 (.agg #[h]) "Kind").run Tryz.prog w=.ok (159,h) w:=by kernel_rfl
theorem methodElem (h:Value) (w:World):(Go.method 318 156 (.agg #[h]) "Elem").run Tryz.prog w=.ok (171,.agg #[h]) w:=by kernel_rfl
theorem methodImplements (h:Value) (w:World):(Go.method 318 156 (.agg #[h]) "Implements").run Tryz.prog w=.ok (172,.agg #[h]) w:=by kernel_rfl
theorem methodAssignableTo (h:Value) (w:World):(Go.method 318 156 (.agg #[h]) "AssignableTo").run Tryz.prog w=.ok (169,.agg #[h]) w:=by kernel_rfl
theorem methodUnwrap (h:Value) (w:World):(Go.method 318 114 h "Unwrap").run Tryz.prog w=.ok (164,h) w:=by kernel_rfl
theorem valueOf55 (n:Int) (w:World):(ReflectliteValue.unpack (.iface 84 (.int .i64 n))).run Tryz.prog w
  =.ok (.agg #[.pointer (some ⟨2,84,none⟩),.pointer (some ⟨w.heap.size,0,none⟩),.int .u64 130]) (w.alloc (.cells #[.int .i64 n] 84)):=by kernel_rfl
theorem assignable6355 (w:World):(ReflectliteType.relation "AssignableTo" ReflectliteType.assignableTo #[.agg #[.pointer (some ⟨2,114,none⟩)],.iface 156 (.agg #[.pointer (some ⟨2,84,none⟩)])]).run Tryz.prog w=.ok (.bool false) w:=by kernel_rfl
theorem typeOf63 (v:Value) (w:World):(ReflectliteType.typeOf #[.iface 114 v]).run Tryz.prog w=.ok (.iface 156 (.agg #[.pointer (some ⟨2,114,none⟩)])) w:=by kernel_rfl
theorem valueOf62 (t:Addr) (w:World):(ReflectliteValue.unpack (.iface 93 (.pointer (some t)))).run Tryz.prog w
  =.ok (.agg #[.pointer (some ⟨2,93,none⟩),.pointer (some ⟨w.heap.size,0,none⟩),.int .u64 150]) (w.alloc (.cells #[.pointer (some t)] 93)):=by kernel_rfl
theorem type62 (a:Addr) (w:World):(ReflectliteValue.methodAny (ReflectliteValue.valueError "reflectlite.Value.Type" 0) (fun t _ _ _=>ReflectliteType.toType t) #[.agg #[.pointer (some ⟨2,93,none⟩),.pointer (some a),.int .u64 150]]).run Tryz.prog w
  =.ok (.iface 156 (.agg #[.pointer (some ⟨2,93,none⟩)])) w:=by kernel_rfl
theorem kind62 (w:World):((ReflectliteType.abiMethod fun t=>(fun a:Nat=>Value.int IntKind.u8 (a:Int))<$>Rtype.kind t) #[.pointer (some ⟨2,93,none⟩)]).run Tryz.prog w=.ok (.int .u8 22) w:=by kernel_rfl
theorem kind55 (w:World):((ReflectliteType.abiMethod fun t=>(fun a:Nat=>Value.int IntKind.u8 (a:Int))<$>Rtype.kind t) #[.pointer (some ⟨2,84,none⟩)]).run Tryz.prog w=.ok (.int .u8 2) w:=by kernel_rfl
theorem parts62 (a:Addr) (w:World):(ReflectliteValue.parts (.agg #[.pointer (some ⟨2,93,none⟩),.pointer (some a),.int .u64 150])).run Tryz.prog w=.ok (some (93,a,150)) w:=by kernel_rfl
theorem isNil62 (a p:Addr) (W:World) (ha:W.cell? a=some (.pointer (some p))):
  (ReflectliteValue.method (ReflectliteValue.valueError "reflectlite.Value.IsNil" 0) ReflectliteValue.isNil #[.agg #[.pointer (some ⟨2,93,none⟩),.pointer (some a),.int .u64 150]]).run Tryz.prog W=.ok (.bool false) W:=by
 rw[rlm]
 simp only[Sem.run_bind,parts62,Result.andThen]
 simp[ReflectliteValue.isNil,loadVar,isAgg,underlying,Tryz.underlying93,ha,Result.andThen]
theorem elem62 (w:World):(ReflectliteType.method ReflectliteType.elem #[.agg #[.pointer (some ⟨2,93,none⟩)]]).run Tryz.prog w=.ok (.iface 156 (.agg #[.pointer (some ⟨2,84,none⟩)])) w:=by kernel_rfl
theorem implements55 (w:World):(ReflectliteType.relation "Implements" ReflectliteType.implements_ #[.agg #[.pointer (some ⟨2,84,none⟩)],.iface 156 (.agg #[.pointer (some ⟨2,29,none⟩)])]).run Tryz.prog w=.ok (.bool true) w:=by kernel_rfl
theorem typeOf55 (v:Value) (w:World):(ReflectliteType.typeOf #[.iface 84 v]).run Tryz.prog w=.ok (.iface 156 (.agg #[.pointer (some ⟨2,84,none⟩)])) w:=by kernel_rfl
theorem assignable55 (w:World):(ReflectliteType.relation "AssignableTo" ReflectliteType.assignableTo #[.agg #[.pointer (some ⟨2,84,none⟩)],.iface 156 (.agg #[.pointer (some ⟨2,84,none⟩)])]).run Tryz.prog w=.ok (.bool true) w:=by kernel_rfl
theorem elemOf62 (w:World):(Rtype.elem? 93).run Tryz.prog w=.ok (some 84) w:=by kernel_rfl
theorem mk55 (p:Addr) (w:World):(ReflectliteValue.mk 84 p ReflectliteValue.flagAddr).run Tryz.prog w=.ok (.agg #[.pointer (some ⟨2,84,none⟩),.pointer (some p),.int .u64 386]) w:=by kernel_rfl
theorem elemV62 (a p:Addr) (W:World) (ha:W.cell? a=some (.pointer (some p))):
  (ReflectliteValue.method (ReflectliteValue.valueError "reflectlite.Value.Elem" 0) ReflectliteValue.elem #[.agg #[.pointer (some ⟨2,93,none⟩),.pointer (some a),.int .u64 150]]).run Tryz.prog W
   =.ok (.agg #[.pointer (some ⟨2,84,none⟩),.pointer (some p),.int .u64 386]) W:=by
 rw[rlm]
 simp only[Sem.run_bind,parts62,Result.andThen]
 simp[ReflectliteValue.elem,loadVar,isAgg,underlying,Tryz.underlying93,ha,Result.andThen,elemOf62,mk55]
theorem parts55a (a:Addr) (w:World):(ReflectliteValue.parts (.agg #[.pointer (some ⟨2,84,none⟩),.pointer (some a),.int .u64 386])).run Tryz.prog w=.ok (some (84,a,386)) w:=by kernel_rfl
theorem parts55 (a:Addr) (w:World):(ReflectliteValue.parts (.agg #[.pointer (some ⟨2,84,none⟩),.pointer (some a),.int .u64 130])).run Tryz.prog w=.ok (some (84,a,130)) w:=by kernel_rfl
theorem direct55 (w:World):(Rtype.directlyAssignable 84 84).run Tryz.prog w=.ok true w:=by kernel_rfl
theorem set55 (ta b:Addr) (n:Int) (old:Value) (W:World) (hb:W.cell? b=some (.int .i64 n)) (ht:W.cell? ta=some old) (hf:W.frozen? ta=false):
  (ReflectliteValue.set #[.agg #[.pointer (some ⟨2,84,none⟩),.pointer (some ta),.int .u64 386],.agg #[.pointer (some ⟨2,84,none⟩),.pointer (some b),.int .u64 130]]).run Tryz.prog W
   =.ok (.tuple #[]) (W.setCell ta (.int .i64 n)):=by
 rw[rls]
 simp only[Sem.run_bind,parts55a,parts55,Result.andThen]
 simp[ReflectliteValue.flagAddr,loadVar,isAgg,underlying,Tryz.underlying84,hb,Result.andThen,direct55,storeVar,Value.cells,storeCells,Addr.add]
 rw[run_store Tryz.prog W ta _ _ (by rfl)]
 simp[ht,hf]
end Go.Sd

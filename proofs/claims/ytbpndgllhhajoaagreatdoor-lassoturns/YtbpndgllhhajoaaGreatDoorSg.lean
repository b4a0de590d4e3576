/- The scan laws' seat: errors.As where the error itself is what is wanted. -/
import Derived.Test.YtbpndgllhhajoaaGreatDoorSf
import Derived.Test.YtbpndgllhhajoaaGreatDoorSa
set_option linter.unusedVariables false
set_option linter.unusedSimpArgs false
namespace Go.Sd
open Go Go.Proofs Go.RowKit Go.Extern.Stop Go.Stop Go.Extern
set_option maxRecDepth 100000
theorem noAs63 (v:Value) (xT:TypeId) (w:World):(Instr.typeAssert (.iface 114 v) xT 161 true).run Tryz.prog w=.ok (.tuple #[.nilIface,.bool false]) w:=run_typeAssert_lacksB Tryz.underlying161 (by kernel_rfl) (by kernel_rfl) v xT w
theorem hasUn63 (v:Value) (xT:TypeId) (w:World):(Instr.typeAssert (.iface 114 v) xT 164 true).run Tryz.prog w=.ok (.tuple #[.iface 114 v,.bool true]) w:=run_typeAssert_hasB Tryz.underlying164 (by kernel_rfl) v xT w
theorem unwrap_at (e o:Nat) (n:Int) (w:World) (h:w.cell? ⟨e,o+1,none⟩=some (.iface 84 (.int .i64 n))):
  Calls Tryz.prog 164 #[.pointer (some ⟨e,o,none⟩)] w fun ev w'=>ev=.returned (.iface 84 (.int .i64 n))∧w'=w:=by
 go_enter Tryz.func164,Tryz.ntmps164
 go_wp2
 go_ret
 exact⟨rfl,rfl⟩
set_option maxHeartbeats 4000000 in
theorem as_next (n:Int) (e:Nat) (o:Nat) (t:Addr) (old:Value) (w:World) (hg:w.cell? ⟨0,0,none⟩=some (.iface 156 (.agg #[.pointer (some ⟨2,29,none⟩)]))) (ht0:w.cell? t=some old) (hf0:w.frozen? t=false) (he:w.cell? ⟨e,o+1,none⟩=some (.iface 84 (.int .i64 n))):
  Calls Tryz.prog 48 #[.iface 114 (.pointer (some ⟨e,o,none⟩)),.iface 93 (.pointer (some t))] w fun ev w'=>ev=.returned (.bool true)∧w'=((((w.alloc (.cells #[.pointer (some t)] 93)).alloc (.cells #[.pointer (some ⟨2,93,none⟩),.pointer (some ⟨w.heap.size,0,none⟩),.int .u64 150] 128)).alloc (.cells #[.pointer (some ⟨2,93,none⟩),.pointer (some ⟨w.heap.size,0,none⟩),.int .u64 150] 128)).alloc (.cells #[.int .i64 n] 84)).setCell t (.int .i64 n):=by
 have h40:=@run_callFunc_extern Tryz.prog 74 _ (fun args=>ReflectliteValue.unpack (args.getD 0 (.tuple #[]))) Tryz.func74 (by kernel_rfl) (by kernel_rfl) (by kernel_rfl) (by kernel_rfl)
 have h41:=@run_callFunc_extern Tryz.prog 75 _ (ReflectliteValue.methodAny (ReflectliteValue.valueError "reflectlite.Value.Type" 0) (fun t _ _ _=>ReflectliteType.toType t)) Tryz.func75 (by kernel_rfl) (by kernel_rfl) (by kernel_rfl) (by kernel_rfl)
 have h42:=@run_callFunc_extern Tryz.prog 76 _ (ReflectliteValue.method (ReflectliteValue.valueError "reflectlite.Value.IsNil" 0) ReflectliteValue.isNil) Tryz.func76 (by kernel_rfl) (by kernel_rfl) (by kernel_rfl) (by kernel_rfl)
 have h71:=@run_callFunc_extern Tryz.prog 159 _ (ReflectliteType.abiMethod fun t=>do pure (.int .u8 (←Rtype.kind t))) Tryz.func159 (by kernel_rfl) (by kernel_rfl) (by kernel_rfl) (by kernel_rfl)
 have h83:=@run_callFunc_extern Tryz.prog 171 _ (ReflectliteType.method ReflectliteType.elem) Tryz.func171 (by kernel_rfl) (by kernel_rfl) (by kernel_rfl) (by kernel_rfl)
 have h84:=@run_callFunc_extern Tryz.prog 172 _ (ReflectliteType.relation "Implements" ReflectliteType.implements_) Tryz.func172 (by kernel_rfl) (by kernel_rfl) (by kernel_rfl) (by kernel_rfl)
 have h47:=@run_callFunc_extern Tryz.prog 111 _ ReflectliteType.typeOf Tryz.func111 (by kernel_rfl) (by kernel_rfl) (by kernel_rfl) (by kernel_rfl)
 have h81:=@run_callFunc_extern Tryz.prog 169 _ (ReflectliteType.relation "AssignableTo" ReflectliteType.assignableTo) Tryz.func169 (by kernel_rfl) (by kernel_rfl) (by kernel_rfl) (by kernel_rfl)
 have h48:=@run_callFunc_extern Tryz.prog 112 _ (ReflectliteValue.method (ReflectliteValue.valueError "reflectlite.Value.Elem" 0) ReflectliteValue.elem) Tryz.func112 (by kernel_rfl) (by kernel_rfl) (by kernel_rfl) (by kernel_rfl)
 have h49:=@run_callFunc_extern Tryz.prog 113 _ ReflectliteValue.set Tryz.func113 (by kernel_rfl) (by kernel_rfl) (by kernel_rfl) (by kernel_rfl)
 have tO:=typeOf55
 have tO2:=typeOf63
 have a26:=assignable6355
 have q1:=noAs63
 have q2:=hasUn63
 have mU:=methodUnwrap
 have mA:=methodAssignableTo
 have a25:=assignable55
 have v25:=valueOf55
 have f6:=valueOf62
 have f7:=type62
 have mK:=methodKind
 have mE:=methodElem
 have mI:=methodImplements
 have k27:=kind62
 have k25:=kind55
 have e27:=elem62
 have i25:=implements55
 have n8:=isNil62 ⟨w.heap.size,0,none⟩ t ((w.alloc (.cells #[.pointer (some t)] 93)).alloc (.cells #[.pointer (some ⟨2,93,none⟩),.pointer (some ⟨w.heap.size,0,none⟩),.int .u64 150] 128)) (by simp)
 have hlt:0<w.heap.size:=by
  rcases Nat.eq_zero_or_pos w.heap.size with h0|h
  ·simp[World.cell?,h0]at hg
  ·exact h
 have hg2:((w.alloc (.cells #[.pointer (some t)] 93)).alloc (.cells #[.pointer (some ⟨2,93,none⟩),.pointer (some ⟨w.heap.size,0,none⟩),.int .u64 150] 128)).cell? ⟨0,0,none⟩=some (.iface 156 (.agg #[.pointer (some ⟨2,29,none⟩)])):=by
  rw[World.cell?_alloc_lt _ _ ⟨0,0,none⟩ (by simp),World.cell?_alloc_lt _ _ ⟨0,0,none⟩ hlt];exact hg
 have htl:t.block<w.heap.size:=by
  rcases Nat.lt_or_ge t.block w.heap.size with h|h
  ·exact h
  ·simp[World.cell?,Array.getElem?_eq_none h]at ht0
 have el:=elemV62 ⟨w.heap.size,0,none⟩ t (((w.alloc (.cells #[.pointer (some t)] 93)).alloc (.cells #[.pointer (some ⟨2,93,none⟩),.pointer (some ⟨w.heap.size,0,none⟩),.int .u64 150] 128)).alloc (.cells #[.pointer (some ⟨2,93,none⟩),.pointer (some ⟨w.heap.size,0,none⟩),.int .u64 150] 128)) (by rw[World.cell?_alloc_lt _ _ ⟨w.heap.size,0,none⟩ (by simp;omega)];simp)
 have st:=set55 t ⟨w.heap.size+1+1+1,0,none⟩ n old ((((w.alloc (.cells #[.pointer (some t)] 93)).alloc (.cells #[.pointer (some ⟨2,93,none⟩),.pointer (some ⟨w.heap.size,0,none⟩),.int .u64 150] 128)).alloc (.cells #[.pointer (some ⟨2,93,none⟩),.pointer (some ⟨w.heap.size,0,none⟩),.int .u64 150] 128)).alloc (.cells #[.int .i64 n] 84))
  (by rw[World.cell?_alloc_at _ _ _ _ (by simp)];rfl)
  (by rw[World.cell?_alloc_lt _ _ t (by simp;omega),World.cell?_alloc_lt _ _ t (by simp;omega),World.cell?_alloc_lt _ _ t (by simp;omega),World.cell?_alloc_lt _ _ t htl];exact ht0)
  (by rw[World.frozen?_alloc_old _ _ t (by simp;omega),World.frozen?_alloc_old _ _ t (by simp;omega),World.frozen?_alloc_old _ _ t (by simp;omega),World.frozen?_alloc_old _ _ t (Nat.ne_of_lt htl)];exact hf0)
 have hel:e<w.heap.size:=by
  rcases Nat.lt_or_ge e w.heap.size with h|h
  ·exact h
  ·simp[World.cell?,Array.getElem?_eq_none h]at he
 have he2:(((w.alloc (.cells #[.pointer (some t)] 93)).alloc (.cells #[.pointer (some ⟨2,93,none⟩),.pointer (some ⟨w.heap.size,0,none⟩),.int .u64 150] 128)).alloc (.cells #[.pointer (some ⟨2,93,none⟩),.pointer (some ⟨w.heap.size,0,none⟩),.int .u64 150] 128)).cell? ⟨e,o+1,none⟩=some (.iface 84 (.int .i64 n)):=by
  rw[World.cell?_alloc_lt _ _ _ (by simp;omega),World.cell?_alloc_lt _ _ _ (by simp;omega),World.cell?_alloc_lt _ _ _ (by simpa using hel)];exact he
 go_enter Tryz.func48,Tryz.ntmps48
 go_wp2
 refine wp_loop_rounds 2 ?_
 rw[rounds_succ]
 go_wp2_with (first|(go_at_call 164;refine(unwrap_at e o n _ he2).mono ?_;rintro ev w' ⟨rfl,rfl⟩))
 rw[rounds_succ]
 go_wp2
 go_ret
 exact⟨rfl,rfl⟩
end Go.Sd
namespace Go.Sd
open Go Go.Proofs Go.RowKit Go.Extern.Stop Go.Stop Go.Extern Go.Cm
set_option maxRecDepth 100000
theorem num_nil (w:World):Calls Tryz.prog 16 #[.nilIface] w fun ev w'=>ev=.returned (.int .i64 0)∧w'=w:=by
 go_enter Tryz.func16,Tryz.ntmps16
 go_wp2
 go_ret
 exact⟨rfl,rfl⟩
theorem grows_alloc (w:World) (o:Obj):Grows w (w.alloc o):=Grows.push w o
theorem grows1 {w w1:World} (o:Obj) (h:Grows w w1):Grows w (w1.alloc o):=h.trans (grows_alloc _ _)
abbrev GG (w:World):Prop:=w.cell? ⟨0,0,none⟩=some (.iface 156 (.agg #[.pointer (some ⟨2,29,none⟩)]))
theorem gg_alloc {w:World} (o:Obj) (hg:GG w):GG (w.alloc o):=by
 have hlt:0<w.heap.size:=by
  rcases Nat.eq_zero_or_pos w.heap.size with h0|h
  ·simp[GG,World.cell?,h0]at hg
  ·exact h
 unfold GG
 rw[World.cell?_alloc_lt _ _ ⟨0,0,none⟩ hlt];exact hg
set_option maxHeartbeats 4000000 in
theorem num_no (n:Int) (w:World) (hg:GG w):
  Calls Tryz.prog 16 #[.iface 84 (.int .i64 n)] w fun ev w'=>ev=.returned (.int .i64 n)∧Grows w w':=by
 have hgA:=gg_alloc (.cells #[.int .i64 0] 84) hg
 have htA:(w.alloc (.cells #[.int .i64 0] 84)).cell? ⟨w.heap.size,0,none⟩=some (.int .i64 0):=by simp
 have hfA:(w.alloc (.cells #[.int .i64 0] 84)).frozen? ⟨w.heap.size,0,none⟩=false:=by simp
 go_enter Tryz.func16,Tryz.ntmps16
 go_wp2_with (first|(go_at_call 48;refine(as_hit55 n _ (.int .i64 0) _ hgA htA hfA).mono ?_;rintro e w' ⟨rfl,rfl⟩))
 go_ret
 exact⟨rfl,grows1 _ (grows1 _ (grows1 _ (grows1 _ (grows_alloc _ _))))⟩
set_option maxHeartbeats 4000000 in
theorem num_at (n:Int) (e o:Nat) (w:World) (hg:GG w) (he:w.cell? ⟨e,o+1,none⟩=some (.iface 84 (.int .i64 n))):
  Calls Tryz.prog 16 #[.iface 114 (.pointer (some ⟨e,o,none⟩))] w fun ev w'=>ev=.returned (.int .i64 n)∧Grows w w':=by
 have hgA:=gg_alloc (.cells #[.int .i64 0] 84) hg
 have htA:(w.alloc (.cells #[.int .i64 0] 84)).cell? ⟨w.heap.size,0,none⟩=some (.int .i64 0):=by simp
 have hfA:(w.alloc (.cells #[.int .i64 0] 84)).frozen? ⟨w.heap.size,0,none⟩=false:=by simp
 have heA:(w.alloc (.cells #[.int .i64 0] 84)).cell? ⟨e,o+1,none⟩=some (.iface 84 (.int .i64 n)):=by
  have hel:e<w.heap.size:=by
   rcases Nat.lt_or_ge e w.heap.size with h|h
   ·exact h
   ·simp[World.cell?,Array.getElem?_eq_none h]at he
  rw[World.cell?_alloc_lt _ _ _ (by simpa using hel)];exact he
 go_enter Tryz.func16,Tryz.ntmps16
 go_wp2_with (first|(go_at_call 48;refine(as_next n e o _ (.int .i64 0) _ hgA htA hfA heA).mono ?_;rintro e w' ⟨rfl,rfl⟩))
 go_ret
 exact⟨rfl,grows1 _ (grows1 _ (grows1 _ (grows1 _ (grows_alloc _ _))))⟩
def glS:Gl where
 G:=GG
 bs:=fun b=>b=0
 lt:=fun w b hg hb=>by
  subst hb
  rcases Nat.eq_zero_or_pos w.heap.size with h0|h
  ·simp[GG,World.cell?,h0]at hg
  ·exact h
 stays:=fun w w' h hg=>by
  have h0:=h 0 rfl
  simp only[GG,World.cell?]at hg ⊢
  rw[h0];exact hg
theorem valid_grow {f:FuncId} {fn:Func} {args:List TV} {x:D} {u:Value} (hf:Tryz.prog.funcs[f]? =some fn) (hn:(fn.name== "runtime.NumGoroutine")=false) (hb:fn.body.isSome=true) (ha:Atom x u)
  (hd:∀a∈args,∃t sh y,a=.d t sh y)
  (h:∀(w:World) (us:List Value) (M:List Nat) (F:Fr),GG w→RTs (hp w) F args us M→Calls Tryz.prog f us.toArray w fun ev w'=>ev=.returned u∧Grows w w'):Valid glS Tryz.prog f args [.d false 0 x] []:=by
 intro w us M g hG hr _ hM
 refine Runs.of_calls hf hn hb ((h w us M _ hG.1 hr).mono fun e w'=>?_)
 rintro⟨rfl,hw⟩
 have hio:∀(args:List TV) (us:List Value),(∀a∈args,∃t sh y,a=.d t sh y)→ioVals args us=[]:=by
  intro args
  induction args with
  |nil=>intro us _;rfl
  |cons a args ih=>
   intro us h
   cases us with
   |nil=>rfl
   |cons u us=>
    obtain⟨t,sh,y,rfl⟩:=h a (.head _)
    simp only[ioVals]
    exact ih us fun a ha=>h a (.tail _ ha)
 refine⟨[u],[],rfl,⟨rfl,?_,List.nodup_nil,by simp,hw.size,fun b hb _=>hw.old b hb,hw.os,hw.tape,hw.output⟩⟩
 rw[hio args us hd,List.append_nil,List.append_nil]
 exact(Atoms.cons ha .nil).rt
theorem env_num {E:Env} (h:EnvOk glS Tryz.prog E):EnvOk glS Tryz.prog (E.add 16 io0 cNum):=by
 refine h.add fun β args k r hr=>?_
 unfold cNum at hr
 split at hr
 ·refine⟨_,_,hr,valid_grow Tryz.func16 (by kernel_rfl) (by kernel_rfl) (.int .i64 0) (by simp) fun w us M F hg hrt=>?_⟩
  simp only[RTs,RT,RA]at hrt
  obtain⟨u,rest,M1,M2,rfl,_,⟨_,_,rfl⟩,rfl,_⟩:=hrt
  exact(num_nil w).mono fun e w' ⟨h1,h2⟩=>⟨h1,h2▸Grows.refl w⟩
 ·rename_i n
  refine⟨_,_,hr,valid_grow Tryz.func16 (by kernel_rfl) (by kernel_rfl) (.int .i64 n) (by simp) fun w us M F hg hrt=>?_⟩
  simp only[RTs,RT,RA]at hrt
  obtain⟨u,rest,M1,M2,rfl,_,⟨_,_,v,rfl,rfl⟩,rfl,_⟩:=hrt
  exact num_no n w hg
 ·rename_i p n
  refine⟨_,_,hr,valid_grow Tryz.func16 (by kernel_rfl) (by kernel_rfl) (.int .i64 n) (by simp) fun w us M F hg hrt=>?_⟩
  simp only[RTs,RT,RA,RL]at hrt
  obtain⟨u,rest,M1,M2,rfl,_,⟨_,_,v,rfl,ad,u2,rfl,_,⟨us2,rfl,⟨u3,r3,rfl,rfl,u4,r4,rfl,⟨u5,rfl,rfl⟩,rfl⟩,_⟩,_,hl⟩,rfl,_⟩:=hrt
  obtain⟨h0,cs,e,fr,h1,h2⟩:=hl
  obtain⟨b,o,sp⟩:=ad
  simp only at h0 h1 h2
  subst h0
  exact num_at n b o w hg (by simp only[World.cell?,h1];have:=h2 1 _ rfl;simpa using this)
 ·cases hr
end Go.Sd

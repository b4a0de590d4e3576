/- The clean machine, part 46: what is run comes to the same in another world, as far as what it looks at is the same there. -/
import Derived.Test.YtbpndgllhhajoaaGreatDoorMc
import Derived.Laws.Externs
import Derived.ChangeArms
import Derived.WideShapes
import Derived.Carry
import Derived.ChangeOld
set_option linter.unusedVariables false
set_option linter.unusedSimpArgs false
namespace Go.Cm
section
variable {P:Program} {w w1:World}
def Like (P:Program) (w w1:World) {α:Type} (x:Sem α):Prop:=∀u w',x.run P w=.ok u w'→w'=w∧x.run P w1=.ok u w1
def Never (P:Program) {α:Type} (x:Sem α):Prop:=∀w u w',x.run P w≠.ok u w'
theorem Never.like {α:Type} {x:Sem α} (h:Never P x):Like P w w1 x:=fun u w' e=>(h w u w' e).elim
theorem Never.halt {α:Type} (h:Halt):Never P (.halt h:Sem α):=fun w u w' e=>by simp[Sem.run]at e
theorem Never.stuck {α:Type} (s:String):Never P (stuck s:Sem α):=Never.halt _
theorem Never.unsupported {α:Type} (s:Unsupported):Never P (unsupported s:Sem α):=Never.halt _
theorem Never.goPanic {α:Type} (v:Value):Never P (goPanic v:Sem α):=Never.halt _
theorem Never.bind {α γ:Type} {x:Sem α} {f:α→Sem γ} (h:∀a,Never P (f a)):Never P (x>>=f):=fun w u w' e=>by
 rw[Sem.run_bind]at e
 cases hx:x.run P w with
 |halt _ _=>rw[hx]at e;simp[Result.andThen]at e
 |ok a w2=>rw[hx]at e;simp only[Result.andThen]at e;exact h a _ _ _ e
theorem Never.left {α γ:Type} {x:Sem α} {f:α→Sem γ} (h:Never P x):Never P (x>>=f):=fun w u w' e=>by
 rw[Sem.run_bind]at e
 cases hx:x.run P w with
 |halt _ _=>rw[hx]at e;simp[Result.andThen]at e
 |ok a w2=>exact h _ _ _ hx
theorem Never.runtimePanic {α:Type} (e:RuntimeError):Never P (runtimePanic e:Sem α):=by
 unfold Go.runtimePanic
 refine Never.bind fun p=>?_
 cases e<;>first|exact Never.goPanic _|exact Never.bind fun _=>Never.bind fun _=>Never.goPanic _
theorem Never.boundsPanic {α:Type} (k:IntKind) (x y:Int) (c:BoundsCode):Never P (boundsPanic k x y c:Sem α):=by
 unfold Go.boundsPanic
 dsimp only
 split<;>exact Never.bind fun _=>Never.runtimePanic _
theorem Like.pure {α:Type} (a:α):Like P w w1 (pure a:Sem α):=fun u w' e=>by
 rw[Sem.run_pure]at e ⊢;cases e;exact⟨rfl,rfl⟩
theorem Like.bind {α γ:Type} {x:Sem α} {f:α→Sem γ} (hx:Like P w w1 x) (hf:∀a,Like P w w1 (f a)):Like P w w1 (x>>=f):=fun u w' e=>by
 rw[Sem.run_bind]at e
 cases h:x.run P w with
 |halt _ _=>rw[h]at e;simp[Result.andThen]at e
 |ok a w2=>
  obtain⟨rfl,h2⟩:=hx a w2 h
  rw[h]at e
  simp only[Result.andThen]at e
  obtain⟨rfl,h3⟩:=hf a u w' e
  refine⟨rfl,?_⟩
  rw[Sem.run_bind,h2]
  exact h3
theorem Like.bindAt {α γ:Type} {x:Sem α} {f:α→Sem γ} (hx:Like P w w1 x) (hf:∀a,x.run P w=.ok a w→Like P w w1 (f a)):Like P w w1 (x>>=f):=fun u w' e=>by
 rw[Sem.run_bind]at e
 cases h:x.run P w with
 |halt _ _=>rw[h]at e;simp[Result.andThen]at e
 |ok a w2=>
  obtain⟨rfl,h2⟩:=hx a w2 h
  rw[h]at e
  simp only[Result.andThen]at e
  obtain⟨rfl,h3⟩:=hf a h u w' e
  refine⟨rfl,?_⟩
  rw[Sem.run_bind,h2]
  exact h3
theorem Like.program:Like P w w1 program:=fun u w' e=>by
 simp only[Go.program,Sem.run]at e ⊢;cases e;exact⟨rfl,rfl⟩
theorem Like.any {α:Type} {x:Sem α} {u:α} (h:∀w,x.run P w=.ok u w):Like P w w1 x:=fun u' w' e=>by
 rw[h w]at e;cases e;exact⟨rfl,h w1⟩
theorem Like.stuck {α:Type} (s:String):Like P w w1 (stuck s:Sem α):=(Never.stuck s).like
theorem Like.typeInfo (t:TypeId):Like P w w1 (typeInfo t):=by
 unfold Go.typeInfo
 refine Like.program.bind fun p=>?_
 split
 ·exact Like.pure _
 ·exact Like.stuck _
theorem Like.underlying (t:TypeId):Like P w w1 (underlying t):=by
 unfold Go.underlying
 refine Like.program.bind fun p=>?_
 split
 ·exact Like.pure _
 ·exact Like.stuck _
theorem Like.zeroValue (t:TypeId):Like P w w1 (zeroValue t):=by
 unfold Go.zeroValue
 refine(Like.typeInfo t).bind fun p=>?_
 split
 ·exact Like.pure _
 ·exact(Never.unsupported _).like
theorem Like.sizeOf (t:TypeId):Like P w w1 (sizeOf t):=by
 unfold Go.sizeOf
 exact(Like.typeInfo t).bind fun p=>Like.pure _
theorem Like.isAgg (t:TypeId):Like P w w1 (isAgg t):=by
 unfold Go.isAgg
 refine(Like.underlying t).bind fun p=>?_
 split<;>exact Like.pure _
theorem Like.asIntOf (v:Value):Like P w w1 (asIntOf v):=by
 unfold Go.asIntOf
 split
 ·exact Like.pure _
 ·exact(Never.unsupported _).like
 ·exact Like.stuck _
theorem Like.asInt (v:Value):Like P w w1 (asInt v):=by
 unfold Go.asInt
 exact(Like.asIntOf v).bind fun p=>Like.pure _
theorem Like.asBool (v:Value):Like P w w1 (asBool v):=by
 unfold Go.asBool
 split
 ·exact Like.pure _
 ·exact Like.stuck _
theorem Like.asAgg (v:Value):Like P w w1 (asAgg v):=by
 unfold Go.asAgg
 split
 ·exact Like.pure _
 ·exact Like.stuck _
theorem Like.asAddr (v:Value):Like P w w1 (asAddr v):=by
 unfold Go.asAddr
 split
 ·exact Like.pure _
 ·exact(Never.runtimePanic _).like
 ·exact Like.stuck _
theorem Like.sureAddr (v:Value):Like P w w1 (Instr.sureAddr v):=by
 unfold Instr.sureAddr
 split
 ·exact Like.pure _
 ·exact Like.stuck _
theorem Like.part (t:TypeId) (cs:Array Value) (off:Nat):Like P w w1 (part t cs off):=by
 unfold Go.part
 refine(Like.isAgg t).bind fun b=>?_
 split
 ·exact(Like.sizeOf t).bind fun p=>Like.pure _
 ·split
  ·exact Like.pure _
  ·exact Like.stuck _
theorem Like.value {x:Sem Value} (h:Like P w w1 x):Like P w w1 (x>>=fun u=>Pure.pure (Next.value u):Sem Next):=h.bind fun _=>Like.pure _
theorem Like.mapM {α γ:Type} {f:α→Sem γ} (h:∀a,Like P w w1 (f a)):∀l:List α,Like P w w1 (l.mapM f)
 |[]=>by rw[List.mapM_nil];exact Like.pure _
 |a::l=>by
  rw[List.mapM_cons]
  exact(h a).bind fun _=>(Like.mapM h l).bind fun _=>Like.pure _
theorem Like.mapMA {α γ:Type} {f:α→Sem γ} (h:∀a,Like P w w1 (f a)) (l:Array α):Like P w w1 (l.mapM f):=by
 rw[Array.mapM_eq_mapM_toList, ←bind_pure_comp]
 exact(Like.mapM h _).bind fun _=>Like.pure _
theorem add_block (a:Addr) (n:Nat):(a.add n).block=a.block:=by unfold Addr.add;split<;>rfl
theorem cell_same {a:Addr} (h:w1.heap[a.block]? =w.heap[a.block]?):w1.cell? a=w.cell? a:=by
 unfold World.cell?
 rw[h]
theorem Like.load {a:Addr} {cs:Array Value} {e:TypeId} {fr:Nat×Nat} (hc:w.heap[a.block]? =some (.cells cs e fr)) (h:w1.heap[a.block]? =w.heap[a.block]?):Like P w w1 (load a):=fun u w' hr=>by
 simp only[Go.load,Sem.run]at hr ⊢
 rw[cell_same h]
 cases hv:w.cell? a with
 |some v=>
  rw[hv]at hr
  simp only[Sem.run]at hr ⊢
  cases hr;exact⟨rfl,rfl⟩
 |none=>
  rw[hv]at hr
  simp only[World.farLoad,hc]at hr
  cases hr
theorem Like.loadCells {a:Addr} {cs:Array Value} {e:TypeId} {fr:Nat×Nat} (hc:w.heap[a.block]? =some (.cells cs e fr)) (h:w1.heap[a.block]? =w.heap[a.block]?):
  ∀(n i:Nat) (acc:Array Value),Like P w w1 (loadCellsFrom a i n acc)
 |0,i,acc=>by unfold loadCellsFrom;exact Like.pure _
 |n+1,i,acc=>by
  unfold loadCellsFrom
  exact(Like.load (by rw[add_block];exact hc) (by rw[add_block];exact h)).bind fun v=>Like.loadCells hc h n (i+1) _
theorem Like.loadVar {T:TypeId} {a:Addr} {cs:Array Value} {e:TypeId} {fr:Nat×Nat} (hc:w.heap[a.block]? =some (.cells cs e fr)) (h:w1.heap[a.block]? =w.heap[a.block]?):Like P w w1 (loadVar T a):=by
 unfold Go.loadVar
 refine(Like.isAgg T).bind fun b=>?_
 split
 ·refine(Like.sizeOf T).bind fun n=>?_
  unfold Go.loadCells
  exact(Like.loadCells hc h n 0 #[]).bind fun _=>Like.pure _
 ·exact Like.load hc h
theorem Like.loadAt {T:TypeId} {a:Addr} {cs:Array Value} {e:TypeId} {fr:Nat×Nat} (hc:w.heap[a.block]? =some (.cells cs e fr)) (h:w1.heap[a.block]? =w.heap[a.block]?):Like P w w1 (Instr.loadAt T (.pointer (some a))):=by
 unfold Instr.loadAt
 exact Like.bindAt (Like.sureAddr _) fun b hb=>by
  simp only[Instr.sureAddr,Sem.run_pure,Result.ok.injEq]at hb
  rw[←hb.1];exact Like.loadVar hc h
theorem Like.field (T:TypeId) (x:Value) (f:Nat):Like P w w1 (Instr.field T x f):=by
 unfold Instr.field
 refine(Like.underlying T).bind fun d=>?_
 split
 ·split
  ·exact(Like.asAgg _).bind fun _=>Like.part _ _ _
  ·exact Like.stuck _
 ·exact Like.stuck _
theorem Like.index (T:TypeId) (x i:Value):Like P w w1 (Instr.index T x i):=by
 unfold Instr.index
 refine(Like.asIntOf i).bind fun d=>?_
 refine(Like.underlying T).bind fun d=>?_
 split
 ·split
  ·exact(Like.sizeOf _).bind fun _=>Like.part _ _ _
  ·exact(Never.boundsPanic _ _ _ _).like
 ·split
  ·exact Like.pure _
  ·exact(Never.boundsPanic _ _ _ _).like
 ·exact Like.stuck _
theorem Like.indexAt (T:TypeId) (x i:Value):Like P w w1 (Instr.indexAt T x i):=by
 unfold Instr.indexAt
 refine(Like.asIntOf i).bind fun d=>?_
 refine(Like.underlying T).bind fun d=>?_
 dsimp only
 repeat' (first|exact Like.pure _|exact Like.stuck _|exact(Never.unsupported _).like|exact(Never.boundsPanic _ _ _ _).like|exact Like.underlying _|exact Like.sureAddr _|exact Like.sizeOf _|refine Like.bind ?_ fun _=>?_ |split)
theorem Like.sliceBound (x:Value) (y:Nat) (c:BoundsCode):Like P w w1 (Instr.sliceBound x y c):=by
 unfold Instr.sliceBound
 repeat' (first|exact Like.pure _|exact(Never.boundsPanic _ _ _ _).like|exact Like.asIntOf _|refine Like.bind ?_ fun _=>?_ |split)
theorem Like.sliceBounds (b:Bool) (len cap:Nat) (lo hi mx:Option Value):Like P w w1 (Instr.sliceBounds b len cap lo hi mx):=by
 unfold Instr.sliceBounds
 dsimp only
 repeat' (first|exact Like.pure _|exact Like.stuck _|exact Like.sliceBound _ _ _|refine Like.bind ?_ fun _=>?_ |split)
theorem Like.slice (T:TypeId) (x:Value) (lo hi mx:Option Value):Like P w w1 (Instr.slice T x lo hi mx):=by
 unfold Instr.slice
 refine(Like.underlying T).bind fun d=>?_
 dsimp only
 repeat' (first|exact Like.pure _|exact Like.stuck _|exact Like.sliceBounds _ _ _ _ _ _|exact Like.sizeOf _|exact Like.underlying _|exact Like.asAddr _|refine Like.bind ?_ fun _=>?_ |split)
theorem Like.sliceAt (T:TypeId) (x:Value) (lo hi mx:Option Value):Like P w w1 (Instr.sliceAt T x lo hi mx):=by
 unfold Instr.sliceAt
 refine(Like.underlying T).bind fun d=>?_
 split
 ·exact(Like.sureAddr _).bind fun _=>(Like.sliceBounds _ _ _ _ _ _).bind fun _=>(Like.sizeOf _).bind fun _=>Like.pure _
 ·exact Like.slice _ _ _ _ _
theorem Like.extract (x:Value) (i:Nat):Like P w w1 (Instr.extract x i):=by
 unfold Instr.extract
 split
 ·split
  ·exact Like.pure _
  ·exact Like.stuck _
 ·exact Like.stuck _
theorem Like.build (T:TypeId) (ps:Array (Nat×Value)):Like P w w1 (Instr.build T ps):=by
 unfold Instr.build
 refine(Like.zeroValue T).bind fun z=>(Like.underlying T).bind fun d=>?_
 split
 ·refine(Like.mapMA (fun f=>(Like.sizeOf _).bind fun _=>Like.pure _) _).bind fun _=>?_
  split
  ·exact Like.pure _
  ·exact Like.stuck _
 ·refine(Like.sizeOf _).bind fun _=>?_
  split
  ·exact Like.pure _
  ·exact Like.stuck _
 ·exact Like.stuck _
theorem Like.makeFunc (f:Fn) (a b:Array Value):Like P w w1 (Instr.makeFunc f a b):=by unfold Instr.makeFunc;exact Like.pure _
theorem Like.fieldAt {T:TypeId} {f off sh:Nat} (h:fieldT P T f=some (off,sh)) (x:Value):Like P w w1 (Instr.fieldAt T x f):=by
 obtain⟨fs,fl,hu,hf,ho,hs,hc⟩:=fieldT_ok h
 unfold Instr.fieldAt
 refine Like.bindAt (Like.underlying T) fun d hd=>?_
 rw[run_underlying hu]at hd
 cases hd
 simp only[hf]
 refine(Like.sureAddr _).bind fun a=>Like.bind ?_ fun _=>Like.pure _
 unfold fieldPlace
 refine Like.bindAt (Like.sizeOf _) fun n hn=>?_
 have hz:n≠0:=by
  obtain⟨i,hi,he⟩:=shT_size hs
  rw[run_size hi]at hn
  cases hn
  rw[he];exact hc
 rw[if_neg hz]
 exact Like.pure _
end
end Go.Cm
namespace Go.Cm
section
variable {P:Program} {w w1:World}
def Still (P:Program) {α:Type} (x:Sem α):Prop:=∀w u w',x.run P w=.ok u w'→w'.heap=w.heap
def Keeps (P:Program) (H:Array Obj→Prop) (B:Nat→Prop) {α:Type} (x:Sem α):Prop:=
 ∀w,H w.heap→∀u w',x.run P w=.ok u w'→w.heap.size≤w'.heap.size∧∀b,b<w.heap.size→¬B b→w'.heap[b]? =w.heap[b]?
variable {H:Array Obj→Prop} {B:Nat→Prop}
theorem Still.pure {α:Type} (a:α):Still P (pure a:Sem α):=fun w u w' e=>by rw[Sem.run_pure]at e;cases e;rfl
theorem Still.never {α:Type} {x:Sem α} (h:Never P x):Still P x:=fun w u w' e=>(h w u w' e).elim
theorem Still.bind {α γ:Type} {x:Sem α} {f:α→Sem γ} (hx:Still P x) (hf:∀a,Still P (f a)):Still P (x>>=f):=fun w u w' e=>by
 rw[Sem.run_bind]at e
 cases h:x.run P w with
 |halt _ _=>rw[h]at e;simp[Result.andThen]at e
 |ok a w2=>rw[h]at e;exact(hf a _ _ _ e).trans (hx _ _ _ h)
theorem Still.like {α:Type} {x:Sem α} (h:∀w,Like P w w x):Still P x:=fun w u w' e=>by rw[(h w u w' e).1]
theorem Still.mark (m:Mark):Still P (mark m):=fun w u w' e=>by simp only[Go.mark,Sem.run]at e;cases e;rfl
theorem Still.askRoom (n:Nat):Still P (askRoom n):=by
 unfold Go.askRoom
 split
 ·exact Still.mark _
 ·exact Still.pure _
theorem Keeps.still {α:Type} {x:Sem α} (h:Still P x):Keeps P H B x:=fun w _ u w' e=>by
 have:=h w u w' e
 rw[this];exact⟨Nat.le_refl _,fun _ _ _=>rfl⟩
theorem Keeps.bind {α γ:Type} {x:Sem α} {f:α→Sem γ} (hx:Still P x) (hf:∀a,Keeps P H B (f a)):Keeps P H B (x>>=f):=fun w hw u w' e=>by
 rw[Sem.run_bind]at e
 cases h:x.run P w with
 |halt _ _=>rw[h]at e;simp[Result.andThen]at e
 |ok a w2=>
  rw[h]at e
  have h2:=hx _ _ _ h
  have:=hf a w2 (by rw[h2];exact hw) u w' e
  rwa [h2]at this
theorem Keeps.bindAt {α γ:Type} {x:Sem α} {f:α→Sem γ} (hx:Still P x) (hf:∀a w,x.run P w=.ok a w→Keeps P H B (f a)) (hs:∀w u w',x.run P w=.ok u w'→w'=w:=by intro w u w' e;exact(Like.sureAddr (w:=w) (w1:=w) _ u w' e).1):Keeps P H B (x>>=f):=fun w hw u w' e=>by
 rw[Sem.run_bind]at e
 cases h:x.run P w with
 |halt _ _=>rw[h]at e;simp[Result.andThen]at e
 |ok a w2=>
  rw[h]at e
  have h3:=hs _ _ _ h
  subst h3
  exact hf a _ h _ hw u w' e
theorem Keeps.last {α γ:Type} {x:Sem α} {f:α→Sem γ} (hx:Keeps P H B x) (hf:∀a,Still P (f a)):Keeps P H B (x>>=f):=fun w hw u w' e=>by
 rw[Sem.run_bind]at e
 cases h:x.run P w with
 |halt _ _=>rw[h]at e;simp[Result.andThen]at e
 |ok a w2=>
  rw[h]at e
  have h2:=hf a _ _ _ e
  have:=hx w hw _ _ h
  rwa [←h2]at this
theorem Keeps.new (o:Obj):Keeps P H B (newObj o):=fun w hw u w' e=>by
 simp only[newObj,Sem.run]at e
 cases e
 refine⟨by simp,fun b hb _=>?_⟩
 simp only[Array.getElem?_push]
 rw[if_neg (by omega)]
theorem Keeps.newRow (t:TypeId) (cs:Array Value):Keeps P H B (newRow t cs):=by
 unfold Go.newRow
 exact(Keeps.new _).last fun _=>Still.pure _
theorem Keeps.store {a:Addr} {v:Value} {b0:Nat} (hb:a.block=b0):
  Keeps P (fun h=>∃cs e fr,h[b0]? =some (.cells cs e fr)) (fun b=>b=b0) (store a v):=fun w hw u w' e=>by
 subst hb
 obtain⟨cs,t,fr,hc⟩:=hw
 have main:∀{w2:World},w2=w.setCell a v→w.heap.size≤w2.heap.size∧∀b,b<w.heap.size→¬b=a.block→w2.heap[b]? =w.heap[b]? :=by
  rintro w2 rfl
  refine⟨by simp[World.setCell],fun b hb hn=>?_⟩
  simp only[World.setCell,Array.getElem?_modify]
  rw[if_neg (fun e=>hn e.symm)]
 simp only[Go.store]at e
 cases v<;>simp only[Sem.run]at e<;>try (cases e;done)
 all_goals
  split at e
  ·split at e
   ·cases e
   ·cases e;exact main rfl
  ·simp only[World.farStore,hc]at e
   cases e
theorem store_cells {a:Addr} {v:Value} {cs:Array Value} {t:TypeId} {fr:Nat×Nat} {u:Unit} {w':World} (hc:w.heap[a.block]? =some (.cells cs t fr)) (e:(store a v).run P w=.ok u w'):
  ∃cs' t' fr',w'.heap[a.block]? =some (.cells cs' t' fr'):=by
 have main:∀{w2:World},w2=w.setCell a v→∃cs' t' fr',w2.heap[a.block]? =some (.cells cs' t' fr'):=by
  rintro w2 rfl
  simp only[World.setCell,Array.getElem?_modify]
  rw[if_pos trivial,hc]
  exact⟨_,_,_,rfl⟩
 simp only[Go.store]at e
 cases v<;>simp only[Sem.run]at e<;>try (cases e;done)
 all_goals
  split at e
  ·split at e
   ·cases e
   ·cases e;exact main rfl
  ·simp only[World.farStore,hc]at e
   cases e
theorem Keeps.storeCells {a:Addr} {b0:Nat} (hb:a.block=b0):∀(vs:List Value) (i:Nat),Keeps P (fun h=>∃cs e fr,h[b0]? =some (.cells cs e fr)) (fun b=>b=b0) (storeCells a vs i)
 |[],i=>by unfold Go.storeCells;exact Keeps.still (Still.pure _)
 |v::vs,i=>fun w hw u w' e=>by
  unfold Go.storeCells at e
  rw[Sem.run_bind]at e
  cases h:(Go.store (a.add i) v).run P w with
  |halt _ _=>rw[h]at e;simp[Result.andThen]at e
  |ok x w2=>
   rw[h]at e
   simp only[Result.andThen]at e
   obtain⟨s1,k1⟩:=Keeps.store (P:=P) (b0:=b0) (by rw[add_block];exact hb) w hw _ _ h
   have hw2:∃cs e fr,w2.heap[b0]? =some (.cells cs e fr):=by
    obtain⟨cs,t,fr,hc⟩:=hw
    have:=store_cells (by rw[add_block,hb];exact hc) h
    rwa [add_block,hb]at this
   obtain⟨s2,k2⟩:=Keeps.storeCells hb vs (i+1) w2 hw2 _ _ e
   exact⟨Nat.le_trans s1 s2,fun b hb1 hn=>(k2 b (by omega) hn).trans (k1 b hb1 hn)⟩
theorem Keeps.alloc (T:TypeId):Keeps P H B (Instr.alloc T true (.tuple #[])):=by
 unfold Instr.alloc
 refine Keeps.bind (Still.like fun _=>Like.zeroValue _) fun z=>?_
 refine Keeps.last ?_ fun _=>Still.pure _
 unfold newVar
 exact Keeps.newRow _ _
theorem Keeps.box (T:TypeId) (v:Value):Keeps P H B (Instr.box T v):=by
 unfold Instr.box
 refine Keeps.last ?_ fun _=>Still.pure _
 unfold newVar
 exact Keeps.newRow _ _
theorem Keeps.buildSlice (T:TypeId) (len:Nat) (ps:Array (Nat×Value)):Keeps P H B (Instr.buildSlice T len ps):=by
 unfold Instr.buildSlice
 dsimp only
 repeat' (with_reducible first
  |exact Keeps.still (Still.never (Never.stuck _))
  |exact Keeps.still (Still.never (Never.left (Never.unsupported _)))
  |refine Keeps.bind (Still.like fun _=>Like.underlying _) fun _=>?_ |refine Keeps.bind (Still.like fun _=>Like.sizeOf _) fun _=>?_ |refine Keeps.bind (Still.like fun _=>Like.zeroValue _) fun _=>?_
  |refine Keeps.bind (Still.pure _) fun _=>?_
  |refine Keeps.last (Keeps.newRow _ _) fun _=>Still.pure _
  |split)
theorem Keeps.makeSlice (T:TypeId) (l c:Value):Keeps P H B (Instr.makeSlice T l c):=by
 unfold Instr.makeSlice
 dsimp only
 repeat' (with_reducible first
  |exact Keeps.still (Still.never (Never.stuck _))
  |exact Keeps.still (Still.never (Never.runtimePanic _))
  |exact Keeps.still (Still.never (Never.left (Never.runtimePanic _)))
  |exact Keeps.still (Still.never (Never.bind fun _=>Never.runtimePanic _))|exact Keeps.still (Still.never (Never.bind fun _=>Never.left (Never.runtimePanic _)))
  |refine Keeps.bind (Still.like fun _=>Like.underlying _) fun _=>?_ |refine Keeps.bind (Still.like fun _=>Like.sizeOf _) fun _=>?_ |refine Keeps.bind (Still.like fun _=>Like.zeroValue _) fun _=>?_
  |refine Keeps.bind (Still.like fun _=>Like.asInt _) fun _=>?_ |refine Keeps.bind (Still.like fun _=>Like.typeInfo _) fun _=>?_
  |refine Keeps.bind (Still.pure _) fun _=>?_ |refine Keeps.bind (Still.askRoom _) fun _=>?_
  |refine Keeps.last (Keeps.newRow _ _) fun _=>Still.pure _
  |split)
theorem Keeps.storeAt (T:TypeId) (ad:Addr) (v:Value):Keeps P (fun h=>∃cs e fr,h[ad.block]? =some (.cells cs e fr)) (fun b=>b=ad.block) (Instr.storeAt T (.pointer (some ad)) v):=by
 unfold Instr.storeAt
 refine Keeps.bindAt (Still.like fun _=>Like.sureAddr _) fun b w hb=>?_
 have hb':b=ad:=by simpa[Instr.sureAddr]using hb.symm
 subst hb'
 unfold storeVar
 dsimp only
 refine Keeps.bind (Still.like fun _=>Like.sizeOf _) fun n=>?_
 split
 ·exact Keeps.still (Still.never (Never.left (Never.stuck _)))
 ·exact Keeps.bind (Still.pure _) fun _=>Keeps.storeCells rfl _ _
theorem Still.makeInterface (T:TypeId) (v:Value):Still P (Instr.makeInterface T v):=by
 unfold Instr.makeInterface
 refine Still.bind (Still.like fun _=>Like.underlying _) fun d=>?_
 split
 ·exact Still.never (Never.stuck _)
 ·exact Still.pure _
end
end Go.Cm
namespace Go.Cm
section
variable {w0:World} {M0:Io} {L L':Lay} {s s':S} {tmps tmps':List Value} {w w' w1:World} {β:Type} {P:Program} {a:Act} {Q:Exit→Act→World→Prop} {ops:Array Oper}
theorem binK_any {H:Hp} {F:Fr} {a b:V} {ua ub:Value} (ha:RW L H F a ua) (hb:RW L H F b ub) {op:BinOp} {T:TypeId} {x y:Operand} {k:V→Option β} {r:β}
  (h:binK P op T x y a b k=some r):∃u,∀w,(do eqGuard op T x y ua ub;binOp op T ua ub:Sem Value).run P w=.ok u w:=by
 unfold binK at h
 split at h
 ·rename_i u1 u2 h1 h2
  obtain rfl:=atomOf_ok h1 ha
  obtain rfl:=atomOf_ok h2 hb
  rcases binA_ok (P:=P) (x:=x) (y:=y) (T:=T) h with h|⟨v,u,hv,h,hrun⟩
  ·obtain⟨v,u,hv,h,hrun⟩:=atomK_ok h (L:=L) (H:=H) (F:=F)
   exact⟨u,hrun⟩
  ·exact⟨u,hrun⟩
 ·split at h
  ·rename_i r hr
   exact⟨_,fun w=>(eqV_ok hr ha hb x y w).1⟩
  ·rename_i r hr
   exact⟨_,fun w=>(eqV_ok hr ha hb x y w).2⟩
  ·cases h
theorem hasKey_false {k:Key} {ks:List Key} (h:hasKey k ks=false):k∉ks:=fun hm=>by
 have:hasKey k ks=true:=List.any_eq_true.2 ⟨k,hm,(Key.eqb_eq k k).2 rfl⟩
 rw[this]at h;cases h
theorem not_blks (R:Rel w0 M0 L s tmps w) {k:Key} {h:Hdr} (hk:L.k k=some h) {ks:List Key} (hn:k∉ks):h.block∉blks L ks:=fun hm=>by
 obtain⟨k',h1,h',e1,e2⟩:=mem_blks.1 hm
 exact hn (R.inj _ _ _ _ e1 hk e2▸h1)
theorem stable_ok (R:Rel w0 M0 L s a.tmps.toList w) {o:Oper} (hq:quiet o.op=true) {ks:List Key} (h:stableOp P s ks o=true)
  (hfr:∀b,b<w.heap.size→b∉blks L ks→w1.heap[b]? =w.heap[b]?):Like P w w1 (execOp a.eval o):=by
 obtain⟨dst,op,type,pos,after,guard⟩:=o
 cases op<;>simp only[quiet,Bool.false_eq_true]at hq<;>simp only[stableOp]at h<;>simp only[execOp]
 case move x=>exact Like.pure _
 case assign x=>exact Like.pure _
 case pick c x y=>exact(Like.asBool _).bind fun _=>Like.pure _
 case load T x=>
  refine Like.value ?_
  obtain⟨u,h⟩:=Option.isSome_iff_exists.1 h
  obtain⟨v,hv,h⟩:=rdK_ok R rfl h
  have fin:∀(ad:Addr) (cs:Array Value) (e:TypeId) (fr:Nat×Nat),a.eval x=.pointer (some ad)→w.heap[ad.block]? =some (.cells cs e fr)→ad.block∉blks L ks→Like P w w1 (Instr.loadAt T (a.eval x)):=by
   intro ad cs e fr he hc hn
   rw[he]
   exact Like.loadAt hc (hfr _ (Array.getElem?_eq_some_iff.1 hc).1 hn)
  split at h
  ·rename_i i off
   split at h
   ·rename_i hb
    simp only[Bool.and_eq_true,Bool.not_eq_true',Nat.blt_eq]at hb
    obtain⟨⟨h1,h2⟩,h3⟩:=hb
    obtain⟨⟨agg,cells⟩,hf⟩:=Option.isSome_iff_exists.1 h1
    obtain⟨_,hd,cs,e,hk,hc,_⟩:=R.rows _ _ _ hf h2
    simp only[RW]at hv
    obtain⟨hd',hk',e'⟩:=hv
    rw[hk]at hk';cases hk'
    exact fin ⟨hd.block,off,none⟩ cs e _ e' hc (not_blks R hk (hasKey_false h3))
   ·cases h
  ·rename_i i o e off
   split at h
   ·rename_i t sh xs hcell
    split at h
    ·cases h
    ·rename_i hn
     simp only[Bool.or_eq_false_iff,Bool.not_eq_false']at hn
     obtain⟨hn,hltm⟩:=hn
     simp only[RW]at hv
     obtain⟨hd,hk,_,e'⟩:=hv
     obtain⟨u0,_,hr⟩:=R.val _ _ _ hcell
     obtain⟨_,h2⟩:=ROwn.sl (lt_ms hltm) hr
     rw[hk]at h2
     obtain⟨_,_,_,cs,ety,_,hc,_⟩:=h2
     exact fin ⟨hd.block,_,none⟩ cs ety _ e' hc (not_blks R hk (hasKey_false hn))
   ·cases h
  ·rename_i t sh psh y
   simp only[RW,RA]at hv
   obtain⟨_,ad,u',e',hF,_,_,hl⟩:=hv
   obtain⟨_,cs,ety,fr,hc,_⟩:=hl
   refine fin ad cs ety fr e' hc fun hm=>?_
   obtain⟨k,_,hd,e1,e2⟩:=mem_blks.1 hm
   exact hF.2.1 k hd e1 e2
  ·simp only[RW]at hv
   obtain⟨ad,u',e',hF,hl,_⟩:=hv
   obtain⟨_,cs,ety,fr,hc,_⟩:=hl
   refine fin ad cs ety fr e' hc fun hm=>?_
   obtain⟨k,_,hd,e1,e2⟩:=mem_blks.1 hm
   exact hF.2.1 k hd e1 e2
  ·cases h
 case nilCheck x=>
  obtain⟨u,h⟩:=Option.isSome_iff_exists.1 h
  obtain⟨v,hv,h⟩:=rdK_ok R rfl h
  have fin:∀ad,a.eval x=.pointer (some ad)→Like P w w1 (execOp a.eval ⟨dst,.nilCheck x,type,pos,after,guard⟩):=fun ad e=>by
   simp only[execOp,e];exact Like.pure _
  have g:Like P w w1 (execOp a.eval ⟨dst,.nilCheck x,type,pos,after,guard⟩):=by
   split at h
   ·simp only[RW]at hv
    obtain⟨hd,_,e⟩:=hv
    exact fin _ e
   ·simp only[RW]at hv
    obtain⟨hd,_,_,e⟩:=hv
    exact fin _ e
   ·simp only[RW,RA]at hv
    obtain⟨_,ad,_,e,_⟩:=hv
    exact fin _ e
   ·cases h
  exact g
 case binOp op T x y T2=>
  refine Like.value ?_
  obtain⟨u,h⟩:=Option.isSome_iff_exists.1 h
  obtain⟨vx,hvx,h⟩:=rdK_ok R rfl h
  obtain⟨vy,hvy,h⟩:=rdK_ok R rfl h
  split at h
  ·rename_i hst
   unfold strAdd at hst
   split at hst
   ·simp only[RW,RA]at hvx hvy
    rw[hvx.2,hvy.2]
    intro u w' e
    rw[eqGuard_skip rfl,binOp_string_add,run_string_add_if]at e ⊢
    split at e
    ·cases e
    ·rename_i hc
     cases e
     rw[if_neg hc]
     exact⟨rfl,rfl⟩
   ·cases hst
  ·obtain⟨u,hu⟩:=binK_any hvx hvy h
   exact Like.any hu
 case unOp op T x=>
  refine Like.value ?_
  obtain⟨u,h⟩:=Option.isSome_iff_exists.1 h
  obtain⟨vx,hvx,h⟩:=rdK_ok R rfl h
  split at h
  ·rename_i ux hux
   obtain⟨v,u,hv,hk,hrun⟩:=atomK_ok h (L:=L) (H:=hp w) (F:=Fz w0 M0 L w)
   rw[atomOf_ok hux hvx]
   exact Like.any hrun
  ·cases h
 case convert src D x=>
  refine Like.value ?_
  obtain⟨u,h⟩:=Option.isSome_iff_exists.1 h
  obtain⟨vx,hvx,h⟩:=rdK_ok R rfl h
  split at h
  ·rename_i ux hux
   obtain⟨v,u,hv,hk,hrun⟩:=atomK_ok h (L:=L) (H:=hp w) (F:=Fz w0 M0 L w)
   rw[atomOf_ok hux hvx]
   exact Like.any hrun
  ·cases h
 case slice T x lo hi mx=>exact Like.value (Like.sliceAt _ _ _ _ _)
 case fieldAddr T x f=>
  obtain⟨⟨off,sh⟩,h⟩:=Option.isSome_iff_exists.1 h
  exact Like.value (Like.fieldAt h _)
 case field T x f=>exact Like.value (Like.field _ _ _)
 case indexAddr T x i=>exact Like.value (Like.indexAt _ _ _)
 case index T x i=>exact Like.value (Like.index _ _ _)
 case extract x i=>exact Like.value (Like.extract _ _)
 case build T ps=>exact Like.value (Like.build _ _)
 case makeFunc f x y=>exact Like.value (Like.makeFunc _ _ _)
 case call c=>
  obtain⟨callee,args,argTypes⟩:=c
  cases callee<;>simp only[Bool.false_eq_true]at hq
  rename_i b
  cases b<;>simp only[Bool.false_eq_true]at hq<;>simp only at h<;>simp only[resolve,invoke,builtin,pure_bind]
  case len=>
   refine Like.value ?_
   split at h
   ·rename_i T hT
    have e2:argTypes= #[T]:=by apply Array.ext';simpa using hT
    subst e2
    unfold Builtin.len_
    have hT0:(#[T]:Array TypeId)[0]? =some T:=rfl
    rw[hT0]
    cases hx:(args.map a.eval)[0]? with
    |none=>exact Like.stuck _
    |some u=>
     simp only
     refine Like.bindAt (Like.underlying T) fun d hd=>?_
     cases hu:P.underlying T with
     |none=>rw[hu]at h;cases h
     |some d'=>
      rw[run_underlying hu]at hd
      cases hd
      rw[hu]at h
      cases d<;>simp only[Bool.false_eq_true]at h
      ·cases u<;>first|exact Like.pure _|exact Like.stuck _
      ·cases u<;>first|exact Like.pure _|exact Like.stuck _
   ·cases h
  case min=>
   refine Like.value ?_
   obtain⟨u,h⟩:=Option.isSome_iff_exists.1 h
   obtain⟨vs,hvs,h1⟩:=rdsK_ok R rfl h
   obtain⟨v,u,hv,hk,hrun⟩:=minMaxK_ok (L:=L) (H:=hp w) (F:=Fz w0 M0 L w) hvs h1
   have e:args.map a.eval=(args.toList.map a.eval).toArray:=by apply Array.ext';simp
   have e2:argTypes=argTypes.toList.toArray:=by simp
   rw[e]
   exact Like.any fun w=>hrun w
  case max=>
   refine Like.value ?_
   obtain⟨u,h⟩:=Option.isSome_iff_exists.1 h
   obtain⟨vs,hvs,h1⟩:=rdsK_ok R rfl h
   obtain⟨v,u,hv,hk,hrun⟩:=minMaxK_ok (L:=L) (H:=hp w) (F:=Fz w0 M0 L w) hvs h1
   have e:args.map a.eval=(args.toList.map a.eval).toArray:=by apply Array.ext';simp
   rw[e]
   exact Like.any fun w=>hrun w
theorem skipB_ok (R:Rel w0 M0 L s a.tmps.toList w) {o:Oper} (h:skipB ops s o=true):Region.wanted o (yielded ops a.tmps)=false:=by
 unfold skipB at h
 split at h
 ·cases h
 ·rename_i j want hg
  split at h
  ·rename_i t ht
   have hy:∀v,s.tm.get t=some v→∃u,a.tmps.toList[t]? =some u∧RV L (hp w) (Fz w0 M0 L w) 0 t v u∧yielded ops a.tmps j=(match u with|.bool b=>some b|_=>none):=by
    intro v hv
    obtain⟨u,hu,hr⟩:=R.val 0 t v hv
    have hu':a.tmps.toList[t]? =some u:=hu
    refine⟨u,hu',hr,?_⟩
    have h1:(ops[j]?).bind (·.dst)=some t:=ht
    have h2:a.tmps[t]? =some u:=by simpa using hu'
    simp only[yielded,h1,Option.bind_some,h2]
    cases u<;>rfl
   split at h
   ·rename_i t0 sh0 b hv
    obtain⟨u,hu,hr,hyl⟩:=hy _ hv
    simp only[RV,RW,RA]at hr
    obtain⟨_,rfl⟩:=hr
    simp only[Region.wanted,hg,hyl]
    cases b<;>cases want<;>simp at h<;>rfl
   ·rename_i hv
    obtain⟨u,hu,hr,hyl⟩:=hy _ hv
    simp only[RV,RW]at hr
    obtain⟨us,rfl,hus⟩:=hr
    simp only[Region.wanted,hg,hyl];rfl
   ·cases h
  ·cases h
theorem Fact.stays {o:Oper} {u:Value} (f:Fact P ops w o a u) (h:Region.wanted o (yielded ops a.tmps)=true→Like P w w1 (execOp a.eval o)):Fact P ops w1 o a u:=by
 rcases f with⟨hw,hr⟩|h2
 ·exact .inl ⟨hw,(h hw _ _ hr).2⟩
 ·exact .inr h2
theorem wp_and {o:Oper} {K:Act→World→Prop} {F:World→Prop} (h:o.wp P a w K (fun _ _ _=>False)) (hn:∀n w',(execOp a.eval o).run P w=.ok n w'→((∃u,n=.value u)∨n=.skip)∧F w'):
  o.wp P a w (fun a' w'=>K a' w'∧F w') Q:=by
 unfold Oper.wp at*
 cases hr:(execOp a.eval o).run P w with
 |halt hh w'=>
  rw[hr]at h
  cases hh<;>exact(h:False).elim
 |ok n w'=>
  rw[hr]at h
  obtain⟨hk,hF⟩:=hn n w' hr
  rcases hk with⟨u,rfl⟩|rfl
  ·exact⟨h,hF⟩
  ·exact⟨h,hF⟩
theorem value_frame {x:Sem Value} (hx:Keeps P (fun _=>True) (fun _=>False) x):∀n w',(x>>=fun u=>Pure.pure (Next.value u):Sem Next).run P w=.ok n w'→((∃u,n=.value u)∨n=.skip)∧∀b,b<w.heap.size→w'.heap[b]? =w.heap[b]? :=by
 intro n w' e
 rw[Sem.run_bind]at e
 cases h:x.run P w with
 |halt _ _=>rw[h]at e;simp[Result.andThen]at e
 |ok u w2=>
  rw[h]at e
  simp only[Result.andThen,Sem.run_pure]at e
  cases e
  exact⟨.inl ⟨_,rfl⟩,fun b hb=>(hx w trivial _ _ h).2 b hb id⟩
theorem rdK_bind {γ:Type} {x:Operand} {k:V→Option γ}:rdK s x k=(rdK s x some).bind k:=by
 cases x<;>simp only[rdK]
 ·split<;>rfl
 ·split<;>rfl
 ·rfl
 ·rfl
theorem rdsK_bind {γ:Type}:∀{xs:List Operand} {k:List V→Option γ},rdsK s xs k=(rdsK s xs some).bind k
 |[],k=>rfl
 |x::xs,k=>by
  simp only[rdsK]
  rw[rdK_bind (k:=fun v=>rdsK s xs fun vs=>k (v::vs)),rdK_bind (k:=fun v=>rdsK s xs fun vs=>some (v::vs))]
  cases rdK s x some with
  |none=>rfl
  |some v=>
   simp only[Option.bind_some]
   rw[rdsK_bind (k:=fun vs=>k (v::vs)),rdsK_bind (k:=fun vs=>some (v::vs))]
   cases rdsK s xs some<;>rfl
theorem rdK_two (R:Rel w0 M0 L s a.tmps.toList w) {γ:Type} {x:Operand} {k:V→Option β} {r:β} {k':V→Option γ} {r':γ} (h:rdK s x k=some r) (h':rdK s x k'=some r'):
  ∃v,RW L (hp w) (Fz w0 M0 L w) v (a.eval x)∧k v=some r∧k' v=some r':=by
 rw[rdK_bind]at h h'
 cases hv:rdK s x some with
 |none=>rw[hv]at h;cases h
 |some v=>
  obtain⟨v',hr,e⟩:=rdK_ok R rfl hv
  cases e
  rw[hv]at h h'
  exact⟨_,hr,h,h'⟩
theorem rdsK_two (R:Rel w0 M0 L s a.tmps.toList w) {γ:Type} {xs:List Operand} {k:List V→Option β} {r:β} {k':List V→Option γ} {r':γ} (h:rdsK s xs k=some r) (h':rdsK s xs k'=some r'):
  ∃vs,RWL L (hp w) (Fz w0 M0 L w) vs (xs.map a.eval)∧k vs=some r∧k' vs=some r':=by
 rw[rdsK_bind]at h h'
 cases hv:rdsK s xs some with
 |none=>rw[hv]at h;cases h
 |some v=>
  obtain⟨v',hr,e⟩:=rdsK_ok R rfl hv
  cases e
  rw[hv]at h h'
  exact⟨_,hr,h,h'⟩
theorem loud_frame {gl:Gl} {E:Env} (hE:EnvAt gl P E w0 M0) {o:Oper} (hq:quiet o.op=false) (R:Rel w0 M0 L s a.tmps.toList w) {ks:List Key} (hf:foot P E s o=some ks) {k:S→Option β} {r:β}
  (h:stepK P E o s k=some r):o.wp P a w (fun a' w'=>Next' w0 M0 a k r a' w'∧∀b,b<w.heap.size→b∉blks L ks→w'.heap[b]? =w.heap[b]?) Q:=by
 have h0:=stepK_ok hE (Q:=fun _ _ _=>False) R h
 have weak:∀{o':Oper},o'.wp P a w (fun a' w'=>Next' w0 M0 a k r a' w'∧∀b,b<w.heap.size→w'.heap[b]? =w.heap[b]?) Q→o'.wp P a w (fun a' w'=>Next' w0 M0 a k r a' w'∧∀b,b<w.heap.size→b∉blks L ks→w'.heap[b]? =w.heap[b]?) Q:=
  fun h=>Oper.wp_mono (fun a' w' h=>⟨h.1,fun b hb _=>h.2 b hb⟩) h
 obtain⟨dst,op,type,pos,after,guard⟩:=o
 cases op<;>simp only[quiet,Bool.true_eq_false]at hq<;>simp only[foot]at hf<;>try (cases hf;done)
 case alloc T=>exact weak (wp_and h0 (value_frame (Keeps.alloc T)))
 case box T x=>exact weak (wp_and h0 (value_frame (Keeps.box T _)))
 case buildSlice T len ps=>exact weak (wp_and h0 (value_frame (Keeps.buildSlice T len _)))
 case makeSlice T l c=>exact weak (wp_and h0 (value_frame (Keeps.makeSlice T _ _)))
 case store T x y=>
  simp only[stepK]at h
  obtain⟨vx,hvx,h1,hf⟩:=rdK_two R h hf
  have fin:∀(ad:Addr) (k0:Key) (hd:Hdr) (cs:Array Value) (e:TypeId) (fr:Nat×Nat),a.eval x=.pointer (some ad)→w.heap[ad.block]? =some (.cells cs e fr)→L.k k0=some hd→hd.block=ad.block→ks=[k0]→
    Oper.wp P ⟨dst,.store T x y,type,pos,after,guard⟩ a w (fun a' w'=>Next' w0 M0 a k r a' w'∧∀b,b<w.heap.size→b∉blks L ks→w'.heap[b]? =w.heap[b]?) Q:=by
   intro ad k0 hd cs e fr he hc hk hb hks
   refine wp_and h0 fun n w' hr=>?_
   simp only[execOp,he]at hr
   rw[Sem.run_bind]at hr
   cases hx:(Instr.storeAt T (.pointer (some ad)) (a.eval y)).run P w with
   |halt _ _=>rw[hx]at hr;simp[Result.andThen]at hr
   |ok u w2=>
    rw[hx]at hr
    simp only[Result.andThen,Sem.run_pure]at hr
    cases hr
    refine⟨.inr rfl,fun b hb1 hn=>(Keeps.storeAt T ad (a.eval y) w ⟨cs,e,fr,hc⟩ _ _ hx).2 b hb1 fun e=>hn ?_⟩
    rw[hks]
    exact mem_blks.2 ⟨k0,.head _,hd,hk,hb.trans e.symm⟩
  split at hf
  ·rename_i i off
   split at hf
   ·rename_i hb
    simp only[Bool.and_eq_true,Nat.blt_eq]at hb
    obtain⟨⟨agg,cells⟩,hfi⟩:=Option.isSome_iff_exists.1 hb.1
    obtain⟨_,hd,cs,e,hk,hc,_⟩:=R.rows _ _ _ hfi hb.2
    simp only[RW]at hvx
    obtain⟨hd',hk',e'⟩:=hvx
    rw[hk]at hk';cases hk'
    exact fin ⟨hd.block,off,none⟩ _ hd cs e _ e' hc hk rfl (by simpa using hf.symm)
   ·cases hf
  ·rename_i i o e off
   split at hf
   ·rename_i t sh xs hcell
    obtain⟨hltm,hf⟩:=blt_some hf
    simp only[RW]at hvx
    obtain⟨hd,hk,_,e'⟩:=hvx
    obtain⟨u0,_,hr⟩:=R.val _ _ _ hcell
    obtain⟨_,h2⟩:=ROwn.sl (lt_ms hltm) hr
    rw[hk]at h2
    obtain⟨_,_,_,cs,ety,_,hc,_⟩:=h2
    exact fin ⟨hd.block,_,none⟩ _ hd cs ety _ e' hc hk rfl (by simpa using hf.symm)
   ·cases hf
  ·cases hf
 case makeInterface T x=>exact weak (wp_and h0 (value_frame (Keeps.still (Still.makeInterface T _))))
 case call c=>
  obtain⟨callee,args,argTypes⟩:=c
  cases callee with
  |invoke recv name=>simp at hf
  |builtin b=>
   cases b<;>simp only[Bool.true_eq_false]at hq<;>simp only at hf<;>try (cases hf;done)
   simp only[stepK]at h
   split at h
   ·rename_i x y hxy
    split at h
    ·rename_i T U hT
     split at h
     ·rename_i hTU
      rw[beq_true]at hTU
      subst hTU
      rw[hxy]at hf
      simp only at hf
      obtain⟨vx,hvx,h1,hf⟩:=rdK_two R h hf
      obtain⟨vy,hvy,h2⟩:=rdK_ok R rfl h1
      obtain⟨t,u,s',L',w',hd,R',hk,hrun,hfr⟩:=appendK_ok (ty:=type) R hvx hvy h2
      subst hd
      have e1:args= #[x,y]:=by apply Array.ext';simpa using hxy
      have e2:argTypes= #[T,T]:=by apply Array.ext';simpa using hT
      subst e1;subst e2
      have hrun':(execOp a.eval ⟨some t,.call ⟨.builtin .append, #[x,y], #[T,T]⟩,type,pos,after,guard⟩).run P w=.ok (.value u) w':=by
       simp only[execOp,resolve,invoke,builtin,Sem.run_bind,Sem.run_pure,Result.andThen]
       have hl:Array.map a.eval #[x,y]= #[a.eval x,a.eval y]:=by simp
       rw[hl,hrun]
      unfold Oper.wp
      rw[hrun',Oper.upon_value]
      refine⟨⟨s',L',by rw[put_tmps];exact R',put_defers a (some t) u,hk⟩,fun b hb hn=>hfr b hb fun i o hd hp hl e=>hn ?_⟩
      have hks:ks=[.pl i o]:=by
       cases vx<;>simp only[placeOf]at hp<;>try (cases hp;done)
       ·cases hp;simpa using hf.symm
       ·cases hp;simpa using hf.symm
      subst hks
      exact mem_blks.2 ⟨_,.head _,hd,hl,e.symm⟩
     ·rename_i hTU
      rw[hxy]at hf
      simp only at hf
      obtain⟨vx,hvx,h1,hf⟩:=rdK_two R h hf
      rw[hT]at hf
      obtain⟨vy,hvy,h2⟩:=rdK_ok R rfl h1
      unfold appendMakeK at h2
      split at h2
      ·split at h2
       ·split at h2
        ·simp only[hTU]at hf
         cases hf
        ·cases h2
       ·cases h2
      ·cases h2
    ·cases h
   ·cases h
  |value f=>
   simp only[stepK]at h
   obtain⟨vf,hvf,h1,hf1⟩:=rdK_two R h hf
   obtain⟨vs,hvs,h2,hf2⟩:=rdsK_two R h1 hf1
   clear h hf h1 hf1 h0
   have fin:∀(g:FuncId) (fs caps:List V) (ufs us:List Value) (Ts:List TypeId),a.eval f=.func (.func g) ufs.toArray us.toArray→RWL L (hp w) (Fz w0 M0 L w) fs ufs→RWL L (hp w) (Fz w0 M0 L w) caps us→callK P E s dst g (fs++vs++caps) Ts k=some r→
     handK P (argEs (E.io g) 0 (fs++vs++caps) Ts) s (fun _ _ ks _=>some ks)=some ks→
     Oper.wp P ⟨dst,.call ⟨.value f,args,argTypes⟩,type,pos,after,guard⟩ a w (fun a' w'=>Next' w0 M0 a k r a' w'∧∀b,b<w.heap.size→b∉blks L ks→w'.heap[b]? =w.heap[b]?) Q:=by
    intro g fs caps ufs us Ts he hfs hcaps hcall hks
    obtain⟨u0,tvs0,ks0,s10,hh,hr⟩:=callK_frame hE R (RWL.append (RWL.append hfs hvs) hcaps) hcall
    obtain⟨u1,tvs1,ks1,s11,hh',e⟩:=handK_at hks
    rw[hh]at hh'
    simp only[Option.some.injEq,Prod.mk.injEq]at hh' e
    obtain⟨_,_,hks0,_⟩:=hh'
    have hks':ks0=ks:=hks0.trans e
    subst hks'
    have hex:(execOp a.eval ⟨dst,.call ⟨.value f,args,argTypes⟩,type,pos,after,guard⟩).run P w=(callFunc g (ufs++args.toList.map a.eval++us).toArray).run P w:=by
     simp only[execOp,resolve,Deferred.ofValue,he,invoke,Sem.run_bind,Sem.run_pure,Result.andThen]
     congr 2
     apply Array.ext'
     simp
    unfold Oper.wp
    rw[hex]
    unfold Runs at hr
    generalize (callFunc g (ufs++args.toList.map a.eval++us).toArray).run P w=res at hr
    split at hr
    ·rw[Oper.upon_enter]
     refine Calls.mono hr fun e w'=>?_
     rintro⟨⟨v,L',s',rfl,R',hk⟩,hfr⟩
     exact⟨⟨s',L',by rw[put_tmps];exact R',put_defers a dst v,hk⟩,hfr⟩
    ·obtain⟨⟨v,L',s',e,R',hk⟩,hfr⟩:=hr
     cases e
     rw[Oper.upon_value]
     exact⟨⟨s',L',by rw[put_tmps];exact R',put_defers a dst _,hk⟩,hfr⟩
    ·exact hr.elim
   unfold footCall at hf2
   split at h2
   ·rename_i g caps
    simp only[RW]at hvf
    obtain⟨us,e,hr⟩:=hvf
    exact fin g [] caps [] us _ e (by simp only[RWL]) hr h2 hf2
   ·rename_i t sh g caps
    simp only[RW,RA]at hvf
    obtain⟨_,us,e,hr⟩:=hvf
    refine fin g [] _ [] us _ e (by simp only[RWL]) (RWL.mk (by simp[RL.length hr]) fun i x u hx hu=>?_) h2 hf2
    simp only[List.getElem?_map,Option.map_eq_some_iff]at hx
    obtain⟨y,hy,rfl⟩:=hx
    obtain⟨u',hu',hra⟩:=RL.get hr hy
    rw[hu]at hu';cases hu'
    simp only[RW]
    exact⟨trivial,hra⟩
   ·rename_i g fs
    simp only[RW]at hvf
    obtain⟨us,e,hr⟩:=hvf
    exact fin g fs [] us [] _ e hr (by simp only[RWL]) (by rw[List.append_nil];exact h2) (by rw[List.append_nil];exact hf2)
   ·cases h2
end
end Go.Cm
namespace Go.Cm
section
variable {w0:World} {M0:Io} {L L':Lay} {s s':S} {tmps tmps':List Value} {w w' w1:World} {β:Type} {P:Program} {a:Act} {Q:Exit→Act→World→Prop} {ops:Array Oper} {C:List Nat} {E:Env}
theorem guardG_ok {o:Oper} (R:Rel w0 M0 L s a.tmps.toList w) {F:S→(S→Option β)→Option β} {K:S→Option β} {r:β}
  (h:(match o.guard with
   |none=>F s K
   |some (j,want)=>match dstOf ops j with
    |some t=>match s.tm.get t with
     |some (.d _ _ (.bool b))=>match want with
      |true=>if b=true then F (s.put (some t) (.d false 0 (.bool true))) K
        else K ((s.put (some t) (.d false 0 (.bool false))).put o.dst (.tup []))
      |false=>if b=true then K ((s.put (some t) (.d false 0 (.bool true))).put o.dst (.tup []))
        else F (s.put (some t) (.d false 0 (.bool false))) K
     |some (.tup [])=>K (s.put o.dst (.tup []))
     |_=>none
    |none=>none)=some r):
  (Region.wanted o (yielded ops a.tmps)=true∧∃s1 L1,Rel w0 M0 L1 s1 a.tmps.toList w∧F s1 K=some r)∨
  (Region.wanted o (yielded ops a.tmps)=false∧∃s1 L1,Rel w0 M0 L1 s1 (putT a.tmps.toList o.dst undef) w∧K s1=some r):=by
 split at h
 ·rename_i hg
  exact .inl ⟨by simp[Region.wanted,hg],s,L,R,h⟩
 ·rename_i j want hg
  split at h
  ·rename_i t ht
   have hy:∀v,s.tm.get t=some v→∃u,a.tmps.toList[t]? =some u∧RV L (hp w) (Fz w0 M0 L w) 0 t v u∧yielded ops a.tmps j=(match u with|.bool b=>some b|_=>none):=by
    intro v hv
    obtain⟨u,hu,hr⟩:=R.val 0 t v hv
    have hu':a.tmps.toList[t]? =some u:=hu
    refine⟨u,hu',hr,?_⟩
    have h1:(ops[j]?).bind (·.dst)=some t:=ht
    have h2:a.tmps[t]? =some u:=by simpa using hu'
    simp only[yielded,h1,Option.bind_some,h2]
    cases u<;>rfl
   have skip:∀{s1:S},Rel w0 M0 L s1 a.tmps.toList w→Rel w0 M0 L (s1.put o.dst (.tup [])) (putT a.tmps.toList o.dst undef) w:=fun R1=>R1.putD undef_rw
   split at h
   ·rename_i t0 sh0 b hv
    obtain⟨u,hu,hr,hyl⟩:=hy _ hv
    simp only[RV,RW,RA]at hr
    obtain⟨_,rfl⟩:=hr
    have hrw:∀c,b=c→RW L (hp w) (Fz w0 M0 L w) (.d false 0 (.bool c)) (.bool b):=fun c e=>by subst e;simp only[RW,RA];exact⟨rfl,trivial⟩
    have hw:Region.wanted o (yielded ops a.tmps)=(b==want):=by
     simp only[Region.wanted,hg,hyl]
     cases b<;>cases want<;>rfl
    split at h
    ·split at h
     ·rename_i hb
      exact .inl ⟨by rw[hw,hb];rfl,_,L,R.retell hu (hrw true hb),h⟩
     ·rename_i hb
      have hb':b=false:=by simpa using hb
      exact .inr ⟨by rw[hw,hb'];rfl,_,L,skip (R.retell hu (hrw false hb')),h⟩
    ·split at h
     ·rename_i hb
      exact .inr ⟨by rw[hw,hb];rfl,_,L,skip (R.retell hu (hrw true hb)),h⟩
     ·rename_i hb
      have hb':b=false:=by simpa using hb
      exact .inl ⟨by rw[hw,hb'];rfl,_,L,R.retell hu (hrw false hb'),h⟩
   ·rename_i hv
    obtain⟨u,hu,hr,hyl⟩:=hy _ hv
    simp only[RV,RW]at hr
    obtain⟨us,rfl,hus⟩:=hr
    have hw:Region.wanted o (yielded ops a.tmps)=false:=by
     simp only[Region.wanted,hg,hyl];rfl
    exact .inr ⟨hw,_,L,skip R,h⟩
   ·cases h
  ·cases h
theorem opsG_cons {ms past:List Nat} {y:Nat} {o:Oper} {rest:List Nat} {s:S} {k:S→Option β} (ho:ops[y]? =some o):opsG P E ops ms past (y::rest) s k=
  (match o.guard with
   |none=>stepG P E ops ms past y o s (fun s=>opsG P E ops ms (past++[y]) rest s k)
   |some (j,want)=>match dstOf ops j with
    |some t=>match s.tm.get t with
     |some (.d _ _ (.bool b))=>match want with
      |true=>if b=true then stepG P E ops ms past y o (s.put (some t) (.d false 0 (.bool true))) (fun s=>opsG P E ops ms (past++[y]) rest s k)
        else(fun s=>opsG P E ops ms (past++[y]) rest s k) ((s.put (some t) (.d false 0 (.bool false))).put o.dst (.tup []))
      |false=>if b=true then(fun s=>opsG P E ops ms (past++[y]) rest s k) ((s.put (some t) (.d false 0 (.bool true))).put o.dst (.tup []))
        else stepG P E ops ms past y o (s.put (some t) (.d false 0 (.bool false))) (fun s=>opsG P E ops ms (past++[y]) rest s k)
     |some (.tup [])=>(fun s=>opsG P E ops ms (past++[y]) rest s k) (s.put o.dst (.tup []))
     |_=>none
    |none=>none):=by
 rw[opsG]
 simp only[ho]
 rfl
theorem quietRunG (G:Canon ops C) {ms:List Nat} {k:S→Option β} {r:β} {rest:List Nat}:∀(blk A:List Nat) (a:Act) (L:Lay) (s:S),C=A++(blk++rest)→(∀i o,i∈blk→ops[i]? =some o→quiet o.op=true)→
  Rel w0 M0 L s a.tmps.toList w→opsG P E ops ms A (blk++rest) s k=some r→
  ∃a' s' L',Rel w0 M0 L' s' a'.tmps.toList w∧opsG P E ops ms (A++blk) rest s' k=some r∧a'.defers=a.defers∧a'.tmps.size=a.tmps.size∧
   (∀t,(∀i,i∈blk→dstOf ops i≠some t)→a'.tmps[t]? =a.tmps[t]?)∧
   ∀i o,i∈blk→ops[i]? =some o→∃u,Fact P ops w o a' u∧∀t,dstOf ops i=some t→t<a'.tmps.size→a'.tmps[t]? =some u
 |[],A,a,L,s,hC,hq,R,h=>⟨a,s,L,R,by rw[List.append_nil];exact h,rfl,rfl,fun _ _=>rfl,fun i o hm=>by cases hm⟩
 |i::blk,A,a,L,s,hC,hq,R,h=>by
  have hiN:i<ops.size:=(G.all i).1 (by rw[hC];simp)
  obtain⟨o,ho⟩:∃o,ops[i]? =some o:=⟨_,Array.getElem?_eq_getElem hiN⟩
  have hd:dstOf ops i=o.dst:=by simp[dstOf,ho]
  have hqi:=hq i o (.head _) ho
  rw[List.cons_append,opsG_cons ho]at h
  have main:∃u s1 L1,Fact P ops w o a u∧Rel w0 M0 L1 s1 (putT a.tmps.toList o.dst u) w∧opsG P E ops ms (A++[i]) (blk++rest) s1 k=some r:=by
   rcases guardG_ok (F:=stepG P E ops ms A i o) R h with⟨hw,s1,L1,R1,hs⟩|⟨hw,s1,L1,R1,hs⟩
   ·unfold stepG at hs
    rw[hqi]at hs
    obtain⟨u,s2,L2,hrun,R2,hk⟩:=quiet_ok hqi R1 hs
    exact⟨u,s2,L2,.inl ⟨hw,hrun⟩,R2,hk⟩
   ·exact⟨undef,s1,L1,.inr ⟨hw,rfl⟩,R1,hs⟩
  obtain⟨u,s1,L1,hf,R1,hk⟩:=main
  rw[←put_tmps, ←hd]at R1
  obtain⟨a',s',L',R',hk',h1,h2,h3,h4⟩:=quietRunG G blk (A++[i]) (a.put (dstOf ops i) u) L1 s1 (by rw[hC];simp) (fun j o' hj=>hq j o' (.tail _ hj)) R1 hk
  have hnd:=G.nodup
  rw[hC]at hnd
  have hib:i∉blk:=fun h=>(List.nodup_cons.1 (List.nodup_append.1 hnd).2.1).1 (List.mem_append_left _ h)
  have hbN:∀j∈blk,j<ops.size:=fun j hj=>(G.all j).1 (by rw[hC];exact List.mem_append_right _ (.tail _ (List.mem_append_left _ hj)))
  have hot:∀t,(∀j,j∈i::blk→dstOf ops j≠some t)→a'.tmps[t]? =a.tmps[t]? :=fun t ht=>by
   rw[h3 t fun j hj=>ht j (.tail _ hj),put_get_ne (ht i (.head _))]
  refine⟨a',s',L',R',by rw[List.append_assoc]at hk';exact hk',h1.trans (put_defers _ _ _),h2.trans (put_size _ _ _),hot,fun j o' hj ho'=>?_⟩
  rcases List.mem_cons.1 hj with rfl|hj
  ·rw[ho]at ho';cases ho'
   refine⟨u,Fact.congr (quiet_sel (hq j o (.head _) ho)) (fun t ht=>hot t fun j' hj' hdj=>?_) hf,fun t ht hlt=>?_⟩
   ·have hjN:j'<ops.size:=by
     rcases List.mem_cons.1 hj' with rfl|h
     ·exact hiN
     ·exact hbN j' h
    have hA:=anc_ahead G (G.look j' j o t hjN ho hdj ht) A (blk++rest) hC
    exact(List.nodup_append.1 hnd).2.2 j' hA j' (by
     rcases List.mem_cons.1 hj' with rfl|h
     ·exact .head _
     ·exact .tail _ (List.mem_append_left _ h)) rfl
   ·rw[h3 t fun j' hj' e=>hib (by rw[G.dst j j' t hiN (hbN j' hj') ht e];exact hj'),ht]
    rw[put_get_eq (by rw[h2,put_size]at hlt;exact hlt)]
  ·exact h4 j o' hj ho'
theorem frontQuiet (ops:Array Oper):∀(l:List Nat),(∀i∈l,i<ops.size)→∃blk rest,l=blk++rest∧(∀i o,i∈blk→ops[i]? =some o→quiet o.op=true)∧∀y r o,rest=y::r→ops[y]? =some o→quiet o.op=false
 |[],_=>⟨[],[],rfl,by simp,by simp⟩
 |i::l,h=>by
  obtain⟨o,ho⟩:∃o,ops[i]? =some o:=⟨_,Array.getElem?_eq_getElem (h i (.head _))⟩
  cases hq:quiet o.op with
  |false=>
   refine⟨[],i::l,rfl,by simp,fun y r o' e ho'=>?_⟩
   injection e with e1 e2
   subst e1
   rw[ho]at ho';cases ho';exact hq
  |true=>
   obtain⟨blk,rest,rfl,h1,h2⟩:=frontQuiet ops l fun j hj=>h j (.tail _ hj)
   refine⟨i::blk,rest,rfl,fun j o' hj ho'=>?_,h2⟩
   rcases List.mem_cons.1 hj with rfl|hj
   ·rw[ho]at ho';cases ho';exact hq
   ·exact h1 j o' hj ho'
structure Ghost (w0:World) (M0:Io) (P:Program) (E:Env) (ops:Array Oper) (k:S→Option β) (r:β) (d0:List Deferred) (C1 C2:List Nat) (w:World) (ag:Act):Prop where
 rel:∃L s,Rel w0 M0 L s ag.tmps.toList w∧opsG P E ops (masksOf ops) C1 C2 s k=some r
 defers:ag.defers=d0
 loud:∀y rest o,C2=y::rest→ops[y]? =some o→quiet o.op=false
 fact:∀y rest i o,C2=y::rest→i∈C1→ops[i]? =some o→quiet o.op=true→¬Anc ops y i→∃u,Fact P ops w o ag u∧∀t,dstOf ops i=some t→t<ag.tmps.size→ag.tmps[t]? =some u
theorem Anc.trans {i j p:Nat} (h:Anc ops j p) (h2:Anc ops p i):Anc ops j i:=by
 induction h with
 |one ho hb=>exact .more ho hb h2
 |more ho hb _ ih=>exact .more ho hb (ih h2)
theorem ghost_behind (G:Canon ops C) {k:S→Option β} {r:β} {d0:List Deferred} {C1 rest:List Nat} {y:Nat} (hC:C=C1++y::rest) {ag ag1:Act} {o:Oper} (ho:ops[y]? =some o) (hq:quiet o.op=false)
  (g:Ghost w0 M0 P E ops k r d0 C1 (y::rest) w ag) {u:Value} (e1:ag1=ag.put o.dst u) {L1:Lay} {s1:S} (R1:Rel w0 M0 L1 s1 ag1.tmps.toList w1) (h1:opsG P E ops (masksOf ops) (C1++[y]) rest s1 k=some r)
  (hst:∀i o,i∈C1→ops[i]? =some o→quiet o.op=true→¬Anc ops y i→Region.wanted o (yielded ops ag.tmps)=true→Like P w w1 (execOp ag.eval o)):
  Behind P ops (Ghost w0 M0 P E ops k r d0) C1 y rest ag ag1 w1:=by
 have hd:dstOf ops y=o.dst:=by simp[dstOf,ho]
 have hnd:=G.nodup
 rw[hC]at hnd
 have hnd2:=List.nodup_append.1 hnd
 have hyN:y<ops.size:=(G.all y).1 (by rw[hC];simp)
 obtain⟨blk,rest',e,hb1,hb2⟩:=frontQuiet ops rest fun i hi=>(G.all i).1 (by rw[hC];exact List.mem_append_right _ (.tail _ hi))
 subst e
 have hC':C=(C1++[y])++(blk++rest'):=by rw[hC];simp
 obtain⟨a',s',L',R',hk',d1,d2,d3,d4⟩:=quietRunG G blk (C1++[y]) ag1 L1 s1 hC' hb1 R1 h1
 have hN1:∀i∈C1,i<ops.size:=fun i hi=>(G.all i).1 (by rw[hC];exact List.mem_append_left _ hi)
 have hbN:∀j∈blk,j<ops.size:=fun j hj=>(G.all j).1 (by rw[hC];exact List.mem_append_right _ (.tail _ (List.mem_append_left _ hj)))
 have notin:∀i j,i∈C1→(j=y∨j∈blk)→i≠j:=fun i j hi hj=>by
  refine hnd2.2.2 i hi j ?_
  rcases hj with rfl|hj
  ·exact .head _
  ·exact .tail _ (List.mem_append_left _ hj)
 have hsize:a'.tmps.size=ag.tmps.size:=by rw[d2,e1,put_size]
 have old:∀t,(∀j,(j=y∨j∈blk)→dstOf ops j≠some t)→a'.tmps[t]? =ag.tmps[t]? :=fun t ht=>by
  rw[d3 t fun j hj=>ht j (.inr hj),e1,put_get_ne]
  rw[←hd];exact ht y (.inl rfl)
 have jN:∀j,(j=y∨j∈blk)→j<ops.size:=fun j hj=>by
  rcases hj with rfl|hj
  ·exact hyN
  ·exact hbN j hj
 have facts:∀i oi,i∈C1→ops[i]? =some oi→quiet oi.op=true→¬Anc ops y i→∃u,Fact P ops w1 oi a' u∧∀t,dstOf ops i=some t→t<a'.tmps.size→a'.tmps[t]? =some u:=by
  intro i oi hi hoi hqi hna
  obtain⟨u,hf,hu⟩:=g.fact y (blk++rest') i oi rfl hi hoi hqi hna
  refine⟨u,Fact.congr (quiet_sel hqi) (fun t ht=>old t fun j hj hdj=>?_) (hf.stays (hst i oi hi hoi hqi hna)),fun t ht hlt=>?_⟩
  ·have hanc:=G.look j i oi t (jN j hj) hoi hdj ht
   obtain⟨D1,D2,rfl⟩:=List.append_of_mem hi
   have:=anc_ahead G hanc D1 (D2++y::(blk++rest')) (by rw[hC];simp)
   exact notin j j (List.mem_append_left _ this) hj rfl
  ·rw[old t fun j hj hdj=>notin i j hi hj (G.dst i j t (hN1 i hi) (jN j hj) ht hdj)]
   exact hu t ht (by rw[←hsize];exact hlt)
 refine⟨by rw[e1,put_defers],blk,rest',a',rfl,hb1,?_,d3,d1,d2,?_⟩
 ·intro i oi hi hoi hqi hna
  rcases List.mem_append.1 hi with hi|hi
  ·exact facts i oi hi hoi hqi (hna hi)
  ·rcases List.mem_cons.1 hi with rfl|hi
   ·rw[ho]at hoi;cases hoi;rw[hq]at hqi;cases hqi
   ·exact d4 i oi hi hoi
 ·refine⟨⟨L',s',R',by simpa using hk'⟩,by rw[d1,e1,put_defers];exact g.defers,hb2,?_⟩
  intro y2 rest2 i oi e hi hoi hqi hna
  rcases List.mem_append.1 hi with hi|hi
  ·refine facts i oi hi hoi hqi fun hanc=>hna ?_
   subst e
   exact(G.loud C1 y (blk++y2::rest2) o hC ho hq y2 (List.mem_append_right _ (.head _))).trans hanc
  ·rcases List.mem_cons.1 hi with rfl|hi
   ·rw[ho]at hoi;cases hoi;rw[hq]at hqi;cases hqi
   ·exact d4 i oi hi hoi
theorem noSel_spec (h:noSel ops=true) {y:Nat} {o:Oper} (ho:ops[y]? =some o):∀cs b,o.op≠.select cs b:=by
 intro cs b e
 have:=List.all_eq_true.1 h o (by rw[Array.mem_toList_iff];exact Array.mem_of_getElem? ho)
 rw[e]at this;cases this
theorem regG_ok {gl:Gl} (hE:EnvAt gl P E w0 M0) {k:S→Option β} {r:β} (R:Rel w0 M0 L s a.tmps.toList w) (h:regG P E ops C s k=some r) (hQ:∀a' w',Next' w0 M0 a k r a' w'→Q .normal a' w'):
  wpAny P .any ops Q (cnt (firstN ops.size 0)) (firstN ops.size 0) a w:=by
 unfold regG at h
 split at h
 ·rename_i hok
  simp only[Bool.and_eq_true]at hok
  have G:=canonOk_spec hok.1
  obtain⟨blk,rest,hC,hb1,hb2⟩:=frontQuiet ops C fun i hi=>(G.all i).1 hi
  rw[hC]at h
  obtain⟨a',s',L',R',hk',d1,d2,d3,d4⟩:=quietRunG G blk [] a L s hC hb1 R h
  have hbN:∀j∈blk,j<ops.size:=fun j hj=>(G.all j).1 (by rw[hC];exact List.mem_append_left _ hj)
  refine ghost_any (Gs:=Ghost w0 M0 P E ops k r a.defers) G ?_ ?_ _ _ a a' w blk rest hC ?_ ?_ rfl
  ·intro w1 ag g
   obtain⟨L1,s1,R1,h1⟩:=g.rel
   exact hQ _ _ ⟨s1,L1,R1,g.defers,by simpa[opsG]using h1⟩
  ·intro C1 y rest w1 ag o hC g ho
   have hq:=g.loud y rest o rfl ho
   obtain⟨L1,s1,R1,h1⟩:=g.rel
   rw[opsG_cons ho]at h1
   have hrefl:∀i oi,i∈C1→ops[i]? =some oi→quiet oi.op=true→¬Anc ops y i→Region.wanted oi (yielded ops ag.tmps)=true→Like P w1 w1 (execOp ag.eval oi):=by
    intro i oi hi hoi hqi hna hw
    obtain⟨u,hf,_⟩:=g.fact y rest i oi rfl hi hoi hqi hna
    intro u' w' e
    rcases hf with⟨_,hr⟩|⟨hw',_⟩
    ·rw[hr]at e;cases e;exact⟨rfl,hr⟩
    ·rw[hw]at hw';cases hw'
   refine⟨hq,noSel_spec hok.2 ho,fun hw=>?_,fun hw=>?_⟩
   ·rcases guardG_ok (F:=stepG P E ops (masksOf ops) C1 y o) R1 h1 with⟨_,s2,L2,R2,hs⟩|⟨hw',_⟩
    ·unfold stepG at hs
     rw[hq]at hs
     simp only at hs
     split at hs
     ·rename_i ks hfoot
      split at hs
      ·rename_i hpend
       have hl:=loud_frame hE (Q:=fun _ _ _=>False) hq R2 hfoot hs
       refine wp_move (a:=ag) (ag:=ag) rfl id hl (fun v w2 hv=>?_) (fun a1 w2 h=>?_)
       ·obtain⟨⟨s3,L3,R3,_,hk3⟩,hfr⟩:=hv
        refine ghost_behind G hC ho hq g rfl R3 hk3 fun i oi hi hoi hqi hna hw=>?_
        have hp:=List.all_eq_true.1 hpend i hi
        rw[hoi]at hp
        simp only[Bool.or_eq_true,Bool.not_eq_true',hqi,Bool.true_eq_false,false_or]at hp
        rcases hp with hp|hp|hp
        ·exact(hna (ancB_spec hp)).elim
        ·rw[skipB_ok R2 hp]at hw;cases hw
        ·exact stable_ok R2 hqi hp hfr
       ·obtain⟨⟨s3,L3,R3,hd3,_⟩,_⟩:=h
        exact hd3
      ·cases hs
     ·cases hs
    ·rw[hw]at hw';cases hw'
   ·rcases guardG_ok (F:=stepG P E ops (masksOf ops) C1 y o) R1 h1 with⟨hw',_⟩|⟨_,s2,L2,R2,hs⟩
    ·rw[hw]at hw';cases hw'
    ·rw[←put_tmps]at R2
     exact ghost_behind G hC ho hq g rfl R2 hs hrefl
  ·refine⟨by simp[firstN_size],?_,?_,?_,?_,?_,d1.symm,d2.symm⟩
   ·intro j o ho hj p hp
    have hjN:=(Array.getElem?_eq_some_iff.1 ho).1
    rw[firstN_get hjN]at hj;simp at hj
   ·intro i hi _
    rw[firstN_get hi];simp
   ·intro i o hi ho hq'
    rw[hb1 i o hi ho]at hq';cases hq'
   ·intro i o hi ho _
    exact d4 i o hi ho
   ·intro t ht
    refine(d3 t fun i hi hdi=>?_).symm
    have:=ht i hi hdi
    rw[firstN_get (hbN i hi)]at this;simp at this
  ·refine⟨⟨L',s',R',by simpa using hk'⟩,d1,hb2,?_⟩
   intro y rest' i o e hi ho hq' _
   exact d4 i o hi ho
 ·cases h
end
end Go.Cm
namespace Go.Cm
section
variable {w0:World} {M0:Io} {L L':Lay} {s s':S} {w w':World} {β:Type} {P:Program} {a:Act} {Q:Exit→Act→World→Prop} {md:Region.Mode} {ops:Array Oper} {E:Env}
inductive VO (md:Region.Mode) (ops:Array Oper):Array Bool→List Nat→Prop
 |nil {l:Array Bool}:Region.ready md ops l=[]→VO md ops l []
 |cons {l:Array Bool} {x:Nat} {r:List Nat}:x∈Region.ready md ops l→VO md ops (l.setIfInBounds x true) r→VO md ops l (x::r)
theorem vo_follow {l:Array Bool} {r:List Nat} (h:VO md ops l r):∀(n:Nat) (a:Act) (w:World),wpAny P md ops Q n l a w→wpOps P ops Q r a w:=by
 induction h with
 |nil hr=>
  intro n a w h
  cases n with
  |zero=>simpa[wpOps]using h.2
  |succ n=>simpa[wpOps]using h.1 hr
 |cons hx _ ih=>
  intro n a w h
  cases n with
  |zero=>rw[h.1]at hx;cases hx
  |succ n=>
   rw[wpOps_cons]
   exact wpOp_mono (fun a w=>ih n a w) (h.2 _ hx)
theorem vo_lin:∀(n t:Nat) (l:Array Bool),l.size=ops.size→cnt l≤n→VO md ops l (Region.linearise.go md ops n t l [])
 |0,t,l,hs,hc=>by
  simp only[Region.linearise.go,List.reverse_nil]
  refine .nil ?_
  cases hr:Region.ready md ops l with
  |nil=>rfl
  |cons x xs=>
   have hx:x∈Region.ready md ops l:=by rw[hr];exact .head _
   obtain⟨h1,o,ho,_⟩:=mem_ready.1 hx
   have hlt:x<l.size:=by rw[hs];exact(Array.getElem?_eq_some_iff.1 ho).1
   have:l[x]? =some false:=by
    rw[Array.getD_eq_getD_getElem?]at h1
    rw[Array.getElem?_eq_getElem hlt]at h1 ⊢
    simpa using h1
   have:=cnt_set this
   omega
 |n+1,t,l,hs,hc=>by
  have e:Region.linearise.go md ops (n+1) t l []=match(Region.ready md ops l)[t % (Region.ready md ops l).length]? with
   |some i=>Region.linearise.go md ops n (t / (Region.ready md ops l).length) (l.setIfInBounds i true) [i]
   |none=>[].reverse:=rfl
  rw[e]
  cases hi:(Region.ready md ops l)[t % (Region.ready md ops l).length]? with
  |none=>
   refine .nil ?_
   cases hr:Region.ready md ops l with
   |nil=>rfl
   |cons x xs=>
    rw[hr]at hi
    have hlt:t % (x::xs).length<(x::xs).length:=Nat.mod_lt _ (by simp)
    rw[List.getElem?_eq_getElem hlt]at hi
    cases hi
  |some i=>
   simp only
   rw[linearise_go_acc]
   have hx:i∈Region.ready md ops l:=List.mem_of_getElem? hi
   obtain⟨h1,o,ho,_⟩:=mem_ready.1 hx
   have hlt:i<l.size:=by rw[hs];exact(Array.getElem?_eq_some_iff.1 ho).1
   have:l[i]? =some false:=by
    rw[Array.getD_eq_getD_getElem?]at h1
    rw[Array.getElem?_eq_getElem hlt]at h1 ⊢
    simpa using h1
   have:=cnt_set this
   exact .cons hx (vo_lin n _ _ (by simpa using hs) (by omega))
def addF (f:Nat→List Nat) (ops:Array Oper):Array Oper:=ops.mapIdx fun j o=>{o with after:=⟨(f j).map (fun i=>⟨i,.data⟩)++o.after.toList⟩ }
variable {f:Nat→List Nat}
def more (f:Nat→List Nat) (j:Nat) (o:Oper):Oper:={o with after:=⟨(f j).map (fun i=>⟨i,.data⟩)++o.after.toList⟩ }
theorem addF_get (x:Nat):(addF f ops)[x]? =(ops[x]?).map (more f x):=by
 unfold addF more
 rw[Array.getElem?_mapIdx]
theorem addF_size:(addF f ops).size=ops.size:=by unfold addF;simp
theorem addF_dst (x:Nat):dstOf (addF f ops) x=dstOf ops x:=by
 unfold dstOf
 rw[addF_get]
 cases ops[x]? <;>rfl
theorem addF_yield (t:Array Value):yielded (addF f ops) t=yielded ops t:=by
 funext x
 unfold yielded
 rw[show((addF f ops)[x]?).bind (·.dst)=dstOf (addF f ops) x from rfl,addF_dst]
 rfl
theorem wpOp_addF {x:Nat} {K:Act→World→Prop} (h:wpOp P (addF f ops) Q x K a w):wpOp P ops Q x K a w:=by
 unfold wpOp at*
 rw[addF_get,addF_yield]at h
 cases ho:ops[x]? with
 |none=>rw[ho]at h;exact h
 |some o=>rw[ho]at h;exact h
theorem wpOps_addF:∀(r:List Nat) (a:Act) (w:World),wpOps P (addF f ops) Q r a w→wpOps P ops Q r a w
 |[],a,w,h=>h
 |x::r,a,w,h=>by
  rw[wpOps_cons]at h ⊢
  exact wpOp_mono (fun a w=>wpOps_addF r a w) (wpOp_addF h)
theorem more_bnd {j p:Nat} {o:Oper}:Bnd (more f j o) p↔p∈f j∨Bnd o p:=by
 constructor
 ·rintro⟨e,he,hb,rfl⟩
  simp only[more,Array.mem_def,List.mem_append,List.mem_map]at he
  rcases he with⟨i,hi,rfl⟩|he
  ·exact .inl hi
  ·exact .inr ⟨e,Array.mem_def.2 he,hb,rfl⟩
 ·rintro(h|⟨e,he,hb,rfl⟩)
  ·exact⟨⟨p,.data⟩,by simp only[more,Array.mem_def,List.mem_append,List.mem_map];exact .inl ⟨p,h,rfl⟩,rfl,rfl⟩
  ·exact⟨e,by simp only[more,Array.mem_def,List.mem_append];exact .inr (Array.mem_def.1 he),hb,rfl⟩
theorem anc_addF {j i:Nat} (h:Anc ops j i):Anc (addF f ops) j i:=by
 induction h with
 |one ho hb=>exact .one (by rw[addF_get,ho];rfl) (more_bnd.2 (.inr hb))
 |more ho hb _ ih=>exact .more (by rw[addF_get,ho];rfl) (more_bnd.2 (.inr hb)) ih
theorem ready_iff {x:Nat} {l:Array Bool}:x∈Region.ready .any ops l↔l.getD x true=false∧∃o,ops[x]? =some o∧∀p,Bnd o p→l.getD p false=true:=by
 rw[mem_ready]
 constructor
 ·rintro⟨h1,o,ho,h2⟩
  refine⟨?_,o,ho,?_⟩
  ·exact h1
  ·rintro p ⟨e,he,hb,rfl⟩;exact h2 e he hb
 ·rintro⟨h1,o,ho,h2⟩
  exact⟨h1,o,ho,fun e he hb=>h2 e.on ⟨e,he,hb,rfl⟩⟩
theorem meet_some {γ:Type} {x y:Option γ} {r:γ} (h:Go.Sc.meet x y=some r):x=some r∧y=some r:=by
 unfold Go.Sc.meet at h
 split at h
 ·rename_i e;exact⟨h,e▸h⟩
 ·cases h
theorem _root_.Go.Sc.meet_self {γ:Type} (x:Option γ):Go.Sc.meet x x=x:=by unfold Go.Sc.meet;rw[if_pos rfl]
theorem getD_set' {l:Array Bool} {i x:Nat} (h:l.getD i false=true):(l.setIfInBounds x true).getD i false=true:=by
 simp only[Array.getD_eq_getD_getElem?]at h ⊢
 rw[Array.getElem?_setIfInBounds]
 split
 ·split
  ·rfl
  ·rename_i e hlt
   subst e
   rw[Array.getElem?_eq_none (by omega)]at h;simp at h
 ·exact h
theorem getD_setx {l:Array Bool} {x:Nat} (h:x<l.size):(l.setIfInBounds x true).getD x false=true:=by
 rw[Array.getD_eq_getD_getElem?,Array.getElem?_setIfInBounds,if_pos rfl,if_pos h];rfl
theorem getD_setn {l:Array Bool} {i x:Nat} {b:Bool} (h:x≠i):(l.setIfInBounds x true).getD i b=l.getD i b:=by
 rw[Array.getD_eq_getD_getElem?,Array.getElem?_setIfInBounds_ne h, ←Array.getD_eq_getD_getElem?]
theorem idxOf_ne {x j:Nat} {r:List Nat} (h:x≠j):(x::r).idxOf j=r.idxOf j+1:=by
 rw[List.idxOf_cons]
 have:(x==j)=false:=by simpa using h
 rw[this];rfl
theorem ready_lt {x:Nat} {L:Array Bool} (h:x∈Region.ready .any ops L):x<ops.size:=by
 obtain⟨_,o,ho,_⟩:=ready_iff.1 h
 exact(Array.getElem?_eq_some_iff.1 ho).1
theorem vo_addF {L:Array Bool} {l:List Nat} (h:VO .any ops L l):L.size=ops.size→(∀j∈l,∀i∈f j,L.getD i false=true∨l.idxOf i<l.idxOf j)→VO .any (addF f ops) L l:=by
 induction h with
 |@nil L hr=>
  intro hs _
  refine .nil ?_
  cases hx:Region.ready .any (addF f ops) L with
  |nil=>rfl
  |cons x xs=>
   exfalso
   have hm:x∈Region.ready .any (addF f ops) L:=by rw[hx];exact .head _
   obtain⟨h1,o',ho',h2⟩:=ready_iff.1 hm
   rw[addF_get]at ho'
   cases ho:ops[x]? with
   |none=>rw[ho]at ho';cases ho'
   |some o=>
    rw[ho]at ho'
    cases ho'
    have:x∈Region.ready .any ops L:=ready_iff.2 ⟨h1,o,ho,fun p hp=>h2 p (more_bnd.2 (.inr hp))⟩
    rw[hr]at this;cases this
 |@cons L x r hx hr ih=>
  intro hs hl
  obtain⟨h1,o,ho,h2⟩:=ready_iff.1 hx
  refine .cons (ready_iff.2 ⟨h1,more f x o,by rw[addF_get,ho];rfl,fun p hp=>?_⟩) (ih (by simpa using hs) fun j hj i hi=>?_)
  ·rcases more_bnd.1 hp with hp|hp
   ·rcases hl x (.head _) p hp with h|h
    ·exact h
    ·rw[List.idxOf_cons_self]at h;omega
   ·exact h2 p hp
  ·rcases hl j (.tail _ hj) i hi with h|h
   ·exact .inl (getD_set' h)
   ·by_cases e:x=i
    ·subst e;exact .inl (getD_setx (by rw[hs];exact ready_lt hx))
    ·by_cases e':x=j
     ·subst e';rw[List.idxOf_cons_self]at h;omega
     ·rw[idxOf_ne e,idxOf_ne e']at h
      exact .inr (by omega)
theorem vo_bnd {L:Array Bool} {l:List Nat} (h:VO .any ops L l):L.size=ops.size→∀j∈l,L.getD j true=false→∀o p,ops[j]? =some o→Bnd o p→L.getD p false=true∨l.idxOf p<l.idxOf j:=by
 induction h with
 |nil hr=>intro _ j hj;cases hj
 |@cons L x r hx hr ih=>
  intro hs j hj hf o p ho hp
  by_cases e:x=j
  ·subst e
   obtain⟨h1,o',ho',h2⟩:=ready_iff.1 hx
   rw[ho]at ho';cases ho'
   exact .inl (h2 p hp)
  ·have hj':j∈r:=by
    rcases List.mem_cons.1 hj with h|h
    ·exact(e h.symm).elim
    ·exact h
   by_cases e':x=p
   ·subst e'
    rw[List.idxOf_cons_self,idxOf_ne e]
    exact .inr (by omega)
   ·rw[idxOf_ne e,idxOf_ne e']
    rcases ih (by simpa using hs) j hj' (by rw[getD_setn e];exact hf) o p ho hp with h|h
    ·rw[getD_setn e']at h;exact .inl h
    ·exact .inr (by omega)
structure Can0 (ops:Array Oper) (C:List Nat):Prop where
 all:∀i,i∈C↔i<ops.size
 edge:∀C1 j C2 o,C=C1++j::C2→ops[j]? =some o→∀p,Bnd o p→p∈C1
theorem some_ready0 {l:Array Bool} {C:List Nat} (G:Can0 ops C) (hs:l.size=ops.size) (h:Region.ready .any ops l=[]):∀i,i<ops.size→l[i]? =some true:=by
 rcases first_false l C (fun i hi=>by rw[hs];exact(G.all i).1 hi)with h1|⟨A,j,B,hC,h2,h3⟩
 ·exact fun i hi=>h1 i ((G.all i).2 hi)
 ·have hj:j<ops.size:=(G.all j).1 (by rw[hC];simp)
  have:j∈Region.ready .any ops l:=by
   rw[mem_ready]
   refine⟨by simp[Array.getD_eq_getD_getElem?,h2],ops[j],Array.getElem?_eq_getElem hj,fun e he hb=>?_⟩
   have:=h3 e.on (G.edge A j B ops[j] hC (Array.getElem?_eq_getElem hj) e.on ⟨e,he,hb,rfl⟩)
   simp[Array.getD_eq_getD_getElem?,this]
  rw[h]at this;cases this
theorem vo_all {C:List Nat} (G:Can0 ops C) {L:Array Bool} {l:List Nat} (h:VO .any ops L l):L.size=ops.size→∀j,j<ops.size→L.getD j true=false→j∈l:=by
 induction h with
 |@nil L hr=>
  intro hs j hj hf
  have:=some_ready0 G hs hr j hj
  rw[Array.getD_eq_getD_getElem?,this]at hf;cases hf
 |@cons L x r hx hr ih=>
  intro hs j hj hf
  by_cases e:x=j
  ·subst e;exact .head _
  ·exact .tail _ (ih (by simpa using hs) j hj (by rw[getD_setn e];exact hf))
theorem mem_insN {y i:Nat}:∀{l:List Nat},i∈insN y l↔i=y∨i∈l
 |[]=>by simp[insN]
 |x::r=>by
  unfold insN
  cases Nat.blt x y with
  |true=>simp only[List.mem_cons,mem_insN (l:=r)];constructor<;>(rintro(h|h|h)<;>simp[h])
  |false=>simp only[List.mem_cons]
theorem findL_some {p:Nat→Bool}:∀{l:List Nat} {x:Nat},findL p l=some x→x∈l∧p x=true
 |[],x,h=>by simp[findL]at h
 |y::r,x,h=>by
  unfold findL at h
  cases hp:p y with
  |true=>rw[hp]at h;cases h;exact⟨.head _,hp⟩
  |false=>rw[hp]at h;have:=findL_some h;exact⟨.tail _ this.1,this.2⟩
theorem findL_none {p:Nat→Bool}:∀{l:List Nat},findL p l=none→∀x∈l,p x=false
 |[],_,x,h=>by cases h
 |y::r,h,x,hx=>by
  unfold findL at h
  cases hp:p y with
  |true=>rw[hp]at h;cases h
  |false=>
   rw[hp]at h
   rcases List.mem_cons.1 hx with rfl|hx
   ·exact hp
   ·exact findL_none h x hx
theorem readyB_iff {acc:List Nat} {j:Nat}:readyB ops acc j=true↔∃o,ops[j]? =some o∧∀p,Bnd o p→p∈acc:=by
 unfold readyB
 cases ho:ops[j]? with
 |none=>simp
 |some o=>
  simp only[List.all_eq_true,Option.some.injEq,exists_eq_left',memb_iff]
  exact⟨fun h p hp=>h p (bndL_mem.2 hp),fun h p hp=>h p (bndL_mem.1 hp)⟩
def minP (pos:Nat→Nat):Nat→List Nat→Nat
 |y,[]=>y
 |y,z::zs=>if pos y≤pos (minP pos z zs)then y else minP pos z zs
theorem minP_mem (pos:Nat→Nat):∀(ys:List Nat) (y:Nat),minP pos y ys∈y::ys
 |[],y=>.head _
 |z::zs,y=>by
  unfold minP
  split
  ·exact .head _
  ·exact .tail _ (minP_mem pos zs z)
theorem minP_le (pos:Nat→Nat):∀(ys:List Nat) (y w:Nat),w∈y::ys→pos (minP pos y ys)≤pos w
 |[],y,w,h=>by
  rcases List.mem_cons.1 h with rfl|h
  ·exact Nat.le_refl _
  ·cases h
 |z::zs,y,w,h=>by
  unfold minP
  rcases List.mem_cons.1 h with rfl|h
  ·split
   ·exact Nat.le_refl _
   ·omega
  ·have:=minP_le pos zs z w h
   split<;>omega
theorem meetA_some {F:Nat→Option β} {r:β}:∀{ys:List Nat} {y:Nat},meetA F y ys=some r→∀w∈y::ys,F w=some r
 |[],y,h,w,hw=>by
  rcases List.mem_cons.1 hw with rfl|hw
  ·exact h
  ·cases hw
 |z::zs,y,h,w,hw=>by
  obtain⟨h1,h2⟩:=meet_some h
  rcases List.mem_cons.1 hw with rfl|hw
  ·exact h1
  ·exact meetA_some h2 w hw
def pickC (ops:Array Oper) (pos:Nat→Nat):Nat→List Nat→List Nat
 |0,_=>[]
 |n+1,acc=>match nextQ ops acc with
  |some j=>j::pickC ops pos n (insN j acc)
  |none=>match nextL ops acc with
   |[]=>[]
   |y::ys=>minP pos y ys::pickC ops pos n (insN (minP pos y ys) acc)
inductive Bra (ops:Array Oper) (pos:Nat→Nat):List Nat→List Nat→Prop
 |nil {acc:List Nat}:(∀j,j<ops.size→j∈acc)→Bra ops pos acc []
 |cons {acc C:List Nat} {y:Nat}:y<ops.size→y∉acc→(∀o p,ops[y]? =some o→Bnd o p→p∈acc)→
   (quietAt ops y=false→(∀j o,ops[j]? =some o→quiet o.op=true→j∉acc→∃p,Bnd o p∧p∉acc)∧∀z,z<ops.size→z∉acc→z≠y→pos y<pos z)→
   Bra ops pos (insN y acc) C→Bra ops pos acc (y::C)
def leftN (ops:Array Oper) (acc:List Nat):Nat:=((List.range ops.size).filter fun j=> !memb j acc).length
theorem left_ins {acc:List Nat} {y:Nat} (h:y<ops.size) (h':y∉acc):leftN ops (insN y acc)<leftN ops acc:=by
 unfold leftN
 have e:∀j,(!memb j (insN y acc))=((!memb j acc)&& !Nat.beq j y):=by
  intro j
  rw[Bool.eq_iff_iff]
  simp only[Bool.and_eq_true,Bool.not_eq_true', ←Bool.not_eq_true,memb_iff,mem_insN,Nat.beq_eq]
  exact⟨fun h=>⟨fun h2=>h (.inr h2),fun h2=>h (.inl h2)⟩,fun h h2=>h2.elim h.2 h.1⟩
 have e2:(List.range ops.size).filter (fun j=> !memb j (insN y acc))=((List.range ops.size).filter (fun j=> !memb j acc)).filter (fun j=> !Nat.beq j y):=by
  rw[List.filter_filter]
  congr 1
  funext j
  rw[e,Bool.and_comm]
 rw[e2]
 refine List.length_filter_lt_length_iff_exists.2 ⟨y,?_,?_⟩
 ·rw[List.mem_filter]
  refine⟨List.mem_range.2 h,?_⟩
  rw[Bool.not_eq_true', ←Bool.not_eq_true,memb_iff];exact h'
 ·simp
theorem nextL_mem {acc:List Nat} {j:Nat}:j∈nextL ops acc↔j<ops.size∧j∉acc∧∃o,ops[j]? =some o∧∀p,Bnd o p→p∈acc:=by
 unfold nextL
 rw[List.mem_filter,List.mem_range,Bool.and_eq_true,Bool.not_eq_true', ←Bool.not_eq_true,memb_iff,readyB_iff]
theorem pick_bra {C0:List Nat} {pos:Nat→Nat} (G:Can0 ops C0) (hp:∀j o p,ops[j]? =some o→Bnd o p→pos p<pos j) (hi:∀i j,i<ops.size→j<ops.size→pos i=pos j→i=j):
  ∀(n:Nat) (acc:List Nat),leftN ops acc<n→Bra ops pos acc (pickC ops pos n acc)
 |0,acc,h=>absurd h (Nat.not_lt_zero _)
 |n+1,acc,h=>by
  have hlt:∀j o p,ops[j]? =some o→Bnd o p→p<ops.size:=fun j o p ho hb=>by
   have hj:=(Array.getElem?_eq_some_iff.1 ho).1
   obtain⟨D1,D2,e⟩:=List.append_of_mem ((G.all j).2 hj)
   exact(G.all p).1 (by rw[e];exact List.mem_append_left _ (G.edge D1 j D2 o e ho p hb))
  unfold pickC
  cases hq:nextQ ops acc with
  |some j=>
   obtain⟨h1,h2⟩:=findL_some hq
   simp only[Bool.and_eq_true,Bool.not_eq_true']at h2
   obtain⟨⟨h2,h3⟩,h4⟩:=h2
   rw[←Bool.not_eq_true,memb_iff]at h3
   obtain⟨o,ho,h5⟩:=readyB_iff.1 h4
   have hj:=List.mem_range.1 h1
   have:=left_ins hj h3
   exact .cons hj h3 (fun o' p ho' hb=>h5 p (by rw[ho]at ho';cases ho';exact hb)) (fun hf=>by rw[h2]at hf;cases hf) (pick_bra G hp hi n _ (by omega))
  |none=>
   have hno:=findL_none hq
   have hquiet:∀j o,ops[j]? =some o→quiet o.op=true→j∉acc→∃p,Bnd o p∧p∉acc:=fun j o ho hqo hj=>by
    have:=hno j (List.mem_range.2 (Array.getElem?_eq_some_iff.1 ho).1)
    have e1:quietAt ops j=true:=by unfold quietAt;rw[ho];exact hqo
    have e2:memb j acc=false:=by rw[←Bool.not_eq_true,memb_iff];exact hj
    rw[e1,e2]at this
    simp only[Bool.not_false,Bool.and_self,Bool.true_and]at this
    refine Classical.byContradiction fun hc=>?_
    have:readyB ops acc j=true:=readyB_iff.2 ⟨o,ho,fun p hb=>Classical.byContradiction fun hn=>hc ⟨p,hb,hn⟩⟩
    simp_all
   have down:∀(m w:Nat),pos w<m→w<ops.size→w∉acc→∃v,v∈nextL ops acc∧pos v≤pos w:=fun m=>by
    induction m with
    |zero=>intro w h;omega
    |succ m ih=>
     intro w hm hw hn
     by_cases hr:w∈nextL ops acc
     ·exact⟨w,hr,Nat.le_refl _⟩
     ·have ho:ops[w]? =some ops[w]:=Array.getElem?_eq_getElem hw
      have:∃p,Bnd ops[w] p∧p∉acc:=Classical.byContradiction fun hc=>hr (nextL_mem.2 ⟨hw,hn,_,ho,fun p hb=>Classical.byContradiction fun hn'=>hc ⟨p,hb,hn'⟩⟩)
      obtain⟨p,hb,hn'⟩:=this
      have h1:=hp w _ p ho hb
      obtain⟨v,hv,hle⟩:=ih p (by omega) (hlt w _ p ho hb) hn'
      exact⟨v,hv,by omega⟩
   cases hL:nextL ops acc with
   |nil=>
    refine .nil fun j hj=>Classical.byContradiction fun hn=>?_
    obtain⟨v,hv,_⟩:=down (pos j+1) j (by omega) hj hn
    rw[hL]at hv;cases hv
   |cons y ys=>
    simp only
    have hz:=minP_mem pos ys y
    rw[←hL]at hz
    obtain⟨h1,h2,o,ho,h3⟩:=nextL_mem.1 hz
    have:=left_ins h1 h2
    refine .cons h1 h2 (fun o' p ho' hb=>h3 p (by rw[ho]at ho';cases ho';exact hb)) (fun _=>⟨hquiet,fun z hz1 hz2 hz3=>?_⟩) (pick_bra G hp hi n _ (by omega))
    obtain⟨v,hv,hle⟩:=down (pos z+1) z (by omega) hz1 hz2
    rw[hL]at hv
    have:=minP_le pos ys y v hv
    rcases Nat.lt_or_ge (pos (minP pos y ys)) (pos z)with h|h
    ·exact h
    ·exact(hz3 (hi _ _ hz1 h1 (by omega))).elim
theorem Bra.mem {pos:Nat→Nat} {acc C:List Nat} (h:Bra ops pos acc C):(∀y∈C,y∉acc∧y<ops.size)∧C.Nodup∧∀j,j<ops.size→j∈acc∨j∈C:=by
 induction h with
 |nil h=>exact⟨by simp,List.nodup_nil,fun j hj=>.inl (h j hj)⟩
 |@cons acc C y h1 h2 _ _ _ ih=>
  obtain⟨i1,i2,i3⟩:=ih
  refine⟨fun z hz=>?_,List.nodup_cons.2 ⟨fun hy=>(i1 y hy).1 (mem_insN.2 (.inl rfl)),i2⟩,fun j hj=>?_⟩
  ·rcases List.mem_cons.1 hz with rfl|hz
   ·exact⟨h2,h1⟩
   ·exact⟨fun hn=>(i1 z hz).1 (mem_insN.2 (.inr hn)),(i1 z hz).2⟩
  ·rcases i3 j hj with h|h
   ·rcases mem_insN.1 h with rfl|h
    ·exact .inr (.head _)
    ·exact .inl h
   ·exact .inr (.tail _ h)
theorem Bra.split {pos:Nat→Nat}:∀{C1:List Nat} {acc:List Nat} {y:Nat} {C2:List Nat},Bra ops pos acc (C1++y::C2)→∃acc',(∀i,i∈acc'↔i∈acc∨i∈C1)∧Bra ops pos acc' (y::C2)
 |[],acc,y,C2,h=>⟨acc,by simp,h⟩
 |x::C1,acc,y,C2,h=>by
  cases h with
  |cons h1 h2 h3 h4 h5=>
   obtain⟨acc',e,hb⟩:=Bra.split h5
   refine⟨acc',fun i=>?_,hb⟩
   rw[e,mem_insN,List.mem_cons]
   exact⟨fun h=>by rcases h with(h|h)|h<;>simp[h],fun h=>by rcases h with h|h|h<;>simp[h]⟩
def behF (ops:Array Oper) (pos:Nat→Nat) (j:Nat):List Nat:=if quietAt ops j=true then[]else(List.range ops.size).filter fun i=> !quietAt ops i&&Nat.blt (pos i) (pos j)
theorem behF_mem {pos:Nat→Nat} {i j:Nat}:i∈behF ops pos j↔quietAt ops j=false∧i<ops.size∧quietAt ops i=false∧pos i<pos j:=by
 unfold behF
 by_cases h:quietAt ops j=true
 ·rw[if_pos h];simp[h]
 ·rw[if_neg h,List.mem_filter,List.mem_range,Bool.and_eq_true,Nat.blt_eq]
  simp[h]
theorem looks_addF {j:Nat} {o:Oper}:looks (addF f ops) (more f j o)=looks ops o:=by
 unfold looks
 have e1:(more f j o).op=o.op:=rfl
 have e2:(more f j o).guard=o.guard:=rfl
 rw[e1,e2]
 cases o.guard with
 |none=>rfl
 |some g=>simp only[addF_dst]
theorem bra_canon {pos:Nat→Nat} {C:List Nat} (hB:Bra ops pos [] C) (hdst:∀i j t,i<ops.size→j<ops.size→dstOf ops i=some t→dstOf ops j=some t→i=j)
  (hlook:∀i j o t,i<ops.size→ops[j]? =some o→dstOf ops i=some t→t∈looks ops o→Anc ops j i):Canon (addF (behF ops pos) ops) C:=by
 obtain⟨m1,m2,m3⟩:=hB.mem
 have hget:∀{j:Nat} {o':Oper},(addF (behF ops pos) ops)[j]? =some o'→∃o,ops[j]? =some o∧o'=more (behF ops pos) j o:=fun{j o'} h=>by
  rw[addF_get]at h
  cases ho:ops[j]? with
  |none=>rw[ho]at h;cases h
  |some o=>rw[ho]at h;exact⟨o,rfl,(Option.some.inj h).symm⟩
 have hq:∀{j:Nat} {o:Oper},ops[j]? =some o→quietAt ops j=quiet o.op:=fun{j o} h=>by unfold quietAt;rw[h]
 have hall:∀i,i∈C↔i<ops.size:=fun i=>⟨fun h=>(m1 i h).2,fun h=>(m3 i h).resolve_left (by simp)⟩
 have hedge:∀C1 j C2 o,C=C1++j::C2→(addF (behF ops pos) ops)[j]? =some o→∀p,Bnd o p→p∈C1:=fun C1 j C2 o' e ho' p hb=>by
  obtain⟨o,ho,rfl⟩:=hget ho'
  rw[e]at hB
  obtain⟨acc',ea,hB'⟩:=hB.split
  cases hB' with
  |cons h1 h2 h3 h4 h5=>
   rcases more_bnd.1 hb with hb|hb
   ·obtain⟨b1,b2,b3,b4⟩:=behF_mem.1 hb
    have hp:p∈acc':=Classical.byContradiction fun hn=>by
     have:=(h4 b1).2 p b2 hn (fun e=>by subst e;omega)
     omega
    exact((ea p).1 hp).resolve_left (by simp)
   ·exact((ea p).1 (h3 o p ho hb)).resolve_left (by simp)
 refine⟨m2,fun i=>by rw[addF_size];exact hall i,?_,?_,hedge,?_⟩
 ·intro i j t hi hj hd he
  rw[addF_size]at hi hj
  rw[addF_dst]at hd he
  exact hdst i j t hi hj hd he
 ·intro i j o' t hi ho' hd ht
  obtain⟨o,ho,rfl⟩:=hget ho'
  rw[addF_size]at hi
  rw[addF_dst]at hd
  rw[looks_addF]at ht
  exact anc_addF (hlook i j o t hi ho hd ht)
 ·intro C1 i C2 oi' e hoi' hqi j hj
  obtain⟨oi,hoi,rfl⟩:=hget hoi'
  have hqi':quietAt ops i=false:=by rw[hq hoi];exact hqi
  have hB2:=hB
  rw[e]at hB2
  obtain⟨acc',ea,hB'⟩:=hB2.split
  cases hB' with
  |cons h1 h2 h3 h4 h5=>
   obtain⟨P1,P2⟩:=h4 hqi'
   have hnd:=m2
   rw[e]at hnd
   have hnd2:=List.nodup_append.1 hnd
   have main:∀(n:Nat) (D1:List Nat) (j:Nat) (D2:List Nat),D1.length<n→C2=D1++j::D2→Anc (addF (behF ops pos) ops) j i:=fun n=>by
    induction n with
    |zero=>intro D1 j D2 h;omega
    |succ n ih=>
     intro D1 j D2 hn eD
     have hjC:j∈C:=by rw[e,eD];simp
     have hjN:=(hall j).1 hjC
     have hoj:ops[j]? =some ops[j]:=Array.getElem?_eq_getElem hjN
     have hja:j∉acc':=fun h=>by
      have:=((ea j).1 h).resolve_left (by simp)
      exact hnd2.2.2 j this j (by rw[eD];simp) rfl
     have hji:j≠i:=fun h=>by
      subst h
      exact(List.nodup_cons.1 hnd2.2.1).1 (by rw[eD];simp)
     cases hqj:quiet ops[j].op with
     |false=>
      exact .one (by rw[addF_get,hoj];rfl) (more_bnd.2 (.inl (behF_mem.2 ⟨by rw[hq hoj];exact hqj,h1,hqi',P2 j hjN hja hji⟩)))
     |true=>
      obtain⟨p,hb,hpn⟩:=P1 j _ hoj hqj hja
      have hp:=hedge (C1++i::D1) j D2 _ (by rw[e,eD];simp) (by rw[addF_get,hoj];rfl) p (more_bnd.2 (.inr hb))
      rcases List.mem_append.1 hp with hp|hp
      ·exact(hpn ((ea p).2 (.inr hp))).elim
      ·rcases List.mem_cons.1 hp with rfl|hp
       ·exact .one (by rw[addF_get,hoj];rfl) (more_bnd.2 (.inr hb))
       ·obtain⟨E1,E2,rfl⟩:=List.append_of_mem hp
        refine .more (by rw[addF_get,hoj];rfl) (more_bnd.2 (.inr hb)) (ih E1 p (E2++j::D2) (by simp at hn;omega) (by rw[eD];simp))
   obtain⟨D1,D2,eD⟩:=List.append_of_mem hj
   exact main (D1.length+1) D1 j D2 (by omega) eD
theorem Rel.srt {tmps:List Value} (R:Rel w0 M0 L s tmps w):Rel w0 M0 L s.srt tmps w:=by
 refine R.same R.tlen (fun i o v hv=>.inr ⟨v,?_,.inl rfl,rfl⟩) (fun i agg cells h=>⟨cells,?_,rfl⟩)
 ·cases i with
  |zero=>exact hv
  |succ i=>
   simp only[S.srt,S.cell]at hv ⊢
   rw[find_sortR]at hv
   exact hv
 ·simp only[S.srt]at h
  rw[find_sortR]at h
  exact h
theorem skipB_addF {s:S} {i:Nat} {o:Oper}:skipB (addF f ops) s (more f i o)=skipB ops s o:=by
 unfold skipB
 have e2:(more f i o).guard=o.guard:=rfl
 rw[e2]
 cases o.guard with
 |none=>rfl
 |some g=>simp only[addF_dst]
theorem pendOk_addF {ms past:List Nat} {s:S} {ks:List Key} {y:Nat}:pendOk P (addF f ops) ms s ks y past=pendOk P ops ms s ks y past:=by
 unfold pendOk
 congr 1
 funext i
 rw[addF_get]
 cases ho:ops[i]? with
 |none=>rfl
 |some o=>
  simp only[Option.map_some,skipB_addF]
  rfl
theorem stepG_addF {ms past:List Nat} {y:Nat} {o:Oper} {s:S} {K:S→Option β}:stepG P E (addF f ops) ms past y (more f y o) s K=stepG P E ops ms past y o s K:=by
 unfold stepG
 simp only[pendOk_addF]
 rfl
theorem opsG_addF {ms past:List Nat} {y:Nat} {s:S} {K:S→Option β}:opsG P E (addF f ops) ms past [y] s K=opsG P E ops ms past [y] s K:=by
 cases ho:ops[y]? with
 |none=>
  have h1:(addF f ops)[y]? =none:=by rw[addF_get,ho];rfl
  unfold opsG
  rw[ho,h1]
 |some o=>
  have h1:(addF f ops)[y]? =some (more f y o):=by rw[addF_get,ho];rfl
  have e2:(more f y o).guard=o.guard:=rfl
  have e3:(more f y o).dst=o.dst:=rfl
  rw[opsG_cons ho,opsG_cons h1,e2,e3]
  simp only[stepG_addF,addF_dst]
  rfl
def EvA (P:Program) (E:Env) (ops:Array Oper) (ms:List Nat) (pos:Nat→Nat) (k:S→Option β) (r:β) (acc C2:List Nat) (s:S):Prop:=
 ∃n,C2=pickC ops pos n acc∧regA P E ops ms n acc s k=some r
section
variable {ms:List Nat} {pos:Nat→Nat} {k:S→Option β} {r:β} {acc C:List Nat}
theorem ev_nil (h:EvA P E ops ms pos k r acc [] s):k s=some r:=by
 obtain⟨n,h1,h2⟩:=h
 cases n with
 |zero=>rw[regA]at h2;cases h2
 |succ n=>
  unfold pickC at h1
  rw[regA]at h2
  cases hq:nextQ ops acc with
  |some j=>rw[hq]at h1;cases h1
  |none=>
   rw[hq]at h1 h2
   cases hl:nextL ops acc with
   |cons y ys=>rw[hl]at h1;cases h1
   |nil=>
    rw[hl]at h2
    simp only at h2
    split at h2
    ·exact h2
    ·cases h2
theorem ev_cons {y:Nat} {rest:List Nat} (h:EvA P E ops ms pos k r acc (y::rest) s):∃K:S→Option β,opsG P E ops ms acc [y] s K=some r∧∀s',K s'=some r→EvA P E ops ms pos k r (insN y acc) rest s'.srt:=by
 obtain⟨n,h1,h2⟩:=h
 cases n with
 |zero=>rw[regA]at h2;cases h2
 |succ n=>
  unfold pickC at h1
  rw[regA]at h2
  cases hq:nextQ ops acc with
  |some j=>
   rw[hq]at h1 h2
   cases h1
   exact⟨_,h2,fun s' hs=>⟨n,rfl,hs⟩⟩
  |none=>
   rw[hq]at h1 h2
   cases hl:nextL ops acc with
   |nil=>rw[hl]at h1;cases h1
   |cons z zs=>
    rw[hl]at h1 h2
    cases h1
    exact⟨_,meetA_some h2 _ (minP_mem pos zs z),fun s' hs=>⟨n,rfl,hs⟩⟩
end
section
variable {ms:List Nat} {pos:Nat→Nat} {k:S→Option β} {r:β} {C:List Nat} {w1:World} {d0:List Deferred}
theorem quietRunA (G:Canon (addF f ops) C) {rest:List Nat}:∀(blk A acc:List Nat) (a:Act) (L:Lay) (s:S),C=A++(blk++rest)→(∀i,i∈A→i∈acc)→(∀i o,i∈blk→(addF f ops)[i]? =some o→quiet o.op=true)→
  Rel w0 M0 L s a.tmps.toList w→EvA P E ops ms pos k r acc (blk++rest) s→
  ∃a' s' L' acc',Rel w0 M0 L' s' a'.tmps.toList w∧EvA P E ops ms pos k r acc' rest s'∧(∀i,i∈A++blk→i∈acc')∧a'.defers=a.defers∧a'.tmps.size=a.tmps.size∧
   (∀t,(∀i,i∈blk→dstOf (addF f ops) i≠some t)→a'.tmps[t]? =a.tmps[t]?)∧
   ∀i o,i∈blk→(addF f ops)[i]? =some o→∃u,Fact P (addF f ops) w o a' u∧∀t,dstOf (addF f ops) i=some t→t<a'.tmps.size→a'.tmps[t]? =some u
 |[],A,acc,a,L,s,hC,hA,hq,R,h=>⟨a,s,L,acc,R,h,by simpa using hA,rfl,rfl,fun _ _=>rfl,fun i o hm=>by cases hm⟩
 |i::blk,A,acc,a,L,s,hC,hA,hq,R,h=>by
  have hiN:i<(addF f ops).size:=(G.all i).1 (by rw[hC];simp)
  obtain⟨o,ho⟩:∃o,(addF f ops)[i]? =some o:=⟨_,Array.getElem?_eq_getElem hiN⟩
  have hd:dstOf (addF f ops) i=o.dst:=by simp[dstOf,ho]
  have hqi:=hq i o (.head _) ho
  obtain⟨K,h,hK⟩:=ev_cons h
  rw[←opsG_addF (f:=f),opsG_cons ho]at h
  have main:∃u s1 L1,Fact P (addF f ops) w o a u∧Rel w0 M0 L1 s1 (putT a.tmps.toList o.dst u) w∧K s1=some r:=by
   rcases guardG_ok (F:=stepG P E (addF f ops) ms acc i o) R h with⟨hw,s1,L1,R1,hs⟩|⟨hw,s1,L1,R1,hs⟩
   ·unfold stepG at hs
    rw[hqi]at hs
    obtain⟨u,s2,L2,hrun,R2,hk⟩:=quiet_ok hqi R1 hs
    exact⟨u,s2,L2,.inl ⟨hw,hrun⟩,R2,hk⟩
   ·exact⟨undef,s1,L1,.inr ⟨hw,rfl⟩,R1,hs⟩
  obtain⟨u,s1,L1,hf,R1,hk⟩:=main
  rw[←put_tmps, ←hd]at R1
  obtain⟨a',s',L',acc',R',hk',hA',h1,h2,h3,h4⟩:=quietRunA G blk (A++[i]) (insN i acc) (a.put (dstOf (addF f ops) i) u) L1 s1.srt (by rw[hC];simp) (fun j hj=>by
   rcases List.mem_append.1 hj with hj|hj
   ·exact mem_insN.2 (.inr (hA j hj))
   ·exact mem_insN.2 (.inl (List.mem_singleton.1 hj))) (fun j o' hj=>hq j o' (.tail _ hj)) R1.srt (hK _ hk)
  have hnd:=G.nodup
  rw[hC]at hnd
  have hib:i∉blk:=fun h=>(List.nodup_cons.1 (List.nodup_append.1 hnd).2.1).1 (List.mem_append_left _ h)
  have hbN:∀j∈blk,j<(addF f ops).size:=fun j hj=>(G.all j).1 (by rw[hC];exact List.mem_append_right _ (.tail _ (List.mem_append_left _ hj)))
  have hot:∀t,(∀j,j∈i::blk→dstOf (addF f ops) j≠some t)→a'.tmps[t]? =a.tmps[t]? :=fun t ht=>by
   rw[h3 t fun j hj=>ht j (.tail _ hj),put_get_ne (ht i (.head _))]
  refine⟨a',s',L',acc',R',hk',fun j hj=>hA' j (by simpa using hj),h1.trans (put_defers _ _ _),h2.trans (put_size _ _ _),hot,fun j o' hj ho'=>?_⟩
  rcases List.mem_cons.1 hj with rfl|hj
  ·rw[ho]at ho';cases ho'
   refine⟨u,Fact.congr (quiet_sel (hq j o (.head _) ho)) (fun t ht=>hot t fun j' hj' hdj=>?_) hf,fun t ht hlt=>?_⟩
   ·have hjN:j'<(addF f ops).size:=by
     rcases List.mem_cons.1 hj' with rfl|h
     ·exact hiN
     ·exact hbN j' h
    have hA:=anc_ahead G (G.look j' j o t hjN ho hdj ht) A (blk++rest) hC
    exact(List.nodup_append.1 hnd).2.2 j' hA j' (by
     rcases List.mem_cons.1 hj' with rfl|h
     ·exact .head _
     ·exact .tail _ (List.mem_append_left _ h)) rfl
   ·rw[h3 t fun j' hj' e=>hib (by rw[G.dst j j' t hiN (hbN j' hj') ht e];exact hj'),ht]
    rw[put_get_eq (by rw[h2,put_size]at hlt;exact hlt)]
  ·exact h4 j o' hj ho'
structure GhostA (w0:World) (M0:Io) (P:Program) (E:Env) (f:Nat→List Nat) (ops:Array Oper) (ms:List Nat) (pos:Nat→Nat) (k:S→Option β) (r:β) (d0:List Deferred) (C1 C2:List Nat) (w:World) (ag:Act):Prop where
 rel:∃L s acc,(∀i,i∈C1→i∈acc)∧Rel w0 M0 L s ag.tmps.toList w∧EvA P E ops ms pos k r acc C2 s
 defers:ag.defers=d0
 loud:∀y rest o,C2=y::rest→(addF f ops)[y]? =some o→quiet o.op=false
 fact:∀y rest i o,C2=y::rest→i∈C1→(addF f ops)[i]? =some o→quiet o.op=true→¬Anc (addF f ops) y i→∃u,Fact P (addF f ops) w o ag u∧∀t,dstOf (addF f ops) i=some t→t<ag.tmps.size→ag.tmps[t]? =some u
theorem ghostA_behind (G:Canon (addF f ops) C) {C1 rest acc:List Nat} {y:Nat} (hC:C=C1++y::rest) {ag ag1:Act} {o:Oper} (ho:(addF f ops)[y]? =some o) (hq:quiet o.op=false)
  (g:GhostA w0 M0 P E f ops ms pos k r d0 C1 (y::rest) w ag) {u:Value} (e1:ag1=ag.put o.dst u) {L1:Lay} {s1:S} (R1:Rel w0 M0 L1 s1 ag1.tmps.toList w1) (hacc:∀i,i∈C1++[y]→i∈acc) (h1:EvA P E ops ms pos k r acc rest s1)
  (hst:∀i o,i∈C1→(addF f ops)[i]? =some o→quiet o.op=true→¬Anc (addF f ops) y i→Region.wanted o (yielded (addF f ops) ag.tmps)=true→Like P w w1 (execOp ag.eval o)):
  Behind P (addF f ops) (GhostA w0 M0 P E f ops ms pos k r d0) C1 y rest ag ag1 w1:=by
 have hd:dstOf (addF f ops) y=o.dst:=by simp[dstOf,ho]
 have hnd:=G.nodup
 rw[hC]at hnd
 have hnd2:=List.nodup_append.1 hnd
 have hyN:y<(addF f ops).size:=(G.all y).1 (by rw[hC];simp)
 obtain⟨blk,rest',e,hb1,hb2⟩:=frontQuiet (addF f ops) rest fun i hi=>(G.all i).1 (by rw[hC];exact List.mem_append_right _ (.tail _ hi))
 subst e
 have hC':C=(C1++[y])++(blk++rest'):=by rw[hC];simp
 obtain⟨a',s',L',acc',R',hk',hA',d1,d2,d3,d4⟩:=quietRunA G blk (C1++[y]) acc ag1 L1 s1 hC' hacc hb1 R1 h1
 have hN1:∀i∈C1,i<(addF f ops).size:=fun i hi=>(G.all i).1 (by rw[hC];exact List.mem_append_left _ hi)
 have hbN:∀j∈blk,j<(addF f ops).size:=fun j hj=>(G.all j).1 (by rw[hC];exact List.mem_append_right _ (.tail _ (List.mem_append_left _ hj)))
 have notin:∀i j,i∈C1→(j=y∨j∈blk)→i≠j:=fun i j hi hj=>by
  refine hnd2.2.2 i hi j ?_
  rcases hj with rfl|hj
  ·exact .head _
  ·exact .tail _ (List.mem_append_left _ hj)
 have hsize:a'.tmps.size=ag.tmps.size:=by rw[d2,e1,put_size]
 have old:∀t,(∀j,(j=y∨j∈blk)→dstOf (addF f ops) j≠some t)→a'.tmps[t]? =ag.tmps[t]? :=fun t ht=>by
  rw[d3 t fun j hj=>ht j (.inr hj),e1,put_get_ne]
  rw[←hd];exact ht y (.inl rfl)
 have jN:∀j,(j=y∨j∈blk)→j<(addF f ops).size:=fun j hj=>by
  rcases hj with rfl|hj
  ·exact hyN
  ·exact hbN j hj
 have facts:∀i oi,i∈C1→(addF f ops)[i]? =some oi→quiet oi.op=true→¬Anc (addF f ops) y i→∃u,Fact P (addF f ops) w1 oi a' u∧∀t,dstOf (addF f ops) i=some t→t<a'.tmps.size→a'.tmps[t]? =some u:=by
  intro i oi hi hoi hqi hna
  obtain⟨u,hf,hu⟩:=g.fact y (blk++rest') i oi rfl hi hoi hqi hna
  refine⟨u,Fact.congr (quiet_sel hqi) (fun t ht=>old t fun j hj hdj=>?_) (hf.stays (hst i oi hi hoi hqi hna)),fun t ht hlt=>?_⟩
  ·have hanc:=G.look j i oi t (jN j hj) hoi hdj ht
   obtain⟨D1,D2,rfl⟩:=List.append_of_mem hi
   have:=anc_ahead G hanc D1 (D2++y::(blk++rest')) (by rw[hC];simp)
   exact notin j j (List.mem_append_left _ this) hj rfl
  ·rw[old t fun j hj hdj=>notin i j hi hj (G.dst i j t (hN1 i hi) (jN j hj) ht hdj)]
   exact hu t ht (by rw[←hsize];exact hlt)
 refine⟨by rw[e1,put_defers],blk,rest',a',rfl,hb1,?_,d3,d1,d2,?_⟩
 ·intro i oi hi hoi hqi hna
  rcases List.mem_append.1 hi with hi|hi
  ·exact facts i oi hi hoi hqi (hna hi)
  ·rcases List.mem_cons.1 hi with rfl|hi
   ·rw[ho]at hoi;cases hoi;rw[hq]at hqi;cases hqi
   ·exact d4 i oi hi hoi
 ·refine⟨⟨L',s',acc',fun i hi=>hA' i (by simpa using hi),R',hk'⟩,by rw[d1,e1,put_defers];exact g.defers,hb2,?_⟩
  intro y2 rest2 i oi e hi hoi hqi hna
  rcases List.mem_append.1 hi with hi|hi
  ·refine facts i oi hi hoi hqi fun hanc=>hna ?_
   subst e
   exact(G.loud C1 y (blk++y2::rest2) o hC ho hq y2 (List.mem_append_right _ (.head _))).trans hanc
  ·rcases List.mem_cons.1 hi with rfl|hi
   ·rw[ho]at hoi;cases hoi;rw[hq]at hqi;cases hqi
   ·exact d4 i oi hi hoi
theorem regA_ok {gl:Gl} (hE:EnvAt gl P E w0 M0) (G:Canon (addF f ops) C) (hms:∀y i,ancB ms y i=true→Anc (addF f ops) y i) (hns:noSel ops=true)
  (R:Rel w0 M0 L s a.tmps.toList w) (h:EvA P E ops ms pos k r [] C s) (hQ:∀a' w',Next' w0 M0 a k r a' w'→Q .normal a' w'):
  wpAny P .any (addF f ops) Q (cnt (firstN (addF f ops).size 0)) (firstN (addF f ops).size 0) a w:=by
 have hns':noSel (addF f ops)=true:=by
  unfold noSel
  rw[List.all_eq_true]
  intro o ho
  obtain⟨j,hj⟩:=List.mem_iff_getElem?.1 ho
  rw[Array.getElem?_toList,addF_get]at hj
  cases ho':ops[j]? with
  |none=>rw[ho']at hj;cases hj
  |some o'=>
   rw[ho']at hj
   cases hj
   exact List.all_eq_true.1 hns o' (by rw[Array.mem_toList_iff];exact Array.mem_of_getElem? ho')
 obtain⟨blk,rest,hC,hb1,hb2⟩:=frontQuiet (addF f ops) C fun i hi=>(G.all i).1 hi
 rw[hC]at h
 obtain⟨a',s',L',acc',R',hk',hA',d1,d2,d3,d4⟩:=quietRunA G blk [] [] a L s hC (by simp) hb1 R h
 have hbN:∀j∈blk,j<(addF f ops).size:=fun j hj=>(G.all j).1 (by rw[hC];exact List.mem_append_left _ hj)
 refine ghost_any (Gs:=GhostA w0 M0 P E f ops ms pos k r a.defers) G ?_ ?_ _ _ a a' w blk rest hC ?_ ?_ rfl
 ·intro w1 ag g
  obtain⟨L1,s1,acc1,_,R1,h1⟩:=g.rel
  exact hQ _ _ ⟨s1,L1,R1,g.defers,ev_nil h1⟩
 ·intro C1 y rest w1 ag o hC g ho
  have hq:=g.loud y rest o rfl ho
  obtain⟨L1,s1,acc1,hacc,R1,h1⟩:=g.rel
  obtain⟨K,h1,hK⟩:=ev_cons h1
  rw[←opsG_addF (f:=f),opsG_cons ho]at h1
  have hacc':∀i,i∈C1++[y]→i∈insN y acc1:=fun i hi=>by
   rcases List.mem_append.1 hi with hi|hi
   ·exact mem_insN.2 (.inr (hacc i hi))
   ·exact mem_insN.2 (.inl (List.mem_singleton.1 hi))
  have hrefl:∀i oi,i∈C1→(addF f ops)[i]? =some oi→quiet oi.op=true→¬Anc (addF f ops) y i→Region.wanted oi (yielded (addF f ops) ag.tmps)=true→Like P w1 w1 (execOp ag.eval oi):=by
   intro i oi hi hoi hqi hna hw
   obtain⟨u,hf,_⟩:=g.fact y rest i oi rfl hi hoi hqi hna
   intro u' w' e
   rcases hf with⟨_,hr⟩|⟨hw',_⟩
   ·rw[hr]at e;cases e;exact⟨rfl,hr⟩
   ·rw[hw]at hw';cases hw'
  refine⟨hq,noSel_spec hns' ho,fun hw=>?_,fun hw=>?_⟩
  ·rcases guardG_ok (F:=stepG P E (addF f ops) ms acc1 y o) R1 h1 with⟨_,s2,L2,R2,hs⟩|⟨hw',_⟩
   ·unfold stepG at hs
    rw[hq]at hs
    simp only at hs
    split at hs
    ·rename_i ks hfoot
     split at hs
     ·rename_i hpend
      have hl:=loud_frame hE (Q:=fun _ _ _=>False) hq R2 hfoot hs
      refine wp_move (a:=ag) (ag:=ag) rfl id hl (fun v w2 hv=>?_) (fun a1 w2 h=>?_)
      ·obtain⟨⟨s3,L3,R3,_,hk3⟩,hfr⟩:=hv
       refine ghostA_behind G hC ho hq g rfl R3.srt hacc' (hK _ hk3) fun i oi hi hoi hqi hna hw=>?_
       have hp:=List.all_eq_true.1 hpend i (hacc i hi)
       rw[hoi]at hp
       simp only[Bool.or_eq_true,Bool.not_eq_true',hqi,Bool.true_eq_false,false_or]at hp
       rcases hp with hp|hp|hp
       ·exact(hna (hms _ _ hp)).elim
       ·rw[skipB_ok R2 hp]at hw;cases hw
       ·exact stable_ok R2 hqi hp hfr
      ·obtain⟨⟨s3,L3,R3,hd3,_⟩,_⟩:=h
       exact hd3
     ·cases hs
    ·cases hs
   ·rw[hw]at hw';cases hw'
  ·rcases guardG_ok (F:=stepG P E (addF f ops) ms acc1 y o) R1 h1 with⟨hw',_⟩|⟨_,s2,L2,R2,hs⟩
   ·rw[hw]at hw';cases hw'
   ·rw[←put_tmps]at R2
    exact ghostA_behind G hC ho hq g rfl R2.srt hacc' (hK _ hs) hrefl
 ·refine⟨by simp[firstN_size],?_,?_,?_,?_,?_,d1.symm,d2.symm⟩
  ·intro j o ho hj p hp
   have hjN:=(Array.getElem?_eq_some_iff.1 ho).1
   rw[firstN_get hjN]at hj;simp at hj
  ·intro i hi _
   rw[firstN_get hi];simp
  ·intro i o hi ho hq'
   rw[hb1 i o hi ho]at hq';cases hq'
  ·intro i o hi ho _
   exact d4 i o hi ho
  ·intro t ht
   refine(d3 t fun i hi hdi=>?_).symm
   have:=ht i hi hdi
   rw[firstN_get (hbN i hi)]at this;simp at this
 ·refine⟨⟨L',s',acc',fun i hi=>hA' i (by simpa using hi),R',hk'⟩,d1,hb2,?_⟩
  intro y rest' i o e hi ho hq' _
  exact d4 i o hi ho
end
theorem canonW_spec {C0:List Nat} (h:canonW ops C0=true):Can0 ops C0∧(∀i j t,i<ops.size→j<ops.size→dstOf ops i=some t→dstOf ops j=some t→i=j)∧
  ∀i j o t,i<ops.size→ops[j]? =some o→dstOf ops i=some t→t∈looks ops o→Anc ops j i:=by
 simp only[canonW,Bool.and_eq_true]at h
 obtain⟨⟨⟨⟨h1,h2⟩,h3⟩,h4⟩,h5⟩:=h
 have hall:∀i,i∈C0↔i<ops.size:=fun i=>⟨fun hi=>by
   have:=List.all_eq_true.1 h3 i hi
   rwa [Nat.blt_eq]at this,fun hi=>mem_of_memb (List.all_eq_true.1 h2 i (List.mem_range.2 hi))⟩
 have pair:∀i j,i<ops.size→j<ops.size→pairB ops (masksOf ops) i j=true:=fun i j hi hj=>
  List.all_eq_true.1 (List.all_eq_true.1 h4 i ((hall i).2 hi)) j ((hall j).2 hj)
 refine⟨⟨hall,fun C1 j C2 o e ho p hp=>by simpa using edgesB_spec C0 [] h5 C1 j C2 o e ho p hp⟩,?_,?_⟩
 ·intro i j t hi hj hd he
  have:=pair i j hi hj
  simp only[pairB,hd,he,Bool.and_eq_true,Bool.or_eq_true,Bool.not_eq_true',Nat.beq_eq]at this
  rcases this.1 with h|h
  ·simp at h
  ·exact h
 ·intro i j o t hi ho hd ht
  have hj:=(Array.getElem?_eq_some_iff.1 ho).1
  have:=pair i j hi hj
  simp only[pairB,hd,ho,Bool.and_eq_true,Bool.or_eq_true,Bool.not_eq_true']at this
  rcases this.2 with h|h
  ·have:(looks ops o).any (Nat.beq t)=true:=List.any_eq_true.2 ⟨t,ht,by rw[Nat.beq_eq]⟩
   rw[this]at h;cases h
  ·exact ancB_spec h
theorem regG_run {gl:Gl} (hE:EnvAt gl P E w0 M0) {C:List Nat} {k:S→Option β} {r:β} (R:Rel w0 M0 L s a.tmps.toList w) (h:regG P E ops C s k=some r) (hQ:∀a' w',Next' w0 M0 a k r a' w'→Q .normal a' w')
  {l:List Nat} (hl:VO .any ops (firstN ops.size 0) l):wpOps P ops Q l a w:=vo_follow hl _ a w (regG_ok hE R h hQ)
theorem idxOf_inj {l:List Nat}:∀{i j:Nat},i∈l→j∈l→l.idxOf i=l.idxOf j→i=j:=by
 intro i j hi hj h
 have h1:=List.getElem_idxOf (List.idxOf_lt_length_of_mem hi)
 have h2:=List.getElem_idxOf (List.idxOf_lt_length_of_mem hj)
 rw[←h1, ←h2]
 simp only[h]
theorem regH_run {gl:Gl} (hE:EnvAt gl P E w0 M0) {k:S→Option β} {r:β} (R:Rel w0 M0 L s a.tmps.toList w) (h:regH P E ops s k=some r) (hQ:∀a' w',Next' w0 M0 a k r a' w'→Q .normal a' w')
  {l:List Nat} (hl:VO .any ops (firstN ops.size 0) l):wpOps P ops Q l a w:=by
 unfold regH at h
 split at h
 ·exact regG_run hE R h hQ hl
 ·split at h
  ·rename_i hok
   rw[Bool.and_eq_true]at hok
   obtain⟨G0,hdst,hlook⟩:=canonW_spec hok.1
   have hs:(firstN ops.size 0).size=ops.size:=by simp[firstN_size]
   have hfl:∀j b,j<ops.size→(firstN ops.size 0).getD j b=false:=fun j b hj=>by
    rw[Array.getD_eq_getD_getElem?,firstN_get hj];simp
   have hall:∀j,j<ops.size→j∈l:=fun j hj=>vo_all G0 hl hs j hj (hfl j true hj)
   have hlt:∀j o p,ops[j]? =some o→Bnd o p→p<ops.size:=fun j o p ho hb=>by
    have hj:=(Array.getElem?_eq_some_iff.1 ho).1
    obtain⟨D1,D2,e⟩:=List.append_of_mem ((G0.all j).2 hj)
    exact(G0.all p).1 (by rw[e];exact List.mem_append_left _ (G0.edge D1 j D2 o e ho p hb))
   have hpos:∀j o p,ops[j]? =some o→Bnd o p→l.idxOf p<l.idxOf j:=fun j o p ho hb=>by
    have hj:=(Array.getElem?_eq_some_iff.1 ho).1
    rcases vo_bnd hl hs j (hall j hj) (hfl j true hj) o p ho hb with h|h
    ·rw[hfl p false (hlt j o p ho hb)]at h;cases h
    ·exact h
   have hB:=pick_bra (pos:=fun i=>l.idxOf i) G0 hpos (fun i j hi hj e=>idxOf_inj (hall i hi) (hall j hj) e) (ops.size+1) [] (by
    unfold leftN
    exact Nat.lt_succ_of_le (Nat.le_trans (List.length_filter_le _ _) (by simp)))
   have G:=bra_canon hB hdst hlook
   have hv:=vo_addF (f:=behF ops fun i=>l.idxOf i) hl hs fun j hj i hi=>.inr (behF_mem.1 hi).2.2.2
   have hwp:=regA_ok hE G (ms:=masksOf ops) (pos:=fun i=>l.idxOf i) (fun y i hyi=>anc_addF (ancB_spec hyi)) hok.2 R ⟨_,rfl,h⟩ hQ
   rw[addF_size]at hwp
   exact wpOps_addF _ _ _ (vo_follow hv _ a w hwp)
  ·cases h
theorem wp_region_each {id:Nat} (hm:P.follows .mixedOrders=true) (h:∀l,VO .any ops (firstN ops.size 0) l→wpOps P ops Q l a {w with drawn:=w.drawn+1 }):(Code.region id ops true).wp P Q a w:=
 wp_region_draw fun t=>by
  simp only[Region.schedule,hm,Bool.true_or,if_true]
  refine h _ ?_
  have e:firstN ops.size 0=Array.replicate ops.size false:=(firstN_zero _).symm
  rw[e]
  exact vo_lin ops.size t _ (by simp) (by rw[←e];unfold cnt;refine Nat.le_trans List.count_le_length ?_;simp[firstN])
end
end Go.Cm
namespace Go.Cm
section
variable {w0:World} {M0:Io} {L L':Lay} {s s':S} {tmps:List Value} {w w':World} {β:Type} {P:Program} {a:Act} {Q:Exit→Act→World→Prop}
def Post (w0:World) (M0:Io) (a0:Act) (k:Ex→S→Option β) (r:β):Exit→Act→World→Prop
 |.normal,a',w'=>∃s' L',Rel w0 M0 L' s' a'.tmps.toList w'∧a'.defers=a0.defers∧k .norm s'=some r
 |.exit id,a',w'=>∃s' L',Rel w0 M0 L' s' a'.tmps.toList w'∧a'.defers=a0.defers∧k (.exit id) s'=some r
 |.ret,a',w'=>∃s' L',Rel w0 M0 L' s' a'.tmps.toList w'∧a'.defers=a0.defers∧k .ret s'=some r
 |_,_,_=>False
theorem evalK_ok {gl:Gl} {X:Fx} (hE:EnvAt gl X.P X.E w0 M0) (hm:X.P.follows .mixedOrders=true):∀(c:Code) (β:Type) (xs:List (Nat×Nat)) (out:Nat) (s:S) (k:Ex→S→Option β) (r:β) (a:Act) (w:World) (L:Lay),
  Rel w0 M0 L s a.tmps.toList w→evalK X xs c out s k=some r→c.wp X.P (Post w0 M0 a k r) a w:=by
 intro c
 induction c with
 |skip=>exact fun β xs out s k r a w L R h=>wp_skip ⟨s,L,R,rfl,by simpa only[evalK]using h⟩
 |exit id=>exact fun β xs out s k r a w L R h=>wp_exit ⟨s,L,R,rfl,by simpa only[evalK]using h⟩
 |ret=>exact fun β xs out s k r a w L R h=>wp_ret ⟨s,L,R,rfl,by simpa only[evalK]using h⟩
 |region id ops draw=>
  intro β xs out s k r a w L R h
  simp only[evalK]at h
  cases draw with
  |false=>
   simp only at h
   refine wp_region ?_
   have:=opsK_ok (Q:=Post w0 M0 a k r) hE ops.toList 0 a L s w (by simp) R h (fun a' w' h=>h)
   rwa [Array.length_toList, ←List.range_eq_range']at this
  |true=>
   simp only at h
   split at h
   ·rename_i hok
    refine wp_region_any hm ?_
    have:=drawAny (Q:=Post w0 M0 a k r) hE hok ops.size 0 a L s {w with drawn:=w.drawn+1 } (by omega) (by omega) (R.drew _) (by simpa using h) (fun a' w' h=>h)
    rw[firstN_zero]
    have hc:cnt (firstN ops.size 0)=ops.size:=by
     rw[←firstN_zero];simp[cnt]
    rwa [hc]at this
   ·exact wp_region_each hm fun l hl=>regH_run (Q:=Post w0 M0 a k r) hE (L:=L) (w:={w with drawn:=w.drawn+1 }) (R.drew _) h (fun a' w' h=>h) hl
 |seq x y ihx ihy=>
  intro β xs out s k r a w L R h
  simp only[evalK]at h
  refine wp_seq (wp_mono (ihx β _ _ s _ r a w L R h) fun e a' w'=>?_)
  cases e with
  |normal=>
   rintro⟨s',L',R',hd,hk⟩
   have R2:Rel w0 M0 L' (match guarded x with|true=>s'.keep X.pin (live X.ret xs y out)|false=>s') a'.tmps.toList w':=by
    cases guarded x with
    |true=>exact R'.keep _ _
    |false=>exact R'
   refine wp_mono (ihy β _ _ _ _ r a' w' L' R2 hk) fun e a'' w''=>?_
   cases e<;>simp only[Post]<;>first|exact id|(rintro⟨s2,L2,R2,hd2,hk2⟩;exact⟨s2,L2,R2,hd2.trans hd,hk2⟩)
  |exit id=>exact fun h=>h
  |ret=>exact fun h=>h
  |_=>exact fun h=>h
 |cond c x y ihx ihy=>
  intro β xs out s k r a w L R h
  simp only[evalK]at h
  obtain⟨v,hv,h1⟩:=rdK_ok R rfl h
  clear h
  split at h1
  ·rename_i t sh b
   simp only[RW,RA]at hv
   have fin:∀e a' w',Post w0 M0 a (fun ex s=>match ex with|.norm=>k .norm (s.keep X.pin out)|ex=>k ex s) r e a' w'→Post w0 M0 a k r e a' w':=by
    intro e a' w'
    cases e with
    |normal=>rintro⟨s',L',R',hd,hk⟩;exact⟨_,L',R'.keep _ _,hd,hk⟩
    |exit id=>exact fun h=>h
    |ret=>exact fun h=>h
    |_=>exact fun h=>h
   refine wp_cond_split hv.2 (fun ht=>?_) (fun hf=>?_)
   ·rw[if_pos ht]at h1
    exact wp_mono (ihx β _ _ s _ r a w L R h1) fin
   ·rw[if_neg (by rw[hf];simp)]at h1
    exact wp_mono (ihy β _ _ s _ r a w L R h1) fin
  ·cases h1
 |block id b ih=>
  intro β xs out s k r a w L R h
  simp only[evalK]at h
  refine wp_block (wp_mono (ih β _ _ s _ r a w L R h) fun e a' w'=>?_)
  cases e with
  |normal=>rintro⟨s',L',R',hd,hk⟩;exact⟨_,L',R'.keep _ _,hd,hk⟩
  |exit j=>
   rintro⟨s',L',R',hd,hk⟩
   simp only[Exit.inBlock]
   simp only at hk
   split at hk
   ·rename_i hj
    rw[beq_true]at hj
    rw[if_pos hj]
    exact⟨_,L',R'.keep _ _,hd,hk⟩
   ·rename_i hj
    rw[beq_false]at hj
    rw[if_neg hj]
    exact⟨s',L',R',hd,hk⟩
  |ret=>exact fun h=>h
  |_=>exact fun h=>h
 |loop b ih=>
  intro β xs out s k r a w L R h
  simp only[evalK]at h
  split at h
  ·rename_i ex s2 hlp
   obtain⟨n,hn⟩:=Lp.of_some hlp
   refine wp_rounds (fun n a' w'=>∃s' L',Rel w0 M0 L' s' a'.tmps.toList w'∧a'.defers=a.defers∧Lp.iter _ n s'=some (ex,s2)) ⟨_,L,R.keep _ _,rfl,hn⟩ ?_
   rintro n a1 w1 ⟨s1,L1,R1,hd1,hi⟩
   cases n with
   |zero=>simp[Lp.iter]at hi
   |succ n=>
    simp only[Lp.iter]at hi
    split at hi
    ·rename_i s3 hf
     refine wp_mono (ih _ _ _ s1 _ _ a1 w1 L1 R1 hf) fun e a' w'=>?_
     cases e with
     |normal=>
      rintro⟨s',L',R',hd,hk⟩
      simp only[Option.some.injEq,Sum.inl.injEq]at hk
      subst hk
      exact⟨n,Nat.lt_succ_self n,_,L',R'.keep _ _,hd.trans hd1,hi⟩
     |exit id=>rintro⟨s',L',R',hd,hk⟩;simp at hk
     |ret=>rintro⟨s',L',R',hd,hk⟩;simp at hk
     |_=>exact fun h=>h
    ·rename_i res hf
     cases hi
     refine wp_mono (ih _ _ _ s1 _ _ a1 w1 L1 R1 hf) fun e a' w'=>?_
     cases e with
     |normal=>rintro⟨s',L',R',hd,hk⟩;simp at hk
     |exit id=>
      rintro⟨s',L',R',hd,hk⟩
      simp only[Option.some.injEq,Sum.inr.injEq,Prod.mk.injEq]at hk
      obtain⟨rfl,rfl⟩:=hk
      exact⟨_,L',R'.keep _ _,hd.trans hd1,h⟩
     |ret=>
      rintro⟨s',L',R',hd,hk⟩
      simp only[Option.some.injEq,Sum.inr.injEq,Prod.mk.injEq]at hk
      obtain⟨rfl,rfl⟩:=hk
      exact⟨_,L',R'.keep _ _,hd.trans hd1,h⟩
     |_=>exact fun h=>h
    ·cases hi
  ·cases h
 |_=>intro β xs out s k r a w L R h;simp[evalK]at h
end
end Go.Cm
namespace Go.Cm
section
variable {w0:World} {M0:Io} {L L':Lay} {s s':S} {tmps:List Value} {w w':World} {β:Type} {P:Program} {a:Act} {H:Hp} {F:Fr}
structure Begins (L':Lay) (KH:List (Key×Hdr)) (j:Nat) (rows:Rows):Prop where
 has:∀kh∈KH,L'.k kh.1=some kh.2
 no:∀k:Key,k.row∈ids rows→(∀kh∈KH,kh.1≠k)→L'.k k=none
 own:∀i,j≤i→(∀kh∈KH,kh.1≠.pl (PR+i) 0)→L'.k (.pl (PR+i) 0)=none
def OwnFact (L':Lay) (H:Hp) (F:Fr) (j:Nat) (us:List Value) (r:Nat×Bool×List V):Prop:=
 ∃i v u,j≤i∧r=(PR+i,true,[v])∧us[i - j]? =some u∧RV L' H F (PR+i) 0 v u
def StartOk (H:Hp) (F:Fr) (j:Nat) (us:List Value) (M:List Nat) (vs:List V) (rows owns:Rows):Prop:=
 ∃KH:List (Key×Hdr),KH.map (·.2.block)=M∧(∀kh∈KH,kh.1.row∈ids rows∨∃i,j≤i∧kh.1=.pl (PR+i) 0)∧vs.length=us.length∧
  ((ids rows).Nodup→(∀r∈rows,r.1<PS)→(KH.map (·.1)).Nodup∧∀L',Begins L' KH j rows→RWL L' H F vs us∧(∀r∈rows,RowFact L' H F r)∧∀r∈owns,OwnFact L' H F j us r)
theorem OwnFact.shift {j:Nat} {rest:List Value} {u:Value} {r:Nat×Bool×List V} (h:OwnFact L' H F (j+1) rest r):OwnFact L' H F j (u::rest) r:=by
 obtain⟨i,v,u',h1,h2,h3,h5⟩:=h
 refine⟨i,v,u',by omega,h2,?_,h5⟩
 rw[show i - j=(i - (j+1))+1 by omega];simpa using h3
theorem start_ob {j b:Nat} {rest:List Value} {M2 Ms:List Nat} {vs':List V} {rows' owns' below:Rows} (ih:StartOk H F (j+1) rest M2 vs' rows' owns') {v:V} {u:Value} {arr:Array Value} {ety:TypeId} {cells:List TV} {cs:List V} {agg:Bool}
  (hv:∀L':Lay,L'.k (.ob (j+1))=some ⟨b,0,0,0,0⟩→RW L' H F v u) (g1:H b=some (.cells arr ety (0,0))) (g2:RTs H F cells arr.toList Ms) (htk:takeCells deep (j+1) 0 cells=some (cs,below)):
  StartOk H F j (u::rest) (b::Ms++M2) (v::vs') ((j+1,agg,cs)::below++rows') ((PR+j,true,[v])::owns'):=by
 obtain⟨K2,e2,k2,l2,f2⟩:=ih
 have shift:∀{u:Value} {r:Nat×Bool×List V} {L':Lay},OwnFact L' H F (j+1) rest r→OwnFact L' H F j (u::rest) r:=fun h=>h.shift
 obtain⟨K1,e1,k1,l1,f1⟩:=(takes_ok deep).1 (j+1) 0 cells arr.toList Ms cs below g2 htk
 have hids:ids ((j+1,agg,cs)::below++rows')=(j+1)::(ids below++ids rows'):=by simp[ids]
 refine⟨(.ob (j+1),⟨b,0,0,0,0⟩)::(K1++K2),by simp[e1,e2],fun kh hkh=>?_,by simp[l2],fun hn hlt=>?_⟩
 ·rw[hids]
  rcases List.mem_cons.1 hkh with rfl|hkh
  ·exact .inl (.head _)
  ·rcases List.mem_append.1 hkh with hkh|hkh
   ·rcases keysIn_row (k1 kh hkh)with h|h
    ·rw[h];exact .inl (.head _)
    ·exact .inl (.tail _ (List.mem_append_left _ h))
   ·rcases k2 kh hkh with h|⟨i,hi,e⟩
    ·exact .inl (.tail _ (List.mem_append_right _ h))
    ·exact .inr ⟨i,by omega,e⟩
 ·rw[hids,List.nodup_cons,List.nodup_append]at hn
  simp only[List.mem_append,not_or]at hn
  obtain⟨⟨n1,n2⟩,n3,n4,n5⟩:=hn
  obtain⟨d1,f1⟩:=f1 n3 n1
  obtain⟨d2,f2⟩:=f2 n4 (fun r hr=>hlt r (List.mem_append_right _ hr))
  have hidlt:∀i∈(j+1)::(ids below++ids rows'),i<PS:=by
   intro i hi
   rw[←hids]at hi
   obtain⟨r,hr,e⟩:=List.mem_map.1 hi
   rw[←e];exact hlt r hr
  have krow:∀kh∈K1,kh.1.row=j+1∨kh.1.row∈ids below:=fun kh hkh=>keysIn_row (k1 kh hkh)
  have krow1:∀kh∈K1,kh.1.row∈(j+1)::ids below:=fun kh hkh=>by
   rcases krow kh hkh with h|h
   ·rw[h];exact .head _
   ·exact .tail _ h
  have apart:∀k:Key,k.row∈(j+1)::ids below→∀kh∈K2,kh.1≠k:=by
   intro k hk kh hkh e
   have hkl:k.row<PS:=hidlt _ (by rcases List.mem_cons.1 hk with h|h;rw[h];exact .head _;exact .tail _ (List.mem_append_left _ h))
   rcases k2 kh hkh with h|⟨i,hi,e'⟩
   ·rw[e]at h
    rcases List.mem_cons.1 hk with h'|h'
    ·rw[h']at h;exact n2 h
    ·exact n5 _ h' _ h rfl
   ·rw[e]at e';rw[e']at hkl;simp[Key.row,PR,PS]at hkl;omega
  have hob:∀kh∈K1,kh.1≠.ob (j+1):=fun kh hkh=>keysIn_ne n1 (k1 kh hkh)
  refine⟨?_,fun L' B=>?_⟩
  ·simp only[List.map_cons,List.nodup_cons,List.map_append,List.mem_append,not_or,List.nodup_append]
   refine⟨⟨fun hm=>?_,fun hm=>?_⟩,d1,d2,fun k hk k' hk' e=>?_⟩
   ·obtain⟨kh,m,e⟩:=List.mem_map.1 hm;exact hob kh m e
   ·obtain⟨kh,m,e⟩:=List.mem_map.1 hm;exact apart _ (by exact .head _) kh m e
   ·subst e
    obtain⟨kh,m1,e1⟩:=List.mem_map.1 hk
    obtain⟨kh',m2,e2⟩:=List.mem_map.1 hk'
    exact apart k (by rw[←e1];exact krow1 kh m1) kh' m2 e2
  ·have hno:=B.no
   rw[hids]at hno
   obtain⟨q1,q2⟩:=f1 L' ⟨fun kh hkh=>B.has kh (.tail _ (List.mem_append_left _ hkh)),fun k hk hn=>by
    have hr:=keysIn_row hk
    have hr':k.row∈(j+1)::ids below:=by
     rcases hr with h|h
     ·rw[h];exact .head _
     ·exact .tail _ h
    refine hno k (by rcases List.mem_cons.1 hr' with h|h;rw[h];exact .head _;exact .tail _ (List.mem_append_left _ h)) fun kh hkh e=>?_
    rcases List.mem_cons.1 hkh with rfl|hkh
    ·exact keysIn_ne n1 hk e.symm
    ·rcases List.mem_append.1 hkh with hkh|hkh
     ·exact hn kh hkh e
     ·exact apart k hr' kh hkh e⟩
   obtain⟨q3,q4,q5⟩:=f2 L' ⟨fun kh hkh=>B.has kh (.tail _ (List.mem_append_right _ hkh)),fun k hk hn=>hno k (.tail _ (List.mem_append_right _ hk)) fun kh hkh e=>by
    rcases List.mem_cons.1 hkh with rfl|hkh
    ·rw[←e]at hk;exact n2 hk
    ·rcases List.mem_append.1 hkh with hkh|hkh
     ·rw[←e]at hk
      rcases krow kh hkh with h|h
      ·rw[h]at hk;exact n2 hk
      ·exact n5 _ h _ hk rfl
     ·exact hn kh hkh e,fun i hi hn=>B.own i (by omega) fun kh hkh e=>by
    rcases List.mem_cons.1 hkh with rfl|hkh
    ·cases e
    ·rcases List.mem_append.1 hkh with hkh|hkh
     ·have h1:=krow1 kh hkh
      rw[e]at h1
      have:=hidlt (Key.pl (PR+i) 0).row (by rcases List.mem_cons.1 h1 with h|h;rw[h];exact .head _;exact .tail _ (List.mem_append_left _ h))
      simp[Key.row,PR,PS]at this;omega
     ·exact hn kh hkh e⟩
   have hk:=B.has (.ob (j+1),⟨b,0,0,0,0⟩) (.head _)
   simp only at hk
   refine⟨?_,fun r hr=>?_,fun r hr=>?_⟩
   ·simp only[RWL]
    exact⟨_,rest,rfl,hv L' hk,q3⟩
   ·rcases List.mem_cons.1 hr with rfl|hr
    ·exact⟨_,arr,ety,hk,g1,by rw[l1, ←RTs.length g2,Array.length_toList],fun q v hv=>by
      obtain⟨u,h1,h2⟩:=q1 q v hv
      rw[Nat.zero_add]at h2
      exact⟨u,by simpa using h1,h2⟩⟩
    ·rcases List.mem_append.1 hr with h|h
     ·exact q2 r h
     ·exact q4 r h
   ·rcases List.mem_cons.1 hr with rfl|hr
    ·exact⟨j,v,u,Nat.le_refl _,rfl,by simp,RV.of_rw (hv L' hk)⟩
    ·exact shift (q5 r hr)
theorem startK_ok:∀(xs:List TV) (j:Nat) (us:List Value) (M:List Nat) (vs:List V) (rows owns:Rows),RTs H F xs us M→startK j xs=some (vs,rows,owns)→
  StartOk H F j us M vs rows owns
 |[],j,us,M,vs,rows,owns,hr,h=>by
  simp only[startK]at h
  cases h
  simp only[RTs]at hr
  obtain⟨rfl,rfl⟩:=hr
  exact⟨[],rfl,by simp,rfl,fun _ _=>⟨by simp,fun L' _=>⟨by simp[RWL],by simp,by simp⟩⟩⟩
 |x::xs,j,us,M,vs,rows,owns,hr,h=>by
  simp only[RTs]at hr
  obtain⟨u,rest,M1,M2,rfl,rfl,h1,h2⟩:=hr
  simp only[startK]at h
  split at h
  ·cases h
  ·rename_i vs' rows' owns' hs
   obtain⟨K2,e2,k2,l2,f2⟩:=startK_ok xs (j+1) rest M2 vs' rows' owns' h2 hs
   have shift:∀{u:Value} {r:Nat×Bool×List V} {L':Lay},OwnFact L' H F (j+1) rest r→OwnFact L' H F j (u::rest) r:=by
    rintro u r L' ⟨i,v,u',h1,h2,h3,h5⟩
    refine⟨i,v,u',by omega,h2,?_,h5⟩
    rw[show i - j=(i - (j+1))+1 by omega];simpa using h3
   split at h
   ·
    rename_i t sh y
    cases h
    simp only[RT]at h1
    obtain⟨rfl,g1,g2⟩:=h1
    refine⟨K2,by simpa using e2,fun kh hkh=>(k2 kh hkh).imp id fun⟨i,hi,e⟩=>⟨i,by omega,e⟩,by simp[l2],fun hn hlt=>?_⟩
    obtain⟨d2,g⟩:=f2 hn hlt
    refine⟨d2,fun L' B=>?_⟩
    obtain⟨q1,q2,q3⟩:=g L' ⟨B.has,B.no,fun i hi hno=>B.own i (by omega) hno⟩
    exact⟨by simp only[RWL];exact⟨u,rest,rfl,by
     unfold datV
     split
     ·simp only[RW];simpa[RA]using g2
     ·simp only[RW];exact⟨g1,g2⟩,q1⟩,q2,fun r hr=>shift (q3 r hr)⟩
   ·
    rename_i t sh ys
    cases h
    simp only[RT]at h1
    obtain⟨hs,h1⟩:=h1
    have hne:∀kh∈K2,(∀r∈rows,r.1<PS)→kh.1≠.pl (PR+j) 0:=by
     intro kh hkh hlt e
     rcases k2 kh hkh with h|⟨i,hi,e'⟩
     ·rw[e]at h
      obtain⟨r,hr,e2⟩:=List.mem_map.1 h
      have:=hlt r hr
      simp only[Key.row]at e2
      rw[e2]at this
      simp[PR,PS]at this;omega
     ·rw[e]at e';injection e' with e' _;omega
    rcases h1 with⟨hms,rfl,rfl,rfl⟩|⟨hd,rfl,g1,g2,g3,rfl⟩
    ·refine⟨K2,by simpa using e2,fun kh hkh=>(k2 kh hkh).imp id fun⟨i,hi,e⟩=>⟨i,by omega,e⟩,by simp[l2],fun hn hlt=>?_⟩
     obtain⟨d2,g⟩:=f2 hn hlt
     refine⟨d2,fun L' B=>?_⟩
     obtain⟨q1,q2,q3⟩:=g L' ⟨B.has,B.no,fun i hi hno=>B.own i (by omega) hno⟩
     have hk:=B.own j (Nat.le_refl _) (fun kh hkh=>hne kh hkh hlt)
     have hrw:RW L' H F (.bf (PR+j) 0) (.slice none 0 0):=by simp only[RW];rw[hk];exact trivial
     refine⟨by simp only[RWL];exact⟨_,rest,rfl,hrw,q1⟩,q2,fun r hr=>?_⟩
     rcases List.mem_cons.1 hr with rfl|hr
     ·exact⟨j,.own t sh [],.slice none 0 0,Nat.le_refl _,rfl,by simp,by simp,by rw[hk];exact⟨hms,rfl,rfl⟩⟩
     ·exact shift (q3 r hr)
    ·refine⟨(.pl (PR+j) 0,hd)::K2,by simp[e2],fun kh hkh=>?_,by simp[l2],fun hn hlt=>?_⟩
     ·rcases List.mem_cons.1 hkh with rfl|hkh
      ·exact .inr ⟨j,Nat.le_refl _,rfl⟩
      ·exact(k2 kh hkh).imp id fun⟨i,hi,e⟩=>⟨i,by omega,e⟩
     obtain⟨d2,g⟩:=f2 hn hlt
     refine⟨by
      simp only[List.map_cons,List.nodup_cons]
      refine⟨fun hm=>?_,d2⟩
      obtain⟨kh,m,e⟩:=List.mem_map.1 hm
      exact hne kh m hlt e,fun L' B=>?_⟩
     obtain⟨q1,q2,q3⟩:=g L' ⟨fun kh hkh=>B.has kh (.tail _ hkh),fun k hk hno=>B.no k hk fun kh hkh e=>by
       rcases List.mem_cons.1 hkh with rfl|hkh
       ·rw[←e]at hk
        obtain⟨r,hr,e2⟩:=List.mem_map.1 hk
        have:=hlt r hr
        simp only[Key.row]at e2
        rw[e2]at this
        simp[PR,PS]at this;omega
       ·exact hno kh hkh e,fun i hi hno=>B.own i (by omega) fun kh hkh e=>by
       rcases List.mem_cons.1 hkh with rfl|hkh
       ·injection e with e _;omega
       ·exact hno kh hkh e⟩
     have hk:=B.has (.pl (PR+j) 0,hd) (.head _)
     simp only at hk
     have hrw:RW L' H F (.bf (PR+j) 0) (hd.val ys.length):=by simp only[RW];rw[hk];simp only;exact(Hdr.val_len (fun hs=>g1 (by rw[←g2];exact hs))).symm
     refine⟨by simp only[RWL];exact⟨_,rest,rfl,hrw,q1⟩,q2,fun r hr=>?_⟩
     rcases List.mem_cons.1 hr with rfl|hr
     ·refine⟨j,.own t sh ys,hd.val ys.length,Nat.le_refl _,rfl,by simp,hs,?_⟩
      rw[hk];exact⟨rfl,g1,g2,g3⟩
     ·exact shift (q3 r hr)
   ·
    rename_i agg cells
    split at h
    ·rename_i cs below htk
     cases h
     simp only[RT]at h1
     obtain⟨b,arr,ety,Ms,rfl,g1,rfl,g2⟩:=h1
     exact start_ob ⟨K2,e2,k2,l2,f2⟩ (fun L' hk=>by simp only[RW];exact⟨_,hk,rfl⟩) g1 g2 htk
    ·cases h
   ·
    cases h
    simp only[RT]at h1
    subst h1
    refine⟨K2,by simpa using e2,fun kh hkh=>(k2 kh hkh).imp id fun⟨i,hi,e⟩=>⟨i,by omega,e⟩,by simp[l2],fun hn hlt=>?_⟩
    obtain⟨d2,g⟩:=f2 hn hlt
    refine⟨d2,fun L' B=>?_⟩
    obtain⟨q1,q2,q3⟩:=g L' ⟨B.has,B.no,fun i hi hno=>B.own i (by omega) hno⟩
    exact⟨by simp only[RWL];exact⟨u,rest,rfl,by simp only[RW],q1⟩,q2,fun r hr=>shift (q3 r hr)⟩
   ·
    rename_i t y
    split at h
    ·rename_i agg cells
     split at h
     ·rename_i cs below htk
      cases h
      simp only[RT]at h1
      obtain⟨ad,u1,rfl,g3,g4,b,arr,ety,Ms,rfl,g1,rfl,g2⟩:=h1
      exact start_ob ⟨K2,e2,k2,l2,f2⟩ (fun L' hk=>by simp only[RW];exact⟨ad,_,rfl,g3,g4,_,hk,rfl⟩) g1 g2 htk
     ·cases h
    ·cases h
end
end Go.Cm
namespace Go.Cm
section
variable {w0:World} {M0:Io} {L L':Lay} {s s':S} {tmps:List Value} {w w':World} {β:Type} {P:Program} {a:Act} {H:Hp} {F F':Fr}
theorem RWL.mono' (hF:∀t b,F t b→F' t b):∀{vs:List V} {us:List Value},RWL L H F vs us→RWL L H F' vs us:=fun{vs us} h=>
 RWL.mono (B:=fun _=>False) (fun _ _=>rfl) (fun t b hb=>⟨hF t b hb,rfl⟩) vs us (by
  have key:∀vs:List V,V.offL (fun _=>False) vs:=fun vs=>by
   induction vs with
   |nil=>simp[V.offL]
   |cons v vs ih=>exact⟨v.off_none,ih⟩
  exact key vs) h
def firstL (KH:List (Key×Hdr)) (us:List Value):Lay:=⟨fun k=>look k KH,fun i=>(us[i - PR]?).toList⟩
theorem find_num:∀(vs:List V) (i j:Nat),Tm.find j (Tm.num i vs)=match(if i≤j then vs[j - i]? else none)with|some v=>v|none=>.undef
 |[],i,j=>by simp[Tm.num,Tm.find]
 |v::vs,i,j=>by
  simp only[Tm.num,Tm.find]
  cases h:Nat.beq i j with
  |true=>
   rw[beq_true]at h
   subst h
   simp
  |false=>
   rw[beq_false]at h
   dsimp only
   rw[find_num vs (i+1) j]
   by_cases hij:i≤j
   ·rw[if_pos hij,if_pos (by omega),show j - i=(j - (i+1))+1 by omega,List.getElem?_cons_succ]
   ·rw[if_neg hij,if_neg (by omega)]
theorem fixA_length (all:List TV):∀(xs:List TV) (vs:List V),(fixA all xs vs).length=vs.length
 |[],vs=>by simp[fixA]
 |x::xs,[]=>by simp[fixA]
 |x::xs,v::vs=>by simp only[fixA,List.length_cons,fixA_length all xs vs]
theorem fixA_get (all:List TV):∀(xs:List TV) (vs:List V) (i:Nat) (v:V),(fixA all xs vs)[i]? =some v→
  (∃t b f avs,xs[i]? =some (.fc t b f avs)∧v=match b with|true=>.fb f (avs.map (avV all))|false=>.fn f (avs.map (avV all)))∨vs[i]? =some v
 |[],vs,i,v,h=>.inr (by simpa[fixA]using h)
 |x::xs,[],i,v,h=>by simp[fixA]at h
 |x::xs,u::vs,0,v,h=>by
  simp only[fixA,List.getElem?_cons_zero,Option.some.injEq]at h
  cases x with
  |fc t b f avs=>exact .inl ⟨t,b,f,avs,rfl,h.symm⟩
  |_=>exact .inr (by simpa using h)
 |x::xs,u::vs,i+1,v,h=>by
  simp only[fixA,List.getElem?_cons_succ]at h ⊢
  exact fixA_get all xs vs i v h
theorem startK_get:∀{xs:List TV} {j:Nat} {vs:List V} {rows owns:Rows},startK j xs=some (vs,rows,owns)→∀{k:Nat} {g:Bool} {cells:List TV},xs[k]? =some (.ob g cells)→vs[k]? =some (.rp (j+k+1) 0)
 |[],j,vs,rows,owns,h,k,g,cells,hk=>by simp at hk
 |x::xs,j,vs,rows,owns,h,k,g,cells,hk=>by
  simp only[startK]at h
  split at h
  ·cases h
  ·rename_i vs' rows' owns' hs
   have key:∀v r o,some (v::vs',r,o)=some (vs,rows,owns)→(k=0→v=.rp (j+1) 0)→vs[k]? =some (.rp (j+k+1) 0):=by
    intro v r o e hv
    cases e
    cases k with
    |zero=>rw[hv rfl];rfl
    |succ k=>
     have:=startK_get hs (k:=k) (by simpa using hk)
     rw[List.getElem?_cons_succ,this,show j+1+k+1=j+(k+1)+1 by omega]
   split at h
   ·exact key _ _ _ h (fun e=>by subst e;simp at hk)
   ·exact key _ _ _ h (fun e=>by subst e;simp at hk)
   ·split at h
    ·exact key _ _ _ h (fun _=>rfl)
    ·cases h
   ·exact key _ _ _ h (fun e=>by subst e;simp at hk)
   ·split at h
    ·split at h
     ·exact key _ _ _ h (fun e=>by subst e;simp at hk)
     ·cases h
    ·cases h
theorem fixA_ok {xs:List TV} {us:List Value} {vs:List V} {rows owns:Rows} (hs:startK 0 xs=some (vs,rows,owns)) (hF:∀t b,F t b→F true b) (ha:Als H F xs us) (h:RWL L H F vs us):RWL L H F (fixA xs xs vs) us:=by
 have one:∀{t:Bool} {avs:List (Nat×Bool)} {cs:List Value},AvsOk H F xs us t avs cs→RWL L H F (avs.map (avV xs)) cs:=by
  intro t avs
  induction avs with
  |nil=>intro cs h;simpa only[AvsOk,RWL,List.map_nil]using h
  |cons a avs ih=>
   intro cs hc
   obtain⟨c,rest,rfl,⟨u,h1,⟨g,cells,h2⟩,h3⟩,h4⟩:=hc
   simp only[List.map_cons,RWL]
   refine⟨c,rest,rfl,?_,ih h4⟩
   obtain⟨k,z⟩:=a
   have hk:=startK_get hs h2
   rw[Nat.zero_add]at hk
   obtain⟨u',hu',hr⟩:=RWL.get h hk
   simp only at h1
   rw[h1]at hu';cases hu'
   unfold avV
   simp only at h2
   simp only[h2]
   cases z with
   |false=>simp only at h3;subst h3;exact hr
   |true=>
    obtain⟨ad,e1,e2,e3⟩:=h3
    simp only[RW]
    simp only[RW]at hr
    exact⟨ad,u,e1,hF _ _ e2,e3,hr⟩
 refine RWL.mk (by rw[fixA_length];exact RWL.length h) fun i v u hv hu=>?_
 rcases fixA_get _ _ _ _ _ hv with⟨t,b,f,avs,h1,rfl⟩|h1
 ·obtain⟨cs,h2,h3⟩:=ha _ _ _ _ _ h1
  rw[hu]at h2;cases h2
  cases b with
  |true=>simp only[RW,funcVal];exact⟨cs,rfl,one h3⟩
  |false=>simp only[RW,funcVal];exact⟨cs,rfl,one h3⟩
 ·obtain⟨u',hu',hr⟩:=RWL.get h h1
  rw[hu]at hu';cases hu'
  exact hr
theorem start_rel {xs:List TV} {us:List Value} {M:List Nat} {g:Nat→Prop} {vs:List V} {rows owns:Rows} (hr:RTs (hp w) (Fin w M g) xs us M) (ha:Als (hp w) (Fin w M g) xs us) (hM:M.Nodup) (hs:startK 0 xs=some (vs,rows,owns))
  (hn:(ids rows).Nodup) (hi:∀r∈rows,r.1≠0∧r.1<PS) (n:Nat):
  ∃L,Rel w ⟨fun b=>b∈M,g,fun i=>(us[i - PR]?).toList⟩ L ⟨⟨vs.length+(n - vs.length),Tm.num 0 (fixA xs xs vs)⟩,rows++owns⟩ (us++List.replicate (n - us.length) undef) w∧(∀k h,L.k k=some h→h.block∈M):=by
 obtain⟨KH,e1,k1,l1,f1⟩:=startK_ok xs 0 us M vs rows owns hr hs
 obtain⟨d1,f1⟩:=f1 hn (fun r hr=>(hi r hr).2)
 have hblk:∀k h,(firstL KH us).k k=some h→h.block∈M:=fun k h hk=>by
  rw[←e1];exact List.mem_map.2 ⟨_,look_mem hk,rfl⟩
 obtain⟨q1,q2,q3⟩:=f1 (firstL KH us) ⟨fun kh hkh=>look_of d1 kh hkh,fun k _ hno=>by
   cases h:look k KH with
   |none=>exact h
   |some h'=>exact(hno _ (look_mem h) rfl).elim,fun i _ hno=>by
   cases h:look (.pl (PR+i) 0) KH with
   |none=>exact h
   |some h'=>exact(hno _ (look_mem h) rfl).elim⟩
 have hF:∀t b,Fin w M g t b→Fz w ⟨fun b=>b∈M,g,fun i=>(us[i - PR]?).toList⟩ (firstL KH us) w t b:=fun t b hb=>
  ⟨hb.1,fun k h hk e=>hb.2.1 (e▸hblk k h hk),.inl ⟨hb.2.2.1,hb.2.2.2⟩⟩
 replace q1:=fixA_ok hs (fun t b hb=>⟨hb.1,hb.2.1,rfl,hb.2.2.2⟩) ha q1
 have hlf:=fixA_length xs xs vs
 refine⟨firstL KH us,⟨?_,?_,?_,?_,?_,Nat.le_refl _,fun _ _ _=>rfl,rfl,rfl,rfl,fun _ _=>rfl⟩,hblk⟩
 ·intro k k' h h' hk hk' e
  have:=block_inj (by rw[e1];exact hM) _ (look_mem hk) _ (look_mem hk') e
  cases this;rfl
 ·intro k h hk
  have hm:=hblk k h hk
  obtain⟨o,ho⟩:=RTs.mem hr _ hm
  exact⟨(Array.getElem?_eq_some_iff.1 ho).1,.inl hm⟩
 ·simp[l1]
 ·intro i o v hv
  cases i with
  |zero=>
   have hv':(⟨vs.length+(n - vs.length),Tm.num 0 (fixA xs xs vs)⟩:Tm).get o=some v:=hv
   have hlt:=Tm.get_lt hv'
   simp only at hlt
   unfold Tm.get at hv'
   split at hv'
   ·have hf:=find_num (fixA xs xs vs) 0 o
    simp only[Nat.zero_le,Nat.sub_zero,true_and]at hf
    rw[hf]at hv'
    by_cases ho:o<(fixA xs xs vs).length
    ·rw[List.getElem?_eq_getElem ho]at hv'
     cases hv'
     obtain⟨u,hu,hr⟩:=RWL.get (RWL.mono' hF q1) (List.getElem?_eq_getElem ho)
     exact⟨u,by simp only[uAt];rw[List.getElem?_append_left (by omega)];exact hu,.of_rw hr⟩
    ·rw[List.getElem?_eq_none (by omega)]at hv'
     cases hv'
     refine⟨undef,?_,by simp[RV,RW]⟩
     simp only[uAt]
     rw[List.getElem?_append_right (by omega),List.getElem?_replicate,if_pos (by omega)]
   ·cases hv'
  |succ i=>
   obtain⟨agg,cells,hf,ho⟩:=S.find_of_cell hv
   rw[S.find_append]at hf
   cases hfr:S.find (i+1) rows with
   |some r'=>
    rw[hfr]at hf
    cases hf
    have hm:=S.find_mem hfr
    obtain⟨h,cs,e,g1,g2,g3,g4⟩:=q2 _ hm
    obtain⟨u,hu,hr⟩:=g4 o v ho
    exact⟨u,by rw[uAt_obj (hi _ hm).2 (by simp) g1 g2];exact hu,hr.mono' hF⟩
   |none=>
    rw[hfr]at hf
    have hm:=S.find_mem hf
    obtain⟨j,v0,u,_,e,h1,h2⟩:=q3 _ hm
    simp only[Prod.mk.injEq]at e
    obtain⟨e1,_,e3⟩:=e
    subst e3
    cases o with
    |succ o=>simp at ho
    |zero=>
     simp at ho
     subst ho
     refine⟨u,?_,?_⟩
     ·rw[uAt_ps (by rw[e1];simp[PR,PS];omega),e1]
      simp only[firstL,Nat.add_sub_cancel_left]
      simp only[Nat.sub_zero]at h1
      rw[h1];rfl
     ·rw[e1];exact h2.mono' hF
 ·intro i agg cells hf hlt
  simp only at hf
  rw[S.find_append]at hf
  cases hfr:S.find i rows with
  |some r'=>
   rw[hfr]at hf
   cases hf
   have hm:=S.find_mem hfr
   obtain⟨h,cs,e,g1,g2,g3,g4⟩:=q2 _ hm
   exact⟨(hi _ hm).1,h,cs,e,g1,g2,g3⟩
  |none=>
   rw[hfr]at hf
   have hm:=S.find_mem hf
   obtain⟨j,v0,u,_,e,_⟩:=q3 _ hm
   simp only[Prod.mk.injEq]at e
   rw[e.1]at hlt
   simp[PR,PS]at hlt;omega
end
end Go.Cm
namespace Go.Cm
section
variable {w0:World} {M0:Io} {L L':Lay} {s s':S} {tmps:List Value} {w w':World} {β:Type} {P:Program} {a:Act}
def resOne (tmps:Array Value):ResultVar→Sem Value
 |.tmp t=>pure (tmps.getD t undef)
 |.cell a t=>do loadVar t (←asAddr (tmps.getD a undef))
theorem results_eq (fn:Func) (tmps:Array Value):results fn tmps=(do
  let vs ←fn.results.mapM (resOne tmps)
  pure (if h:vs.size=1 then vs[0]else .tuple vs)):=by
 unfold results
 congr 1
theorem asAddr_load {T:TypeId} {ua u:Value} {w w':World} (h:(Instr.loadAt T ua).run P w=.ok u w'):(do loadVar T (←asAddr ua):Sem Value).run P w=.ok u w':=by
 unfold Instr.loadAt Instr.sureAddr at h
 cases ua with
 |pointer ad=>cases ad with
  |some ad=>simpa[asAddr]using h
  |none=>simp[stuck]at h
 |_=>simp[stuck]at h
theorem eval_getD {t:Tmp}:a.eval (.tmp t)=a.tmps.getD t undef:=rfl
theorem resVs_ok (R:Rel w0 M0 L s a.tmps.toList w):∀(rs:List ResultVar) (Ts:List TypeId) (k:List (Bool×V×TypeId)→Option β) (r:β),resVs P rs Ts s k=some r→
  ∃es us,RWs L (hp w) (Fz w0 M0 L w) es us∧(rs.mapM (resOne a.tmps)).run P w=.ok us w∧k es=some r
 |[],Ts,k,r,h=>⟨[],[],by simp[RWs],by simp,by simpa[resVs]using h⟩
 |x::rs,[],k,r,h=>by simp[resVs]at h
 |x::rs,T::Ts,k,r,h=>by
  simp only[resVs]at h
  cases x with
  |tmp t=>
   simp only at h
   obtain⟨v,hv,h1⟩:=rdK_ok R rfl h
   obtain⟨es,us,h2,h3,h4⟩:=resVs_ok R rs Ts _ r h1
   refine⟨_,a.eval (.tmp t)::us,?_,?_,h4⟩
   ·simp only[RWs];exact⟨_,_,rfl,hv,h2⟩
   ·simp only[List.mapM_cons,resOne,Sem.run_bind,Sem.run_pure,Result.andThen,h3];rfl
  |cell t U=>
   simp only at h
   obtain⟨v,hv,h1⟩:=rdK_ok R rfl h
   obtain⟨v2,u2,hv2,h1,hl⟩:=loadK_ok R hv h1
   obtain⟨es,us,h2,h3,h4⟩:=resVs_ok R rs Ts _ r h1
   refine⟨_,u2::us,?_,?_,h4⟩
   ·simp only[RWs];exact⟨_,_,rfl,hv2,h2⟩
   ·have:=asAddr_load hl
    rw[eval_getD]at this
    have h5:(resOne a.tmps (.cell t U)).run P w=.ok u2 w:=this
    simp only[List.mapM_cons,Sem.run_bind,h5,Sem.run_pure,Result.andThen,h3]
theorem outVal_eq (us:List Value):(if h:us.toArray.size=1 then us.toArray[0]else .tuple us.toArray)=outVal us:=by
 unfold outVal
 match us with
 |[]=>rfl
 |[v]=>rfl
 |v::v'::us=>rw[dif_neg (by simp)]
theorem results_ok {fn:Func} {us:List Value} (h:(fn.results.toList.mapM (resOne a.tmps)).run P w=.ok us w):(results fn a.tmps).run P w=.ok (outVal us) w:=by
 rw[results_eq,Array.mapM_eq_mapM_toList, ←outVal_eq, ←bind_pure_comp]
 simp only[Sem.run_bind,h,Result.andThen,Sem.run_pure]
theorem outEs_ok (R:Rel w0 M0 L s tmps w):∀(xs:List TV) (us:List Value) (j:Nat),us.length=xs.length→(∀i u,us[i]? =some u→M0.ps (PR+(j+i))=[u])→
  RWs L (hp w) (Fz w0 M0 L w) (outEs s j xs) (ioVals xs us)
 |[],us,j,hl,hp=>by cases us with|nil=>simp[outEs,ioVals,RWs]|cons=>simp at hl
 |x::xs,[],j,hl,hp=>by simp at hl
 |x::xs,u::us,j,hl,hp=>by
  have ih:=outEs_ok R xs us (j+1) (by simpa using hl) (fun i u h=>by
   have:=hp (i+1) u (by simpa using h)
   rwa [show j+(i+1)=j+1+i by omega]at this)
  have hu:RW L (Cm.hp w) (Fz w0 M0 L w) (outV s j) u:=by
   unfold outV
   cases hc:s.cell (PR+j) 0 with
   |none=>simp[RW]
   |some v=>
    obtain⟨u',h1,h2⟩:=R.val _ _ _ hc
    rw[uAt_ps (by simp[PR,PS];omega),R.pins _ (by omega)]at h1
    have h3:=hp 0 u (by simp)
    rw[Nat.add_zero]at h3
    rw[h3]at h1
    simp at h1
    subst h1
    exact borrow_rw h2
  cases x with
  |d=>simpa[outEs,ioVals]using ih
  |own=>simp only[outEs,ioVals,RWs];exact⟨_,_,rfl,hu,ih⟩
  |ob=>simp only[outEs,ioVals,RWs];exact⟨_,_,rfl,hu,ih⟩
  |fc=>simpa[outEs,ioVals]using ih
  |cpo=>simp only[outEs,ioVals,RWs];exact⟨_,_,rfl,hu,ih⟩
theorem RWs.append {H:Hp} {F:Fr}:∀{es fs:List (Bool×V×TypeId)} {us vs:List Value},RWs L H F es us→RWs L H F fs vs→RWs L H F (es++fs) (us++vs)
 |[],fs,us,vs,h,k=>by simp only[RWs]at h;subst h;exact k
 |e::es,fs,us,vs,h,k=>by
  simp only[RWs,List.cons_append]at h ⊢
  obtain⟨u,rest,rfl,h1,h2⟩:=h
  exact⟨u,rest++vs,rfl,h1,RWs.append h2 k⟩
theorem nodupN_nodup:∀{l:List Nat},nodupN l=true→l.Nodup:=fun h=>nodupN_ok h
theorem valid_of {gl:Gl} {E:Env} {f:FuncId} {fn:Func} {args res outs:List TV} (hE:EnvOk gl P E) (hm:P.follows .mixedOrders=true) (hf:P.funcs[f]? =some fn) (hn:(fn.name== "runtime.NumGoroutine")=false)
  (h:evalF P E fn args (fun a b=>some (a,b))=some (res,outs)):Valid gl P f args res outs:=by
 intro w us M g hG hr ha hM
 unfold evalF at h
 split at h
 ·rename_i c vs rows owns hb hs
  split at h
  ·rename_i hok
   simp only[Bool.and_eq_true,List.all_eq_true,Nat.blt_eq]at hok
   have hlen:=RTs.length hr
   obtain⟨L,R,hL⟩:=start_rel (w:=w) (g:=g) hr ha hM hs (nodupN_nodup hok.1) (fun r hr=>⟨by have:=hok.2 r hr;omega,(hok.2 r hr).2⟩) fn.ntmps
   refine Runs.of_calls hf hn (by rw[hb];rfl) (calls_of_wp hf hb ?_)
   have R0:Rel w ⟨fun b=>b∈M,g,fun i=>(us[i - PR]?).toList⟩ L ⟨⟨vs.length+(fn.ntmps - vs.length),Tm.num 0 (fixA args args vs)⟩,rows++owns⟩
     ({tmps:=us.toArray++Array.replicate (fn.ntmps - us.toArray.size) undef,defers:=[] }:Act).tmps.toList w:=by
    simpa using R
   refine wp_mono (evalK_ok (X:=⟨P,E,retBits fn.results.toList,args.length⟩) (M0:=⟨fun b=>b∈M,g,fun i=>(us[i - PR]?).toList⟩) ⟨hE,hG⟩ hm c _ _ _ _ _ _ _ w L R0 h) fun e a' w'=>?_
   have fin:∀(s':S) (L':Lay),Rel w ⟨fun b=>b∈M,g,fun i=>(us[i - PR]?).toList⟩ L' s' a'.tmps.toList w'→
     resVs P fn.results.toList fn.resultTypes.toList s' (fun es=>handK P (es++outEs s' 0 args) s' fun _ tvs _ _=>some (tvs.take es.length,tvs.drop es.length))=some (res,outs)→
     ∃v,(results fn a'.tmps).run P w'=.ok v w'∧∃rs M',Ending.returned v=.returned (outVal rs)∧Back w w' M g args us res outs rs M':=by
    intro s' L' R' hk
    obtain⟨es,rs,h1,h2,h3⟩:=resVs_ok R' _ _ _ _ hk
    refine⟨outVal rs,results_ok h2,rs,?_⟩
    have h4:=outEs_ok R' args us 0 hlen (fun i u hu=>by simp[hu])
    obtain⟨u,tvs,ks,s1,L1,Hd,h5⟩:=hand_ok R' (RWs.append h1 h4) h3
    simp only[Option.some.injEq,Prod.mk.injEq]at h5
    obtain⟨rfl,rfl⟩:=h5
    have hes:=RWs.length h1
    refine⟨blks L1 ks,rfl,?_⟩
    have hl2:=Hd.len
    rw[List.length_append]at hl2
    have R1:=Hd.rel
    have hM':∀b∈blks L1 ks,∃k h,L1.k k=some h∧h.block=b:=fun b hb=>by
     obtain⟨k,_,h,e1,e2⟩:=mem_blks.1 hb
     exact⟨k,h,e1,e2⟩
    refine⟨by rw[List.length_take];omega,?_,Hd.nodup,fun b hb=>?_,R1.size,fun b hb hn=>R1.old b hb hn,R1.os,R1.tape,R1.output⟩
    ·rw[List.take_append_drop]
     refine RTs.mono (fun t b hb=>⟨⟨hb.1,fun hm=>?_,hb.2.2⟩,rfl⟩) _ _ _ (fun _ _=>rfl) Hd.rt
     obtain⟨k,h,e1,e2⟩:=hM' b hm
     exact hb.2.1 k h e1 e2
    ·obtain⟨k,h,e1,e2⟩:=hM' b hb
     have:=R1.own k h e1
     rw[e2]at this
     rcases this.2 with h|h
     ·exact .inl h
     ·exact .inr ⟨h,this.1⟩
   cases e with
   |normal=>rintro⟨s',L',R',hd,hk⟩;exact⟨hd,fin s' L' R' hk⟩
   |ret=>rintro⟨s',L',R',hd,hk⟩;exact⟨hd,fin s' L' R' hk⟩
   |exit id=>rintro⟨s',L',R',hd,hk⟩;simp at hk
   |_=>exact fun h=>h.elim
  ·cases h
 ·cases h
end
end Go.Cm
namespace Go.Cm
section
variable {β:Type}
noncomputable def roundK (X:Fx) (xs:List (Nat×Nat)) (b:Code) (s:S):Option (S ⊕ (Ex×S)):=
 evalK X xs b (live X.ret xs b 0) s fun ex s=>match ex with
  |.norm=>some (.inl (s.keep X.pin (live X.ret xs b 0)))
  |.exit id=>some (.inr (.exit id,s.keep X.pin (exitBits xs id)))
  |.ret=>some (.inr (.ret,s.keep X.pin X.ret))
inductive Kf where
 |seq (xs:List (Nat×Nat)) (b:Code) (out:Nat)
 |cond (out:Nat)
 |block (id out:Nat)
noncomputable def applyK (X:Fx) (fin:Ex→S→Option β):List Kf→Ex→S→Option β
 |[],ex,s=>fin ex s
 |.seq xs b out::st,ex,s=>match ex with|.norm=>evalK X xs b out s (applyK X fin st)|ex=>applyK X fin st ex s
 |.cond out::st,ex,s=>match ex with|.norm=>applyK X fin st .norm (s.keep X.pin out)|ex=>applyK X fin st ex s
 |.block id out::st,ex,s=>match ex with
  |.norm=>applyK X fin st .norm (s.keep X.pin out)
  |.exit j=>match Nat.beq j id with|true=>applyK X fin st .norm (s.keep X.pin out)|false=>applyK X fin st (.exit j) s
  |.ret=>applyK X fin st .ret s
noncomputable def goLp (X:Fx) (xs:List (Nat×Nat)) (b:Code) (st:List Kf) (fin:Ex→S→Option β) (s:S):Option β:=
 match Lp (roundK X xs b) s with
 |some (ex,s)=>applyK X fin st ex s
 |none=>none
noncomputable def finK (P:Program) (fn:Func) (args:List TV) (k:List TV→List TV→Option β) (ex:Ex) (s:S):Option β:=
 match ex with
 |.exit _=>none
 |_=>resVs P fn.results.toList fn.resultTypes.toList s fun es=>handK P (es++outEs s 0 args) s fun _ tvs _ _=>k (tvs.take es.length) (tvs.drop es.length)
def finR (X:Fx) (xs:List (Nat×Nat)) (b:Code) (ex:Ex) (s:S):Option (S ⊕ (Ex×S)):=
 match ex with
 |.norm=>some (.inl (s.keep X.pin (live X.ret xs b 0)))
 |.exit id=>some (.inr (.exit id,s.keep X.pin (exitBits xs id)))
 |.ret=>some (.inr (.ret,s.keep X.pin X.ret))
theorem goLp_of {X:Fx} {xs:List (Nat×Nat)} {b:Code} {st:List Kf} {fin:Ex→S→Option β} {s:S} {ex:Ex} {s':S} (h:Lp (roundK X xs b) s=some (ex,s')):goLp X xs b st fin s=applyK X fin st ex s':=by
 unfold goLp;rw[h]
theorem Lp_step {σ α:Type} {f:σ→Option (σ ⊕ α)} {s s':σ} (h:f s=some (.inl s')) {r:α} (h2:Lp f s'=some r):Lp f s=some r:=by
 obtain⟨n,hn⟩:=Lp.of_some h2
 exact Lp.eq_of (n:=n+1) (by simp only[Lp.iter,h,hn])
theorem Lp_exit {σ α:Type} {f:σ→Option (σ ⊕ α)} {s:σ} {r:α} (h:f s=some (.inr r)):Lp f s=some r:=Lp.eq_of (n:=1) (by simp only[Lp.iter,h])
def sub:List Nat→Code→Code
 |[],c=>c
 |i::p,c=>match c with
  |.seq a b=>match i with|0=>sub p a|_=>sub p b
  |.cond _ a b=>match i with|0=>sub p a|_=>sub p b
  |.block _ b=>sub p b
  |.loop b=>sub p b
  |c=>c
def body (fn:Func):Code:=match fn.body with|some c=>c|none=>.skip
def Env.add (E:Env) (f:FuncId) (io:Nat→Bool) (c:{β:Type}→List TV→(List TV→List TV→Option β)→Option β):Env:=
 ⟨fun g args k=>match Nat.beq g f with|true=>c args k|false=>E.c g args k,fun g=>match Nat.beq g f with|true=>io|false=>E.io g⟩
def Env.none:Env:=⟨fun _ _ _=>Option.none,fun _ _=>false⟩
theorem EnvOk.none {gl:Gl} {P:Program}:EnvOk gl P Env.none:=fun _ _ _ _ _ h=>by simp[Env.none]at h
theorem EnvOk.add {gl:Gl} {P:Program} {E:Env} {f:FuncId} {io:Nat→Bool} {c:{β:Type}→List TV→(List TV→List TV→Option β)→Option β} (h:EnvOk gl P E)
  (hc:∀(β:Type) (args:List TV) (k:List TV→List TV→Option β) (r:β),c args k=some r→∃res outs,k res outs=some r∧Valid gl P f args res outs):EnvOk gl P (E.add f io c):=by
 intro β g args k r hr
 simp only[Env.add]at hr
 split at hr
 ·rename_i e
  rw[beq_true]at e
  subst e
  exact hc β args k r hr
 ·exact h β g args k r hr
end
end Go.Cm
namespace Go.Cm
section
variable {gl:Gl} {P:Program} {E:Env}
inductive Atom:D→Value→Prop where
 |int (k:IntKind) (n:Int):Atom (.int k n) (.int k n)
 |bool (b:Bool):Atom (.bool b) (.bool b)
 |str (s:ByteArray):Atom (.str s) (.string s)
inductive Atoms:List TV→List Value→Prop where
 |nil:Atoms [] []
 |cons {t:Bool} {x:D} {u:Value} {xs:List TV} {us:List Value}:Atom x u→Atoms xs us→Atoms (.d t 0 x::xs) (u::us)
theorem Atom.ra {x:D} {u:Value} (h:Atom x u) {H:Hp} {F:Nat→Prop}:RA H F x u∧x.shape=0:=by cases h<;>simp[RA,D.shape]
theorem Atom.eq {x:D} {u v:Value} (h:Atom x u) {H:Hp} {F:Nat→Prop} (k:RA H F x v):v=u:=by cases h<;>simpa[RA]using k
theorem Atoms.rt {xs:List TV} {us:List Value} (h:Atoms xs us) {H:Hp} {F:Fr}:RTs H F xs us []:=by
 induction h with
 |nil=>simp[RTs]
 |cons h _ ih=>simp only[RTs];exact⟨_,_,[],[],rfl,rfl,by simp only[RT];exact⟨trivial,(h.ra (H:=H) (F:=F true)).2,h.ra.1⟩,ih⟩
theorem Atoms.eq {xs:List TV} {us:List Value} (h:Atoms xs us) {H:Hp} {F:Fr} {vs:List Value} {M:List Nat} (k:RTs H F xs vs M):vs=us∧M=[]:=by
 induction h generalizing vs M with
 |nil=>simpa only[RTs]using k
 |cons h _ ih=>
  simp only[RTs]at k
  obtain⟨u,rest,M1,M2,rfl,rfl,h1,h2⟩:=k
  obtain⟨rfl,rfl⟩:=ih h2
  simp only[RT]at h1
  exact⟨by rw[h.eq h1.2.2],by simp[h1.1]⟩
theorem Atoms.io {xs:List TV} {us:List Value} (h:Atoms xs us):ioVals xs us=[]:=by
 induction h with
 |nil=>rfl
 |cons _ _ ih=>simpa[ioVals]using ih
theorem valid_set {f:FuncId} {args res:List TV} {us rs:List Value} (ha:Atoms args us) (hr:Atoms res rs) (h:∀w,(callFunc f us.toArray).run P w=.ok (.value (outVal rs)) w):Valid gl P f args res []:=by
 intro w vs M g hG hrt _ hM
 obtain⟨rfl,rfl⟩:=ha.eq hrt
 unfold Runs
 rw[h w]
 refine⟨rs,[],rfl,⟨RTs.length (hr.rt (H:=hp w) (F:=Fin w [] g)),?_,List.nodup_nil,by simp,Nat.le_refl _,fun _ _ _=>rfl,rfl,rfl,rfl⟩⟩
 rw[List.append_nil,ha.io,List.append_nil]
 exact hr.rt
theorem EnvOk.fn {f:FuncId} {fn:Func} {io:Nat→Bool} {c:{β:Type}→List TV→(List TV→List TV→Option β)→Option β} (h:EnvOk gl P E)
  (hm:P.follows .mixedOrders=true) (hf:P.funcs[f]? =some fn) (hn:(fn.name== "runtime.NumGoroutine")=false)
  (hc:∀(β:Type) (args:List TV) (k:List TV→List TV→Option β) (r:β),c args k=some r→∃res outs,k res outs=some r∧∀{γ:Type} (q:List TV→List TV→Option γ),evalF P E fn args q=q res outs):
  EnvOk gl P (E.add f io c):=
 h.add fun β args k r hr=>by
  obtain⟨res,outs,h1,h2⟩:=hc β args k r hr
  exact⟨res,outs,h1,valid_of h hm hf hn (h2 _)⟩
end
end Go.Cm
namespace Go.Cm
inductive Sc where
 |int (k:IntKind)
 |bool
 |str
 |sl (e:Sc)
 |st (fs:List Sc)
mutual
def Sc.n:Sc→Nat
 |.st fs=>Sc.nL fs
 |.int _=>1
 |.bool=>1
 |.str=>1
 |.sl _=>1
def Sc.nL:List Sc→Nat
 |[]=>0
 |f::fs=>f.n+Sc.nL fs
end
def Sc.sh:Sc→Nat
 |.st fs=>Sc.nL fs+1
 |_=>0
mutual
def Fits:Sc→List D→Prop
 |.int k,ys=>∃n,ys=[.int k n]∧(Lit.int k n).wf=true
 |.bool,ys=>∃b,ys=[.bool b]
 |.str,ys=>∃s:ByteArray,ys=[.str s]∧s.size≤maxLen
 |.sl e,ys=>∃xs,ys=[.sl e.sh xs]∧xs.length≤maxLen∧∀x∈xs,x.shape=e.sh∧Fits e x.cells
 |.st fs,ys=>FitsL fs ys
def FitsL:List Sc→List D→Prop
 |[],ys=>ys=[]
 |f::fs,ys=>∃a b,ys=a++b∧Fits f a∧FitsL fs b
end
mutual
def Sc.okB (P:Program):Sc→TypeId→Bool
 |.int k,t=>match P.underlying t with|some (.int j)=>decide (j=k)|_=>false
 |.bool,t=>match P.underlying t with|some .bool=>true|_=>false
 |.str,t=>match P.underlying t with|some .string=>true|_=>false
 |.sl e,t=>match P.underlying t with|some (.slice u)=>e.okB P u&&Nat.beq (P.cellsOf u) e.n&&Nat.blt 0 e.n|_=>false
 |.st fs,t=>match P.underlying t with|some (.struct gs)=>Nat.beq (P.cellsOf t) (Sc.nL fs)&&Sc.okL P fs gs.toList 0|_=>false
def Sc.okL (P:Program):List Sc→List Field→Nat→Bool
 |[],gs,_=>match gs with|[]=>true|_=>false
 |f::fs,gs,o=>match gs with
  |g::gs=>Nat.beq g.offset o&&Nat.beq (P.cellsOf g.type) f.n&&f.okB P g.type&&Sc.okL P fs gs (o+f.n)
  |[]=>false
end
def mkEl (e:Sc) (ys:List D):D:=match e with|.st _=>.ag ys|_=>ys.headD .nilp
theorem cells_one {y z:D} (hs:y.shape=0) (h:y.cells=[z]):y=z:=by
 cases y<;>simp only[D.cells,List.cons.injEq,and_true]at h<;>first|exact h|(simp[D.shape]at hs)
theorem Fits.of_sl {e:Sc} {y:D} (hs:y.shape=(Sc.sl e).sh) (h:Fits (.sl e) y.cells):∃xs,y=.sl e.sh xs∧xs.length≤maxLen∧∀x∈xs,x.shape=e.sh∧Fits e x.cells:=by
 obtain⟨xs,e1,h1,h2⟩:=h
 exact⟨xs,cells_one hs e1,h1,h2⟩
theorem Fits.of_int {k:IntKind} {y:D} (hs:y.shape=(Sc.int k).sh) (h:Fits (.int k) y.cells):∃n,y=.int k n∧(Lit.int k n).wf=true:=by
 obtain⟨n,e1,h1⟩:=h
 exact⟨n,cells_one hs e1,h1⟩
section
variable {H:Type} {enc:TypeId×Value→H} {P:Program} {w:World} {base:Nat} {sp:Nat→Bool}
abbrev Fw (w:World):Nat→Prop:=fun b=>b<w.heap.size
theorem ra_one {H:Hp} {F:Nat→Prop} {x:D} {u:Value} (h:RA H F x u) (hs:x.shape=0):u.cells= #[u]:=by
 cases x<;>simp only[RA]at h<;>try (first|(subst h;rfl)|(obtain⟨_,rfl,_⟩:=h;rfl)|(obtain⟨_,_,rfl,_⟩:=h;rfl)|(obtain⟨_,_,_,_,_,rfl,_⟩:=h;rfl))
 simp[D.shape]at hs
theorem Fits.len' (τ:Sc):∀ys:List D,Fits τ ys→ys.length=τ.n:=by
 refine Sc.rec (motive_1:=fun τ=>∀ys,Fits τ ys→ys.length=τ.n) (motive_2:=fun fs=>∀ys,FitsL fs ys→ys.length=Sc.nL fs) ?_ ?_ ?_ ?_ ?_ ?_ ?_ τ
 ·rintro k ys ⟨n,rfl,_⟩;rfl
 ·rintro ys ⟨b,rfl⟩;rfl
 ·rintro ys ⟨s,rfl,_⟩;rfl
 ·rintro e _ ys ⟨xs,rfl,_⟩;rfl
 ·intro fs ih ys h;exact ih ys h
 ·intro ys h;simp only[FitsL]at h;subst h;rfl
 ·rintro f fs ih1 ih2 ys ⟨a,b,rfl,h1,h2⟩
  simp only[List.length_append,Sc.nL,ih1 a h1,ih2 b h2]
theorem Fits.len {τ:Sc} {ys:List D} (h:Fits τ ys):ys.length=τ.n:=Fits.len' τ ys h
theorem mkEl_shape {e:Sc} {ys:List D} (h:Fits e ys) (hs:∀y∈ys,y.shape=0):(mkEl e ys).shape=e.sh∧(mkEl e ys).cells=ys:=by
 have hl:=Fits.len h
 cases e with
 |st fs=>simp only[mkEl,D.shape,Sc.sh,D.cells];exact⟨by rw[hl];rfl,trivial⟩
 |int k=>
  obtain⟨n,rfl,_⟩:=h;exact⟨rfl,rfl⟩
 |bool=>obtain⟨b,rfl⟩:=h;exact⟨rfl,rfl⟩
 |str=>obtain⟨s,rfl,_⟩:=h;exact⟨rfl,rfl⟩
 |sl e=>obtain⟨xs,rfl,_⟩:=h;exact⟨rfl,rfl⟩
theorem mkEl_ra {e:Sc} {ys:List D} (h:Fits e ys) (hs:∀y∈ys,y.shape=0) {Hh:Hp} {F:Nat→Prop} {cs:List Value} (hr:RL Hh F ys cs):∃u,RA Hh F (mkEl e ys) u∧u.cells.toList=cs:=by
 have one:∀y,ys=[y]→mkEl e ys=y→∃u,RA Hh F (mkEl e ys) u∧u.cells.toList=cs:=by
  rintro y rfl he
  simp only[RL]at hr
  obtain⟨u,r,rfl,hu,rfl⟩:=hr
  exact⟨u,by rw[he];exact hu,by rw[ra_one hu (hs y (.head _))]⟩
 cases e with
 |st fs=>exact⟨.agg cs.toArray,by simp only[mkEl,RA];exact⟨cs,rfl,hr,hs⟩,by simp[Value.cells]⟩
 |int k=>obtain⟨n,rfl,_⟩:=h;exact one _ rfl rfl
 |bool=>obtain⟨b,rfl⟩:=h;exact one _ rfl rfl
 |str=>obtain⟨s,rfl,_⟩:=h;exact one _ rfl rfl
 |sl e=>obtain⟨xs,rfl,_⟩:=h;exact one _ rfl rfl
theorem open_elems {e:Sc} {a:Addr} {z:Nat} (hz:0<z) (he:e.n=z) {b:Nat} (hb:a.block=b) {off0:Nat} (hoff:a.off=off0) {cs:Array Value} {ety:TypeId} {fr:Nat×Nat} (hcs:w.heap[b]? =some (.cells cs ety fr)):
  ∀(len i0:Nat),(∀i,i0≤i→i<i0+len→∃ci ys,(∀r,r<z→cs[off0+i*z+r]? =ci[r]?)∧ci.length=z∧Fits e ys∧RL (hp w) (Fw w) ys ci∧∀y∈ys,y.shape=0)→
   ∃xs us,xs.length=len∧RF (hp w) (Fw w) xs us∧(∀x∈xs,x.shape=e.sh∧Fits e x.cells)∧us.length=len*z∧∀(j:Nat) u,us[j]? =some u→cs[off0+i0*z+j]? =some u
 |0,i0,_=>⟨[],[],rfl,by simp[RF],by simp,by simp,by simp⟩
 |len+1,i0,h=>by
  obtain⟨ci,ys,h1,h2,h3,h4,h5⟩:=h i0 (Nat.le_refl _) (by omega)
  obtain⟨xs,us,g1,g2,g3,g4,g5⟩:=open_elems hz he hb hoff hcs len (i0+1) fun i hi hlt=>h i (by omega) (by omega)
  obtain⟨u,k1,k2⟩:=mkEl_ra h3 h5 h4
  obtain⟨q1,q2⟩:=mkEl_shape h3 h5
  refine⟨mkEl e ys::xs,ci++us,by simp[g1],?_,?_,?_,?_⟩
  ·simp only[RF];exact⟨u,us,by rw[k2],k1,g2⟩
  ·intro x hx
   rcases List.mem_cons.1 hx with rfl|hx
   ·exact⟨q1,by rw[q2];exact h3⟩
   ·exact g3 x hx
  ·rw[List.length_append,h2,g4,Nat.add_mul,Nat.one_mul];omega
  ·intro j v hj
   by_cases hjz:j<z
   ·rw[List.getElem?_append_left (by omega)]at hj
    rw[h1 j hjz];exact hj
   ·rw[List.getElem?_append_right (by omega)]at hj
    have:=g5 _ v hj
    rw[Nat.add_mul,Nat.one_mul]at this
    rw[←this]
    congr 1;omega
theorem cell_cells {a:Addr} {v:Value} (h:w.cell? a=some v):a.spot=none∧∃cs e fr,w.heap[a.block]? =some (.cells cs e fr)∧cs[a.off]? =some v:=by
 unfold World.cell? at h
 split at h
 ·rename_i cs e fr hc
  split at h
  ·cases h
  ·rename_i hs
   exact⟨by simpa using hs,cs,e,fr,hc,h⟩
 ·cases h
theorem add_at {a:Addr} (h:a.spot=none) (n:Nat):a.add n=⟨a.block,a.off+n,none⟩:=by
 obtain⟨b,o,s⟩:=a
 simp only at h
 subst h
 unfold Addr.add
 by_cases hn:n=0<;>simp[hn]
theorem open_sc:∀(τ:Sc) (t:TypeId) (cs:List Value) (fuel:Nat) (x:DataW H×List MemPlace),τ.okB P t=true→DataW.trod enc P w base sp true fuel t cs=some x→
  cs.length=τ.n∧∃ys,Fits τ ys∧RL (hp w) (Fw w) ys cs∧∀y∈ys,y.shape=0:=by
 refine Sc.rec (motive_1:=fun τ=>∀(t:TypeId) (cs:List Value) (fuel:Nat) (x:DataW H×List MemPlace),τ.okB P t=true→DataW.trod enc P w base sp true fuel t cs=some x→cs.length=τ.n∧∃ys,Fits τ ys∧RL (hp w) (Fw w) ys cs∧∀y∈ys,y.shape=0)
  (motive_2:=fun fs=>∀(gs:List Field) (o:Nat) (cs:List Value) (n:Nat),Sc.okL P fs gs o=true→(∀(i:Nat) g,gs[i]? =some g→∃x:DataW H×List MemPlace,DataW.trod enc P w base sp true n g.type ((cs.drop g.offset).take (P.cellsOf g.type))=some x)→
   ∃ys,FitsL fs ys∧RL (hp w) (Fw w) ys ((cs.drop o).take (Sc.nL fs))∧∀y∈ys,y.shape=0) ?_ ?_ ?_ ?_ ?_ ?_ ?_
 ·intro k t cs fuel x hok h
  simp only[Sc.okB]at hok
  split at hok
  ·rename_i j hu
   have:j=k:=by simpa using hok
   subst this
   obtain⟨n,rfl,_,hw⟩:=DataW.trod_int hu h
   exact⟨rfl,[.int j n],⟨n,rfl,hw⟩,by simp[RL,RA],by simp[D.shape]⟩
  ·cases hok
 ·intro t cs fuel x hok h
  simp only[Sc.okB]at hok
  split at hok
  ·rename_i hu
   obtain⟨b,rfl,_⟩:=DataW.trod_bool hu h
   exact⟨rfl,[.bool b],⟨b,rfl⟩,by simp[RL,RA],by simp[D.shape]⟩
  ·cases hok
 ·intro t cs fuel x hok h
  simp only[Sc.okB]at hok
  split at hok
  ·rename_i hu
   obtain⟨s,rfl,_,hs⟩:=DataW.trod_string hu h
   exact⟨rfl,[.str s],⟨s,rfl,hs⟩,by simp[RL,RA],by simp[D.shape]⟩
  ·cases hok
 ·intro e ih t cs fuel x hok h
  simp only[Sc.okB]at hok
  split at hok
  ·rename_i u hu
   simp only[Bool.and_eq_true,Nat.beq_eq,Nat.blt_eq]at hok
   obtain⟨⟨hok,hcu⟩,hpos⟩:=hok
   rcases DataW.trod_slice hu h with⟨rfl,_⟩|⟨a,len,cap,elems,rest,n,_,rfl,_,_,hlc,hcap,hel,hat,_,_⟩
   ·exact⟨rfl,[.sl e.sh []],⟨[],rfl,by simp,by simp⟩,by simp only[RL,RA];exact⟨_,[],rfl,⟨none,0,rfl,by simp,by simp,by simp,[],by simp[RF],by simp⟩,rfl⟩,by simp[D.shape]⟩
   ·have each:∀i,i<len→∃ci ys,(∀r,r<e.n→w.cell? ((a.add (i*e.n)).add r)=ci[r]?)∧ci.length=e.n∧Fits e ys∧RL (hp w) (Fw w) ys ci∧∀y∈ys,y.shape=0:=by
     intro i hi
     have h1:=hat i hi
     rw[List.getElem?_eq_getElem (by omega),Option.bind_eq_some_iff]at h1
     obtain⟨ci,hc,ht⟩:=h1
     obtain⟨_,h2,h3⟩:=World.cells?_some hc
     obtain⟨h4,ys,h5,h6,h7⟩:=ih u ci n _ hok ht
     rw[hcu]at h2 h3
     exact⟨ci,ys,h3,h2,h5,h6,h7⟩
    by_cases hl0:len=0
    ·subst hl0
     refine⟨rfl,[.sl e.sh []],⟨[],rfl,by simp,by simp⟩,?_,by simp[D.shape]⟩
     simp only[RL,RA]
     exact⟨_,[],rfl,⟨some a,cap,rfl,by simp,by simp,by simp,[],by simp[RF],by simp⟩,rfl⟩
    ·obtain⟨c0,_,q1,q2,_⟩:=each 0 (by omega)
     have q3:=q1 0 hpos
     rw[List.getElem?_eq_getElem (by omega)]at q3
     rw[Nat.zero_mul]at q3
     have e0:(a.add 0).add 0=a:=by simp[Addr.add]
     rw[e0]at q3
     obtain⟨hs,cells,ety,fr,hb,_⟩:=cell_cells q3
     have key:∀i r,i<len→r<e.n→w.cell? ((a.add (i*e.n)).add r)=cells[a.off+i*e.n+r]? :=by
      intro i r hi hr
      rw[add_at hs,add_at (by rfl)]
      simp only[World.cell?,hb,Option.isSome_none,Bool.false_eq_true,if_false]
     obtain⟨xs,us,g1,g2,g3,g4,g5⟩:=open_elems (w:=w) (e:=e) hpos rfl rfl rfl hb len 0 fun i _ hi=>by
      obtain⟨ci,ys,p1,p2,p3,p4,p5⟩:=each i (by omega)
      exact⟨ci,ys,fun r hr=>by rw[←key i r (by omega) hr];exact p1 r hr,p2,p3,p4,p5⟩
     refine⟨rfl,[.sl e.sh xs],⟨xs,rfl,by omega,g3⟩,?_,by simp[D.shape]⟩
     simp only[RL,RA]
     refine⟨_,[],rfl,⟨some a,cap,by rw[g1],by omega,by simp,fun x hx=>(g3 x hx).1,us,g2,fun _=>⟨a,rfl,(Array.getElem?_eq_some_iff.1 hb).1,hs,cells,ety,fr,hb,fun j u hj=>?_⟩⟩,rfl⟩
     have:=g5 j u hj
     rwa [Nat.zero_mul,Nat.add_zero]at this
  ·cases hok
 ·intro fs ih t cs fuel x hok h
  simp only[Sc.okB]at hok
  split at hok
  ·rename_i gs hu
   simp only[Bool.and_eq_true,Nat.beq_eq]at hok
   obtain⟨xs,n,_,_,hl,hxl,hat⟩:=DataW.trod_struct hu h
   obtain⟨ys,h1,h2,h3⟩:=ih gs.toList 0 cs n hok.2 fun i g hg=>by
    have hi:=hat i g (by simpa using hg)
    have hlt:i<gs.size:=by simpa using(List.getElem?_eq_some_iff.1 hg).1
    rw[List.getElem?_eq_getElem (by omega)]at hi
    exact⟨_,hi⟩
   rw[List.drop_zero,List.take_of_length_le (by rw[hl,hok.1];exact Nat.le_refl _)]at h2
   exact⟨hl.trans hok.1,ys,h1,h2,h3⟩
  ·cases hok
 ·intro gs o cs n hok _
  exact⟨[],rfl,by simp[RL,Sc.nL],by simp⟩
 ·intro f fs ih1 ih2 gs o cs n hok hat
  cases gs with
  |nil=>simp[Sc.okL]at hok
  |cons g gs=>
   simp only[Sc.okL,Bool.and_eq_true,Nat.beq_eq]at hok
   obtain⟨⟨⟨h1,h2⟩,h3⟩,h4⟩:=hok
   obtain⟨x,hx⟩:=hat 0 g rfl
   obtain⟨k1,ys,k2,k3,k4⟩:=ih1 g.type _ n x h3 hx
   obtain⟨zs,l1,l2,l3⟩:=ih2 gs (o+f.n) cs n h4 fun i g' hg=>hat (i+1) g' (by simpa using hg)
   rw[h1,h2]at k3
   refine⟨ys++zs,⟨ys,zs,rfl,k2,l1⟩,?_,fun y hy=>(List.mem_append.1 hy).elim (k4 y) (l3 y)⟩
   have e:(cs.drop o).take (Sc.nL (f::fs))=(cs.drop o).take f.n++(cs.drop (o+f.n)).take (Sc.nL fs):=by
    simp only[Sc.nL]
    rw[List.take_add,List.drop_drop]
   rw[e]
   exact RL.append k3 l2
theorem open_in {τ:Sc} {t:TypeId} {v:Value} {d:DataW H} {ps:List MemPlace} {w':World} {r:Reach} {b0:Nat} (hok:τ.okB P t=true) (hw:Value.okWide P w' r b0 t v) (h:DataW.Trod enc P w base sp true t v d ps):
  ∃y,RA (hp w) (Fw w) y v∧y.shape=τ.sh∧Fits τ y.cells:=by
 obtain⟨fuel,h⟩:=h
 obtain⟨h1,ys,h2,h3,h4⟩:=open_sc τ t _ fuel _ hok h
 have one:τ.sh=0→v.cells= #[v]→∃y,RA (hp w) (Fw w) y v∧y.shape=τ.sh∧Fits τ y.cells:=by
  intro h0 hv
  rw[hv]at h3
  have hl:=RL.length h3
  match ys,hl with
  |[y],_=>
   simp only[RL]at h3
   obtain⟨u,rr,e,hu,_⟩:=h3
   cases e
   have hs:=h4 y (.head _)
   have hc:y.cells=[y]:=by cases y<;>first|rfl|(simp[D.shape]at hs)
   exact⟨y,hu,by rw[hs,h0],by rw[hc];exact h2⟩
 cases τ with
 |int k=>
  simp only[Sc.okB]at hok
  split at hok
  ·rename_i hu;obtain⟨n,rfl⟩:=WideShapes.okWide_int hu hw;exact one rfl rfl
  ·cases hok
 |bool=>
  simp only[Sc.okB]at hok
  split at hok
  ·rename_i hu;obtain⟨n,rfl⟩:=WideShapes.okWide_bool hu hw;exact one rfl rfl
  ·cases hok
 |str=>
  simp only[Sc.okB]at hok
  split at hok
  ·rename_i hu;obtain⟨n,rfl⟩:=WideShapes.okWide_string hu hw;exact one rfl rfl
  ·cases hok
 |sl e=>
  simp only[Sc.okB]at hok
  split at hok
  ·rename_i hu;obtain⟨a,len,cap,rfl⟩:=WideShapes.okWide_slice hu hw;exact one rfl rfl
  ·cases hok
 |st fs=>
  simp only[Sc.okB]at hok
  split at hok
  ·rename_i gs hu
   simp only[Value.okWide,hu]at hw
   obtain⟨cs,rfl,_⟩:=hw
   refine⟨.ag ys,?_,?_,h2⟩
   ·simp only[RA];exact⟨cs.toList,by simp,h3,h4⟩
   ·simp only[D.shape,Sc.sh];rw[Fits.len h2];rfl
  ·cases hok
end
end Go.Cm
namespace Go.Cm
open Go.RowKit
section
variable {P:Program} {gl:Gl}
inductive ArgsD (W:World):List TV→List Value→Prop where
 |nil:ArgsD W [] []
 |cons {x:D} {u:Value} {sh:Nat} {xs:List TV} {us:List Value}:RA (hp W) (Fw W) x u→x.shape=sh→ArgsD W xs us→ArgsD W (.d true sh x::xs) (u::us)
theorem ArgsD.rt {W:World} {xs:List TV} {us:List Value} (h:ArgsD W xs us):RTs (hp W) (Fin W [] (fun _=>True)) xs us []:=by
 induction h with
 |nil=>simp[RTs]
 |cons h hs _ ih=>
  simp only[RTs]
  refine⟨_,_,[],[],rfl,rfl,?_,ih⟩
  simp only[RT]
  exact⟨trivial,hs,RA.mono (fun b hb=>⟨⟨hb,by simp,rfl,trivial⟩,rfl⟩) _ _ h⟩
theorem ArgsD.als {W:World} {xs:List TV} {us:List Value} (h:ArgsD W xs us) {H:Hp} {F:Fr}:Als H F xs us:=by
 have no:∀(j:Nat) t b f avs,xs[j]? ≠some (.fc t b f avs):=by
  induction h with
  |nil=>intro j t b f avs e;simp at e
  |cons h hs _ ih=>
   intro j t b f avs e
   cases j with
   |zero=>simp at e
   |succ j=>exact ih j t b f avs (by simpa using e)
 exact fun j t b f avs e=>(no j t b f avs e).elim
theorem calls_of_runs' {f:FuncId} {fn:Func} {args:Array Value} {w:World} {R:Ending→World→Prop} (hf:P.funcs[f]? =some fn) (hn:(fn.name== "runtime.NumGoroutine")=false) (hb:fn.body.isSome=true)
  (h:Runs P f args w R):Calls P f args w R:=by
 have hb':fn.body.isNone=false:=by cases hx:fn.body<;>simp[hx]at hb ⊢
 have e:(callFunc f args).run P w=.ok (.enter f args) w:=by
  simp only[callFunc,Sem.run_bind,run_program,Result.andThen,hf,hn,hb',Bool.false_eq_true,if_false,Sem.run_pure]
 unfold Runs at h
 rw[e]at h
 exact h
theorem calls_true' {f:FuncId} {fn:Func} {args:List TV} {us:List Value} (hf:P.funcs[f]? =some fn) (hn:(fn.name== "runtime.NumGoroutine")=false) (hb:fn.body.isSome=true)
  (hv:Valid gl P f args [.d false 0 (.bool true)] []) {W:World} (hG:gl.G W) (hr:ArgsD W args us):
  Calls P f us.toArray W fun e W'=>e=.returned (.bool true)∧Below W.heap.size W W':=by
 have h:=hv W us [] (fun _=>True) ⟨hG,fun _ _=>by simp⟩ hr.rt hr.als List.nodup_nil
 refine(calls_of_runs' hf hn hb h).mono fun e W'=>?_
 rintro⟨rs,M',rfl,B⟩
 have hl:=B.len
 have hrt:=B.rt
 match rs,hl with
 |[r],_=>
  rw[List.append_nil,List.cons_append,RTs]at hrt
  obtain⟨u,rest,M1,M2,e1,_,h1,_⟩:=hrt
  simp only[RT,RA]at h1
  cases e1
  rw[h1.2.2]
  exact⟨rfl,B.os,B.tape,B.output,B.size,fun b hb=>B.old b hb (by simp)⟩
theorem shut_arg {H:Type} {enc:TypeId×Value→H} {t:TypeId} {W W':World} {v:Value} {d:DataW H} {ps:List MemPlace} (hl:laidOutB P=true) (hr:P.readableRec t=true) (hrow:t<P.types.size)
  (h:DataW.Trod enc P W 0 (fun _=>true) true t v d ps) (hb:Below W.heap.size W W'):DataW.Trod enc P W' 0 (fun b=>decide (b<W.heap.size)) true t v d ps:=by
 refine Below.trod hl hr hrow h hb fun x hx=>?_
 obtain⟨fuel,hf⟩:=h
 exact DataW.trod_lt fuel t _ _ hf x hx
end
end Go.Cm
namespace Go.Sc
def ltB (b:Option Nat) (m:Nat):Prop:=match b with|none=>True|some n=>m<n
instance (b:Option Nat) (m:Nat):Decidable (ltB b m):=by unfold ltB;cases b<;>infer_instance
end Go.Sc
namespace Go.Cm
theorem EnvOk.lims {gl:Gl} {P:Program} {E:Env} {En:Nat→Env} (h0:EnvOk gl P (En 0)) (hs:∀n,EnvOk gl P (En n)→EnvOk gl P (En (n+1)))
  (hc:∀(β:Type) (g:FuncId) (args:List TV) (k:List TV→List TV→Option β) (r:β),E.c g args k=some r→∃n,(En n).c g args k=some r):EnvOk gl P E:=by
 have h:∀n,EnvOk gl P (En n):=fun n=>by
  induction n with
  |zero=>exact h0
  |succ n ih=>exact hs n ih
 intro β g args k r hr
 obtain⟨n,hn⟩:=hc β g args k r hr
 exact h n β g args k r hn
theorem EnvOk.rec1 {gl:Gl} {P:Program} {E:Env} {f:FuncId} {io:Nat→Bool} (c:Option Nat→{β:Type}→List TV→(List TV→List TV→Option β)→Option β) (hE:EnvOk gl P E)
  (h0:∀(β:Type) (args:List TV) (k:List TV→List TV→Option β) (r:β),c (some 0) args k=some r→False)
  (hs:∀n,EnvOk gl P (E.add f io (c (some n)))→∀(β:Type) (args:List TV) (k:List TV→List TV→Option β) (r:β),c (some (n+1)) args k=some r→∃res outs,k res outs=some r∧Valid gl P f args res outs)
  (hl:∀(β:Type) (args:List TV) (k:List TV→List TV→Option β) (r:β),c Option.none args k=some r→∃n,c (some n) args k=some r):EnvOk gl P (E.add f io (c Option.none)):=by
 refine EnvOk.lims (En:=fun n=>E.add f io (c (some n))) (hE.add fun β args k r hr=>(h0 β args k r hr).elim) (fun n ih=>hE.add fun β args k r hr=>hs n ih β args k r hr) fun β g args k r hr=>?_
 simp only[Env.add]at hr ⊢
 cases hg:Nat.beq g f with
 |false=>simp only[hg]at hr ⊢;exact⟨0,hr⟩
 |true=>simp only[hg]at hr ⊢;exact hl β args k r hr
end Go.Cm

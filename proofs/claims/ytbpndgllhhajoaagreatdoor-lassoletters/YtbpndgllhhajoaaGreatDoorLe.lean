/- Truths of a formula over a lasso: what it says of the word. -/
import Derived.Test.YtbpndgllhhajoaaGreatDoorLd
import Derived.Test.YtbpndgllhhajoaaGreatDoorPe
set_option linter.unusedVariables false
set_option linter.unusedSimpArgs false
namespace Go.Sc
open Go Go.Cm
open Go.Sd (wrap_id)

section
variable {ns al : List D} {n bk : Nat} {a : Nat → Int}
structure Wd (al : List D) (n bk : Nat) (a : Nat → Int) : Prop where
  len : al.length = n
  bk : bk < n
  big : n ≤ 34359738368
  at' : ∀ i, i < n → al[i]? = some (.int .i64 (a i))
structure Ts (n : Nat) (l : List Bool) (f : Nat → Bool) : Prop where
  len : l.length = n
  at' : ∀ i, i < n → l.getD i false = f i
def lbAt (ns : List D) (L : Nat → Int) (s : ByteArray) (k : Nat) : Prop := ∃ i : Int, 0 ≤ i ∧ idxN s ns 0 = some i ∧ bitA (L k) i = true
def lbOk (ns : List D) (s : ByteArray) : Prop := ∃ i : Int, 0 ≤ i ∧ idxN s ns 0 = some i
end
end Go.Sc

namespace Go.Sc
open Go Go.Cm Go.Proofs

def LW (l : List D) : Prop := ∀ d ∈ l, ∃ v : Int, d = .int .i64 v ∧ 0 ≤ v ∧ v < 8
def aD (l : List D) (i : Nat) : Int := match l[i]? with | some (.int .i64 v) => v | _ => 0
def strm (st lp : List D) (k : Nat) : Int := aD (st ++ lp) (posN (st.length + lp.length) st.length k)
theorem aD_app_l {a b : List D} {i : Nat} (h : i < a.length) : aD (a ++ b) i = aD a i := by unfold aD; rw [List.getElem?_append_left h]
theorem aD_app_r {a b : List D} {i : Nat} (h : a.length ≤ i) : aD (a ++ b) i = aD b (i - a.length) := by unfold aD; rw [List.getElem?_append_right h]
end Go.Sc

/- The normal form of formulas, purely (the package nnf). -/
import Derived.Test.YtbpndgllhhajoaaDoorPd
set_option linter.unusedVariables false
set_option linter.unusedSimpArgs false
namespace Go.Sc
open Go Go.Cm

def oTrue : T8 := [116, 114, 117, 101]
def oFalse : T8 := [102, 97, 108, 115, 101]
def oLabel : T8 := [108, 97, 98, 101, 108]
def kidsN (op : ByteArray) : Int :=
  if (op.toList == [116, 114, 117, 101]) = true then 0 else if (op.toList == [102, 97, 108, 115, 101]) = true then 0 else if (op.toList == [108, 97, 98, 101, 108]) = true then 0
  else if (op.toList == [33]) = true then 1 else if (op.toList == [88]) = true then 1 else if (op.toList == [70]) = true then 1 else if (op.toList == [71]) = true then 1
  else if (op.toList == [38]) = true then 2 else if (op.toList == [124]) = true then 2 else if (op.toList == [61, 62]) = true then 2
  else if (op.toList == [85]) = true then 2 else if (op.toList == [87]) = true then 2 else if (op.toList == [82]) = true then 2 else -1
def dualB (op : ByteArray) : ByteArray :=
  if (op.toList == [116, 114, 117, 101]) = true then ⟨#[102, 97, 108, 115, 101]⟩ else if (op.toList == [102, 97, 108, 115, 101]) = true then ⟨#[116, 114, 117, 101]⟩
  else if (op.toList == [38]) = true then ⟨#[124]⟩ else if (op.toList == [124]) = true then ⟨#[38]⟩
  else if (op.toList == [85]) = true then ⟨#[82]⟩ else if (op.toList == [82]) = true then ⟨#[85]⟩ else op
def constB (op : ByteArray) : Bool := op.toList == [116, 114, 117, 101] || op.toList == [102, 97, 108, 115, 101]
mutual
def formF : Fm → Bool
  | .mk op _ ks _ => kidsN op == (ks.length : Int) && formL ks
def formL : List Fm → Bool
  | [] => true
  | f :: fs => formF f && formL fs
end
mutual
def isF : Fm → Bool
  | .mk op _ ks _ =>
    if (op.toList == [70]) = true then false else if (op.toList == [71]) = true then false else if (op.toList == [87]) = true then false else if (op.toList == [61, 62]) = true then false
    else if (op.toList == [33]) = true then (match ks with | [.mk o2 _ k2 _] => o2.toList == [108, 97, 98, 101, 108] && k2.isEmpty | _ => false)
    else kidsN op == (ks.length : Int) && isL ks
def isL : List Fm → Bool
  | [] => true
  | f :: fs => isF f && isL fs
end
end Go.Sc

namespace Go.Sd
open Go Go.Cm Go.Proofs Go.Sc
set_option maxRecDepth 100000
def R3 : Env := R2 (none, none)
def cKids {β : Type} (args : List TV) (k : List TV → List TV → Option β) : Option β :=
  match args with
  | [.d true 0 (.str op)] => k [.d false 0 (.int .i64 (kidsN op))] []
  | _ => none
def R4 : Env := R3.add 58 io0 cKids
def cForm {β : Type} (b : Option Nat) (args : List TV) (k : List TV → List TV → Option β) : Option β :=
  match args with
  | [.d true 5 x] => match ofD x with
    | some f => chkK (bd b f) (k [.d false 0 (.bool (formF f))] [])
    | none => none
  | _ => none
def R5 (b : Option Nat) : Env := R4.add 59 io0 (cForm b)
def cIsN {β : Type} (b : Option Nat) (args : List TV) (k : List TV → List TV → Option β) : Option β :=
  match args with
  | [.d true 5 x] => match ofD x with
    | some f => chkK (bd b f) (k [.d false 0 (.bool (isF f))] [])
    | none => none
  | _ => none
def R6 (b : Option Nat) : Env := (R5 none).add 26 io0 (cIsN b)
def cConst {β : Type} (args : List TV) (k : List TV → List TV → Option β) : Option β :=
  match args with
  | [.d true 5 (.ag [.str op, .str nm, .sl 5 ks, .int .i64 p])] => k [.d false 0 (.bool (constB op))] []
  | _ => none
def cPlain {β : Type} (args : List TV) (k : List TV → List TV → Option β) : Option β :=
  match args with
  | [.d true 0 (.str op)] => k [.d true 5 (fmD op ⟨#[]⟩ [] 0)] []
  | _ => none
def cNode {β : Type} (args : List TV) (k : List TV → List TV → Option β) : Option β :=
  match args with
  | [.d true 0 (.str op), .d true 0 (.sl 5 ks)] => k [.d true 5 (fmD op ⟨#[]⟩ ks 0)] []
  | _ => none
def cDual {β : Type} (args : List TV) (k : List TV → List TV → Option β) : Option β :=
  match args with
  | [.d true 0 (.str op)] => k [.d false 0 (.str (dualB op))] []
  | _ => none
def cSpent {β : Type} (args : List TV) (k : List TV → List TV → Option β) : Option β :=
  match args with
  | [.ob true [.d false 0 (.int .i64 l)]] => chkK (-1099511627776 ≤ l ∧ l ≤ 1099511627776) (k [.d false 0 (.bool (decide (l - 1 < 0)))] [.ob true [.d false 0 (.int .i64 (l - 1))]])
  | _ => none
def R7 : Env := (R6 none).add 89 io0 cConst
def R8 : Env := R7.add 88 io0 cPlain
def R9 : Env := R8.add 84 io0 cNode
def R10 : Env := R9.add 83 io0 cDual
def R11 : Env := R10.add 82 io1 cSpent
end Go.Sd

namespace Go.Sd
open Go Go.Cm Go.Proofs Go.Sc
set_option maxRecDepth 100000
namespace K58
/- rounds of the search: 1 -/
noncomputable def X : Fx := ⟨Tryd.prog, R3, 4, 1⟩
theorem start {β : Type} (op : ByteArray) (k : List TV → List TV → Option β) : evalF Tryd.prog R3 Tryd.f58 [.d true 0 (.str op)] k =
   if (ByteArray.toList op == [116, 114, 117, 101]) = true then
   if (ByteArray.toList op == [116, 114, 117, 101]) = true then k [.d false 0 (.int .i64 0)] []
   else
    if (ByteArray.toList op == [33]) = true then
     if (ByteArray.toList op == [33]) = true then k [.d false 0 (.int .i64 1)] []
     else
      if (ByteArray.toList op == [38]) = true then
       if (ByteArray.toList op == [38]) = true then k [.d false 0 (.int .i64 2)] []
       else
        if (ByteArray.toList op == [85]) = true then
         if (ByteArray.toList op == [85]) = true then k [.d false 0 (.int .i64 2)] [] else k [.d false 0 (.int .i64 (-1 : Int))] []
        else
         if (ByteArray.toList op == [87]) = true then
          if (ByteArray.toList op == [87]) = true then k [.d false 0 (.int .i64 2)] [] else k [.d false 0 (.int .i64 (-1 : Int))] []
         else if (ByteArray.toList op == [82]) = true then k [.d false 0 (.int .i64 2)] [] else k [.d false 0 (.int .i64 (-1 : Int))] []
      else
       if (ByteArray.toList op == [124]) = true then
        if (ByteArray.toList op == [124]) = true then k [.d false 0 (.int .i64 2)] []
        else
         if (ByteArray.toList op == [85]) = true then
          if (ByteArray.toList op == [85]) = true then k [.d false 0 (.int .i64 2)] [] else k [.d false 0 (.int .i64 (-1 : Int))] []
         else
          if (ByteArray.toList op == [87]) = true then
           if (ByteArray.toList op == [87]) = true then k [.d false 0 (.int .i64 2)] [] else k [.d false 0 (.int .i64 (-1 : Int))] []
          else if (ByteArray.toList op == [82]) = true then k [.d false 0 (.int .i64 2)] [] else k [.d false 0 (.int .i64 (-1 : Int))] []
       else
        if (ByteArray.toList op == [61, 62]) = true then k [.d false 0 (.int .i64 2)] []
        else
         if (ByteArray.toList op == [85]) = true then
          if (ByteArray.toList op == [85]) = true then k [.d false 0 (.int .i64 2)] [] else k [.d false 0 (.int .i64 (-1 : Int))] []
         else
          if (ByteArray.toList op == [87]) = true then
           if (ByteArray.toList op == [87]) = true then k [.d false 0 (.int .i64 2)] [] else k [.d false 0 (.int .i64 (-1 : Int))] []
          else if (ByteArray.toList op == [82]) = true then k [.d false 0 (.int .i64 2)] [] else k [.d false 0 (.int .i64 (-1 : Int))] []
    else
     if (ByteArray.toList op == [88]) = true then
      if (ByteArray.toList op == [88]) = true then k [.d false 0 (.int .i64 1)] []
      else
       if (ByteArray.toList op == [38]) = true then
        if (ByteArray.toList op == [38]) = true then k [.d false 0 (.int .i64 2)] []
        else
         if (ByteArray.toList op == [85]) = true then
          if (ByteArray.toList op == [85]) = true then k [.d false 0 (.int .i64 2)] [] else k [.d false 0 (.int .i64 (-1 : Int))] []
         else
          if (ByteArray.toList op == [87]) = true then
           if (ByteArray.toList op == [87]) = true then k [.d false 0 (.int .i64 2)] [] else k [.d false 0 (.int .i64 (-1 : Int))] []
          else if (ByteArray.toList op == [82]) = true then k [.d false 0 (.int .i64 2)] [] else k [.d false 0 (.int .i64 (-1 : Int))] []
       else
        if (ByteArray.toList op == [124]) = true then
         if (ByteArray.toList op == [124]) = true then k [.d false 0 (.int .i64 2)] []
         else
          if (ByteArray.toList op == [85]) = true then
           if (ByteArray.toList op == [85]) = true then k [.d false 0 (.int .i64 2)] [] else k [.d false 0 (.int .i64 (-1 : Int))] []
          else
           if (ByteArray.toList op == [87]) = true then
            if (ByteArray.toList op == [87]) = true then k [.d false 0 (.int .i64 2)] [] else k [.d false 0 (.int .i64 (-1 : Int))] []
           else if (ByteArray.toList op == [82]) = true then k [.d false 0 (.int .i64 2)] [] else k [.d false 0 (.int .i64 (-1 : Int))] []
        else
         if (ByteArray.toList op == [61, 62]) = true then k [.d false 0 (.int .i64 2)] []
         else
          if (ByteArray.toList op == [85]) = true then
           if (ByteArray.toList op == [85]) = true then k [.d false 0 (.int .i64 2)] [] else k [.d false 0 (.int .i64 (-1 : Int))] []
          else
           if (ByteArray.toList op == [87]) = true then
            if (ByteArray.toList op == [87]) = true then k [.d false 0 (.int .i64 2)] [] else k [.d false 0 (.int .i64 (-1 : Int))] []
           else if (ByteArray.toList op == [82]) = true then k [.d false 0 (.int .i64 2)] [] else k [.d false 0 (.int .i64 (-1 : Int))] []
     else
      if (ByteArray.toList op == [70]) = true then
       if (ByteArray.toList op == [70]) = true then k [.d false 0 (.int .i64 1)] []
       else
        if (ByteArray.toList op == [38]) = true then
         if (ByteArray.toList op == [38]) = true then k [.d false 0 (.int .i64 2)] []
         else
          if (ByteArray.toList op == [85]) = true then
           if (ByteArray.toList op == [85]) = true then k [.d false 0 (.int .i64 2)] [] else k [.d false 0 (.int .i64 (-1 : Int))] []
          else
           if (ByteArray.toList op == [87]) = true then
            if (ByteArray.toList op == [87]) = true then k [.d false 0 (.int .i64 2)] [] else k [.d false 0 (.int .i64 (-1 : Int))] []
           else if (ByteArray.toList op == [82]) = true then k [.d false 0 (.int .i64 2)] [] else k [.d false 0 (.int .i64 (-1 : Int))] []
        else
         if (ByteArray.toList op == [124]) = true then
          if (ByteArray.toList op == [124]) = true then k [.d false 0 (.int .i64 2)] []
          else
           if (ByteArray.toList op == [85]) = true then
            if (ByteArray.toList op == [85]) = true then k [.d false 0 (.int .i64 2)] [] else k [.d false 0 (.int .i64 (-1 : Int))] []
           else
            if (ByteArray.toList op == [87]) = true then
             if (ByteArray.toList op == [87]) = true then k [.d false 0 (.int .i64 2)] [] else k [.d false 0 (.int .i64 (-1 : Int))] []
            else if (ByteArray.toList op == [82]) = true then k [.d false 0 (.int .i64 2)] [] else k [.d false 0 (.int .i64 (-1 : Int))] []
         else
          if (ByteArray.toList op == [61, 62]) = true then k [.d false 0 (.int .i64 2)] []
          else
           if (ByteArray.toList op == [85]) = true then
            if (ByteArray.toList op == [85]) = true then k [.d false 0 (.int .i64 2)] [] else k [.d false 0 (.int .i64 (-1 : Int))] []
           else
            if (ByteArray.toList op == [87]) = true then
             if (ByteArray.toList op == [87]) = true then k [.d false 0 (.int .i64 2)] [] else k [.d false 0 (.int .i64 (-1 : Int))] []
            else if (ByteArray.toList op == [82]) = true then k [.d false 0 (.int .i64 2)] [] else k [.d false 0 (.int .i64 (-1 : Int))] []
      else
       if (ByteArray.toList op == [71]) = true then k [.d false 0 (.int .i64 1)] []
       else
        if (ByteArray.toList op == [38]) = true then
         if (ByteArray.toList op == [38]) = true then k [.d false 0 (.int .i64 2)] []
         else
          if (ByteArray.toList op == [85]) = true then
           if (ByteArray.toList op == [85]) = true then k [.d false 0 (.int .i64 2)] [] else k [.d false 0 (.int .i64 (-1 : Int))] []
          else
           if (ByteArray.toList op == [87]) = true then
            if (ByteArray.toList op == [87]) = true then k [.d false 0 (.int .i64 2)] [] else k [.d false 0 (.int .i64 (-1 : Int))] []
           else if (ByteArray.toList op == [82]) = true then k [.d false 0 (.int .i64 2)] [] else k [.d false 0 (.int .i64 (-1 : Int))] []
        else
         if (ByteArray.toList op == [124]) = true then
          if (ByteArray.toList op == [124]) = true then k [.d false 0 (.int .i64 2)] []
          else
           if (ByteArray.toList op == [85]) = true then
            if (ByteArray.toList op == [85]) = true then k [.d false 0 (.int .i64 2)] [] else k [.d false 0 (.int .i64 (-1 : Int))] []
           else
            if (ByteArray.toList op == [87]) = true then
             if (ByteArray.toList op == [87]) = true then k [.d false 0 (.int .i64 2)] [] else k [.d false 0 (.int .i64 (-1 : Int))] []
            else if (ByteArray.toList op == [82]) = true then k [.d false 0 (.int .i64 2)] [] else k [.d false 0 (.int .i64 (-1 : Int))] []
         else
          if (ByteArray.toList op == [61, 62]) = true then k [.d false 0 (.int .i64 2)] []
          else
           if (ByteArray.toList op == [85]) = true then
            if (ByteArray.toList op == [85]) = true then k [.d false 0 (.int .i64 2)] [] else k [.d false 0 (.int .i64 (-1 : Int))] []
           else
            if (ByteArray.toList op == [87]) = true then
             if (ByteArray.toList op == [87]) = true then k [.d false 0 (.int .i64 2)] [] else k [.d false 0 (.int .i64 (-1 : Int))] []
            else if (ByteArray.toList op == [82]) = true then k [.d false 0 (.int .i64 2)] [] else k [.d false 0 (.int .i64 (-1 : Int))] []
  else
   if (ByteArray.toList op == [102, 97, 108, 115, 101]) = true then
    if (ByteArray.toList op == [102, 97, 108, 115, 101]) = true then k [.d false 0 (.int .i64 0)] []
    else
     if (ByteArray.toList op == [33]) = true then
      if (ByteArray.toList op == [33]) = true then k [.d false 0 (.int .i64 1)] []
      else
       if (ByteArray.toList op == [38]) = true then
        if (ByteArray.toList op == [38]) = true then k [.d false 0 (.int .i64 2)] []
        else
         if (ByteArray.toList op == [85]) = true then
          if (ByteArray.toList op == [85]) = true then k [.d false 0 (.int .i64 2)] [] else k [.d false 0 (.int .i64 (-1 : Int))] []
         else
          if (ByteArray.toList op == [87]) = true then
           if (ByteArray.toList op == [87]) = true then k [.d false 0 (.int .i64 2)] [] else k [.d false 0 (.int .i64 (-1 : Int))] []
          else if (ByteArray.toList op == [82]) = true then k [.d false 0 (.int .i64 2)] [] else k [.d false 0 (.int .i64 (-1 : Int))] []
       else
        if (ByteArray.toList op == [124]) = true then
         if (ByteArray.toList op == [124]) = true then k [.d false 0 (.int .i64 2)] []
         else
          if (ByteArray.toList op == [85]) = true then
           if (ByteArray.toList op == [85]) = true then k [.d false 0 (.int .i64 2)] [] else k [.d false 0 (.int .i64 (-1 : Int))] []
          else
           if (ByteArray.toList op == [87]) = true then
            if (ByteArray.toList op == [87]) = true then k [.d false 0 (.int .i64 2)] [] else k [.d false 0 (.int .i64 (-1 : Int))] []
           else if (ByteArray.toList op == [82]) = true then k [.d false 0 (.int .i64 2)] [] else k [.d false 0 (.int .i64 (-1 : Int))] []
        else
         if (ByteArray.toList op == [61, 62]) = true then k [.d false 0 (.int .i64 2)] []
         else
          if (ByteArray.toList op == [85]) = true then
           if (ByteArray.toList op == [85]) = true then k [.d false 0 (.int .i64 2)] [] else k [.d false 0 (.int .i64 (-1 : Int))] []
          else
           if (ByteArray.toList op == [87]) = true then
            if (ByteArray.toList op == [87]) = true then k [.d false 0 (.int .i64 2)] [] else k [.d false 0 (.int .i64 (-1 : Int))] []
           else if (ByteArray.toList op == [82]) = true then k [.d false 0 (.int .i64 2)] [] else k [.d false 0 (.int .i64 (-1 : Int))] []
     else
      if (ByteArray.toList op == [88]) = true then
       if (ByteArray.toList op == [88]) = true then k [.d false 0 (.int .i64 1)] []
       else
        if (ByteArray.toList op == [38]) = true then
         if (ByteArray.toList op == [38]) = true then k [.d false 0 (.int .i64 2)] []
         else
          if (ByteArray.toList op == [85]) = true then
           if (ByteArray.toList op == [85]) = true then k [.d false 0 (.int .i64 2)] [] else k [.d false 0 (.int .i64 (-1 : Int))] []
          else
           if (ByteArray.toList op == [87]) = true then
            if (ByteArray.toList op == [87]) = true then k [.d false 0 (.int .i64 2)] [] else k [.d false 0 (.int .i64 (-1 : Int))] []
           else if (ByteArray.toList op == [82]) = true then k [.d false 0 (.int .i64 2)] [] else k [.d false 0 (.int .i64 (-1 : Int))] []
        else
         if (ByteArray.toList op == [124]) = true then
          if (ByteArray.toList op == [124]) = true then k [.d false 0 (.int .i64 2)] []
          else
           if (ByteArray.toList op == [85]) = true then
            if (ByteArray.toList op == [85]) = true then k [.d false 0 (.int .i64 2)] [] else k [.d false 0 (.int .i64 (-1 : Int))] []
           else
            if (ByteArray.toList op == [87]) = true then
             if (ByteArray.toList op == [87]) = true then k [.d false 0 (.int .i64 2)] [] else k [.d false 0 (.int .i64 (-1 : Int))] []
            else if (ByteArray.toList op == [82]) = true then k [.d false 0 (.int .i64 2)] [] else k [.d false 0 (.int .i64 (-1 : Int))] []
         else
          if (ByteArray.toList op == [61, 62]) = true then k [.d false 0 (.int .i64 2)] []
          else
           if (ByteArray.toList op == [85]) = true then
            if (ByteArray.toList op == [85]) = true then k [.d false 0 (.int .i64 2)] [] else k [.d false 0 (.int .i64 (-1 : Int))] []
           else
            if (ByteArray.toList op == [87]) = true then
             if (ByteArray.toList op == [87]) = true then k [.d false 0 (.int .i64 2)] [] else k [.d false 0 (.int .i64 (-1 : Int))] []
            else if (ByteArray.toList op == [82]) = true then k [.d false 0 (.int .i64 2)] [] else k [.d false 0 (.int .i64 (-1 : Int))] []
      else
       if (ByteArray.toList op == [70]) = true then
        if (ByteArray.toList op == [70]) = true then k [.d false 0 (.int .i64 1)] []
        else
         if (ByteArray.toList op == [38]) = true then
          if (ByteArray.toList op == [38]) = true then k [.d false 0 (.int .i64 2)] []
          else
           if (ByteArray.toList op == [85]) = true then
            if (ByteArray.toList op == [85]) = true then k [.d false 0 (.int .i64 2)] [] else k [.d false 0 (.int .i64 (-1 : Int))] []
           else
            if (ByteArray.toList op == [87]) = true then
             if (ByteArray.toList op == [87]) = true then k [.d false 0 (.int .i64 2)] [] else k [.d false 0 (.int .i64 (-1 : Int))] []
            else if (ByteArray.toList op == [82]) = true then k [.d false 0 (.int .i64 2)] [] else k [.d false 0 (.int .i64 (-1 : Int))] []
         else
          if (ByteArray.toList op == [124]) = true then
           if (ByteArray.toList op == [124]) = true then k [.d false 0 (.int .i64 2)] []
           else
            if (ByteArray.toList op == [85]) = true then
             if (ByteArray.toList op == [85]) = true then k [.d false 0 (.int .i64 2)] [] else k [.d false 0 (.int .i64 (-1 : Int))] []
            else
             if (ByteArray.toList op == [87]) = true then
              if (ByteArray.toList op == [87]) = true then k [.d false 0 (.int .i64 2)] [] else k [.d false 0 (.int .i64 (-1 : Int))] []
             else if (ByteArray.toList op == [82]) = true then k [.d false 0 (.int .i64 2)] [] else k [.d false 0 (.int .i64 (-1 : Int))] []
          else
           if (ByteArray.toList op == [61, 62]) = true then k [.d false 0 (.int .i64 2)] []
           else
            if (ByteArray.toList op == [85]) = true then
             if (ByteArray.toList op == [85]) = true then k [.d false 0 (.int .i64 2)] [] else k [.d false 0 (.int .i64 (-1 : Int))] []
            else
             if (ByteArray.toList op == [87]) = true then
              if (ByteArray.toList op == [87]) = true then k [.d false 0 (.int .i64 2)] [] else k [.d false 0 (.int .i64 (-1 : Int))] []
             else if (ByteArray.toList op == [82]) = true then k [.d false 0 (.int .i64 2)] [] else k [.d false 0 (.int .i64 (-1 : Int))] []
       else
        if (ByteArray.toList op == [71]) = true then k [.d false 0 (.int .i64 1)] []
        else
         if (ByteArray.toList op == [38]) = true then
          if (ByteArray.toList op == [38]) = true then k [.d false 0 (.int .i64 2)] []
          else
           if (ByteArray.toList op == [85]) = true then
            if (ByteArray.toList op == [85]) = true then k [.d false 0 (.int .i64 2)] [] else k [.d false 0 (.int .i64 (-1 : Int))] []
           else
            if (ByteArray.toList op == [87]) = true then
             if (ByteArray.toList op == [87]) = true then k [.d false 0 (.int .i64 2)] [] else k [.d false 0 (.int .i64 (-1 : Int))] []
            else if (ByteArray.toList op == [82]) = true then k [.d false 0 (.int .i64 2)] [] else k [.d false 0 (.int .i64 (-1 : Int))] []
         else
          if (ByteArray.toList op == [124]) = true then
           if (ByteArray.toList op == [124]) = true then k [.d false 0 (.int .i64 2)] []
           else
            if (ByteArray.toList op == [85]) = true then
             if (ByteArray.toList op == [85]) = true then k [.d false 0 (.int .i64 2)] [] else k [.d false 0 (.int .i64 (-1 : Int))] []
            else
             if (ByteArray.toList op == [87]) = true then
              if (ByteArray.toList op == [87]) = true then k [.d false 0 (.int .i64 2)] [] else k [.d false 0 (.int .i64 (-1 : Int))] []
             else if (ByteArray.toList op == [82]) = true then k [.d false 0 (.int .i64 2)] [] else k [.d false 0 (.int .i64 (-1 : Int))] []
          else
           if (ByteArray.toList op == [61, 62]) = true then k [.d false 0 (.int .i64 2)] []
           else
            if (ByteArray.toList op == [85]) = true then
             if (ByteArray.toList op == [85]) = true then k [.d false 0 (.int .i64 2)] [] else k [.d false 0 (.int .i64 (-1 : Int))] []
            else
             if (ByteArray.toList op == [87]) = true then
              if (ByteArray.toList op == [87]) = true then k [.d false 0 (.int .i64 2)] [] else k [.d false 0 (.int .i64 (-1 : Int))] []
             else if (ByteArray.toList op == [82]) = true then k [.d false 0 (.int .i64 2)] [] else k [.d false 0 (.int .i64 (-1 : Int))] []
   else
    if (ByteArray.toList op == [108, 97, 98, 101, 108]) = true then k [.d false 0 (.int .i64 0)] []
    else
     if (ByteArray.toList op == [33]) = true then
      if (ByteArray.toList op == [33]) = true then k [.d false 0 (.int .i64 1)] []
      else
       if (ByteArray.toList op == [38]) = true then
        if (ByteArray.toList op == [38]) = true then k [.d false 0 (.int .i64 2)] []
        else
         if (ByteArray.toList op == [85]) = true then
          if (ByteArray.toList op == [85]) = true then k [.d false 0 (.int .i64 2)] [] else k [.d false 0 (.int .i64 (-1 : Int))] []
         else
          if (ByteArray.toList op == [87]) = true then
           if (ByteArray.toList op == [87]) = true then k [.d false 0 (.int .i64 2)] [] else k [.d false 0 (.int .i64 (-1 : Int))] []
          else if (ByteArray.toList op == [82]) = true then k [.d false 0 (.int .i64 2)] [] else k [.d false 0 (.int .i64 (-1 : Int))] []
       else
        if (ByteArray.toList op == [124]) = true then
         if (ByteArray.toList op == [124]) = true then k [.d false 0 (.int .i64 2)] []
         else
          if (ByteArray.toList op == [85]) = true then
           if (ByteArray.toList op == [85]) = true then k [.d false 0 (.int .i64 2)] [] else k [.d false 0 (.int .i64 (-1 : Int))] []
          else
           if (ByteArray.toList op == [87]) = true then
            if (ByteArray.toList op == [87]) = true then k [.d false 0 (.int .i64 2)] [] else k [.d false 0 (.int .i64 (-1 : Int))] []
           else if (ByteArray.toList op == [82]) = true then k [.d false 0 (.int .i64 2)] [] else k [.d false 0 (.int .i64 (-1 : Int))] []
        else
         if (ByteArray.toList op == [61, 62]) = true then k [.d false 0 (.int .i64 2)] []
         else
          if (ByteArray.toList op == [85]) = true then
           if (ByteArray.toList op == [85]) = true then k [.d false 0 (.int .i64 2)] [] else k [.d false 0 (.int .i64 (-1 : Int))] []
          else
           if (ByteArray.toList op == [87]) = true then
            if (ByteArray.toList op == [87]) = true then k [.d false 0 (.int .i64 2)] [] else k [.d false 0 (.int .i64 (-1 : Int))] []
           else if (ByteArray.toList op == [82]) = true then k [.d false 0 (.int .i64 2)] [] else k [.d false 0 (.int .i64 (-1 : Int))] []
     else
      if (ByteArray.toList op == [88]) = true then
       if (ByteArray.toList op == [88]) = true then k [.d false 0 (.int .i64 1)] []
       else
        if (ByteArray.toList op == [38]) = true then
         if (ByteArray.toList op == [38]) = true then k [.d false 0 (.int .i64 2)] []
         else
          if (ByteArray.toList op == [85]) = true then
           if (ByteArray.toList op == [85]) = true then k [.d false 0 (.int .i64 2)] [] else k [.d false 0 (.int .i64 (-1 : Int))] []
          else
           if (ByteArray.toList op == [87]) = true then
            if (ByteArray.toList op == [87]) = true then k [.d false 0 (.int .i64 2)] [] else k [.d false 0 (.int .i64 (-1 : Int))] []
           else if (ByteArray.toList op == [82]) = true then k [.d false 0 (.int .i64 2)] [] else k [.d false 0 (.int .i64 (-1 : Int))] []
        else
         if (ByteArray.toList op == [124]) = true then
          if (ByteArray.toList op == [124]) = true then k [.d false 0 (.int .i64 2)] []
          else
           if (ByteArray.toList op == [85]) = true then
            if (ByteArray.toList op == [85]) = true then k [.d false 0 (.int .i64 2)] [] else k [.d false 0 (.int .i64 (-1 : Int))] []
           else
            if (ByteArray.toList op == [87]) = true then
             if (ByteArray.toList op == [87]) = true then k [.d false 0 (.int .i64 2)] [] else k [.d false 0 (.int .i64 (-1 : Int))] []
            else if (ByteArray.toList op == [82]) = true then k [.d false 0 (.int .i64 2)] [] else k [.d false 0 (.int .i64 (-1 : Int))] []
         else
          if (ByteArray.toList op == [61, 62]) = true then k [.d false 0 (.int .i64 2)] []
          else
           if (ByteArray.toList op == [85]) = true then
            if (ByteArray.toList op == [85]) = true then k [.d false 0 (.int .i64 2)] [] else k [.d false 0 (.int .i64 (-1 : Int))] []
           else
            if (ByteArray.toList op == [87]) = true then
             if (ByteArray.toList op == [87]) = true then k [.d false 0 (.int .i64 2)] [] else k [.d false 0 (.int .i64 (-1 : Int))] []
            else if (ByteArray.toList op == [82]) = true then k [.d false 0 (.int .i64 2)] [] else k [.d false 0 (.int .i64 (-1 : Int))] []
      else
       if (ByteArray.toList op == [70]) = true then
        if (ByteArray.toList op == [70]) = true then k [.d false 0 (.int .i64 1)] []
        else
         if (ByteArray.toList op == [38]) = true then
          if (ByteArray.toList op == [38]) = true then k [.d false 0 (.int .i64 2)] []
          else
           if (ByteArray.toList op == [85]) = true then
            if (ByteArray.toList op == [85]) = true then k [.d false 0 (.int .i64 2)] [] else k [.d false 0 (.int .i64 (-1 : Int))] []
           else
            if (ByteArray.toList op == [87]) = true then
             if (ByteArray.toList op == [87]) = true then k [.d false 0 (.int .i64 2)] [] else k [.d false 0 (.int .i64 (-1 : Int))] []
            else if (ByteArray.toList op == [82]) = true then k [.d false 0 (.int .i64 2)] [] else k [.d false 0 (.int .i64 (-1 : Int))] []
         else
          if (ByteArray.toList op == [124]) = true then
           if (ByteArray.toList op == [124]) = true then k [.d false 0 (.int .i64 2)] []
           else
            if (ByteArray.toList op == [85]) = true then
             if (ByteArray.toList op == [85]) = true then k [.d false 0 (.int .i64 2)] [] else k [.d false 0 (.int .i64 (-1 : Int))] []
            else
             if (ByteArray.toList op == [87]) = true then
              if (ByteArray.toList op == [87]) = true then k [.d false 0 (.int .i64 2)] [] else k [.d false 0 (.int .i64 (-1 : Int))] []
             else if (ByteArray.toList op == [82]) = true then k [.d false 0 (.int .i64 2)] [] else k [.d false 0 (.int .i64 (-1 : Int))] []
          else
           if (ByteArray.toList op == [61, 62]) = true then k [.d false 0 (.int .i64 2)] []
           else
            if (ByteArray.toList op == [85]) = true then
             if (ByteArray.toList op == [85]) = true then k [.d false 0 (.int .i64 2)] [] else k [.d false 0 (.int .i64 (-1 : Int))] []
            else
             if (ByteArray.toList op == [87]) = true then
              if (ByteArray.toList op == [87]) = true then k [.d false 0 (.int .i64 2)] [] else k [.d false 0 (.int .i64 (-1 : Int))] []
             else if (ByteArray.toList op == [82]) = true then k [.d false 0 (.int .i64 2)] [] else k [.d false 0 (.int .i64 (-1 : Int))] []
       else
        if (ByteArray.toList op == [71]) = true then k [.d false 0 (.int .i64 1)] []
        else
         if (ByteArray.toList op == [38]) = true then
          if (ByteArray.toList op == [38]) = true then k [.d false 0 (.int .i64 2)] []
          else
           if (ByteArray.toList op == [85]) = true then
            if (ByteArray.toList op == [85]) = true then k [.d false 0 (.int .i64 2)] [] else k [.d false 0 (.int .i64 (-1 : Int))] []
           else
            if (ByteArray.toList op == [87]) = true then
             if (ByteArray.toList op == [87]) = true then k [.d false 0 (.int .i64 2)] [] else k [.d false 0 (.int .i64 (-1 : Int))] []
            else if (ByteArray.toList op == [82]) = true then k [.d false 0 (.int .i64 2)] [] else k [.d false 0 (.int .i64 (-1 : Int))] []
         else
          if (ByteArray.toList op == [124]) = true then
           if (ByteArray.toList op == [124]) = true then k [.d false 0 (.int .i64 2)] []
           else
            if (ByteArray.toList op == [85]) = true then
             if (ByteArray.toList op == [85]) = true then k [.d false 0 (.int .i64 2)] [] else k [.d false 0 (.int .i64 (-1 : Int))] []
            else
             if (ByteArray.toList op == [87]) = true then
              if (ByteArray.toList op == [87]) = true then k [.d false 0 (.int .i64 2)] [] else k [.d false 0 (.int .i64 (-1 : Int))] []
             else if (ByteArray.toList op == [82]) = true then k [.d false 0 (.int .i64 2)] [] else k [.d false 0 (.int .i64 (-1 : Int))] []
          else
           if (ByteArray.toList op == [61, 62]) = true then k [.d false 0 (.int .i64 2)] []
           else
            if (ByteArray.toList op == [85]) = true then
             if (ByteArray.toList op == [85]) = true then k [.d false 0 (.int .i64 2)] [] else k [.d false 0 (.int .i64 (-1 : Int))] []
            else
             if (ByteArray.toList op == [87]) = true then
              if (ByteArray.toList op == [87]) = true then k [.d false 0 (.int .i64 2)] [] else k [.d false 0 (.int .i64 (-1 : Int))] []
             else if (ByteArray.toList op == [82]) = true then k [.d false 0 (.int .i64 2)] [] else k [.d false 0 (.int .i64 (-1 : Int))] [] := by kernel_rfl
end K58

namespace K89
/- rounds of the search: 1 -/
noncomputable def X : Fx := ⟨Tryd.prog, R6 none, 4, 1⟩
theorem start {β : Type} (op : ByteArray) (nm : ByteArray) (ks : List D) (p : Int) (k : List TV → List TV → Option β) : evalF Tryd.prog (R6 none) Tryd.f89 [.d true 5 (.ag [D.str op, D.str nm, D.sl 5 ks, D.int .i64 p])] k =
   if (ByteArray.toList op == [116, 114, 117, 101]) = true then k [.d false 0 (.bool true)] []
  else k [.d false 0 (.bool (ByteArray.toList op == [102, 97, 108, 115, 101]))] [] := by kernel_rfl
end K89

namespace K88
/- rounds of the search: 1 -/
noncomputable def X : Fx := ⟨Tryd.prog, R7, 4, 1⟩
theorem start {β : Type} (op : ByteArray) (k : List TV → List TV → Option β) : evalF Tryd.prog R7 Tryd.f88 [.d true 0 (.str op)] k =
   k [.d true 5 (.ag [D.str op, D.str (ByteArray.mk #[]), D.sl 5 [], D.int .i64 0])] [] := by kernel_rfl
end K88

namespace K84
/- rounds of the search: 1 -/
noncomputable def X : Fx := ⟨Tryd.prog, R8, 16, 2⟩
theorem start {β : Type} (op : ByteArray) (ks : List D) (k : List TV → List TV → Option β) : evalF Tryd.prog R8 Tryd.f84 [.d true 0 (.str op), .d true 0 (.sl 5 ks)] k =
   k [.d true 5 (.ag [D.str op, D.str (ByteArray.mk #[]), D.sl 5 ks, D.int .i64 0])] [] := by kernel_rfl
end K84

namespace K83
/- rounds of the search: 1 -/
noncomputable def X : Fx := ⟨Tryd.prog, R9, 4, 1⟩
theorem start {β : Type} (op : ByteArray) (k : List TV → List TV → Option β) : evalF Tryd.prog R9 Tryd.f83 [.d true 0 (.str op)] k =
   if (ByteArray.toList op == [116, 114, 117, 101]) = true then
   k [.d false 0 (.str (ByteArray.mk #[102, 97, 108, 115, 101]))] []
  else
   if (ByteArray.toList op == [102, 97, 108, 115, 101]) = true then
    k [.d false 0 (.str (ByteArray.mk #[116, 114, 117, 101]))] []
   else
    if (ByteArray.toList op == [38]) = true then k [.d false 0 (.str (ByteArray.mk #[124]))] []
    else
     if (ByteArray.toList op == [124]) = true then k [.d false 0 (.str (ByteArray.mk #[38]))] []
     else
      if (ByteArray.toList op == [85]) = true then k [.d false 0 (.str (ByteArray.mk #[82]))] []
      else if (ByteArray.toList op == [82]) = true then k [.d false 0 (.str (ByteArray.mk #[85]))] [] else k [.d false 0 (.str op)] [] := by kernel_rfl
end K83

namespace K82
/- rounds of the search: 1 -/
noncomputable def X : Fx := ⟨Tryd.prog, R10, 4, 1⟩
theorem start {β : Type} (l : Int) (k : List TV → List TV → Option β) : evalF Tryd.prog R10 Tryd.f82 [.ob true [.d false 0 (.int .i64 l)]] k =
   k [.d false 0 (.bool (decide (IntKind.wrap IntKind.i64 (l - (1 : Int)) < (0 : Int))))] [.ob true [.d false 0 (.int .i64 (IntKind.wrap IntKind.i64 (l - (1 : Int))))]] := by kernel_rfl
end K82


end Go.Sd

namespace Go.Sd
open Go Go.Cm Go.Proofs Go.Sc
set_option maxRecDepth 100000
namespace K59
  section
  variable (b : Option Nat)
/- rounds of the search: 2 -/
noncomputable def X : Fx := ⟨Tryd.prog, R5 b, 4, 1⟩
def s0 (ks : List D) (x61 : Int) : S := ⟨Tm.mk 23 [(13, .d true 0 (.sl 5 ks)), (14, .d false 0 (.int .i64 (↑(List.length ks) : Int))), (15, .d false 0 (.int .i64 x61))], []⟩
def e0r  : S := ⟨Tm.mk 23 [(2, .d false 0 (.bool false))], []⟩
def e0x0  : S := ⟨Tm.mk 23 [], []⟩
noncomputable abbrev L0 : S → Option (S ⊕ (Ex × S)) := roundK (X b) [(0, 0)] (sub [1, 1, 0, 1, 0, 0] (body Tryd.f59))
theorem start {β : Type} (op : ByteArray) (nm : ByteArray) (ks : List D) (p : Int) (k : List TV → List TV → Option β) : evalF Tryd.prog (R5 b) Tryd.f59 [.d true 5 (.ag [D.str op, D.str nm, D.sl 5 ks, D.int .i64 p])] k =
   if (!kidsN op == (↑(List.length ks) : Int)) = true then k [.d false 0 (.bool false)] []
  else
   goLp (X b) [(0, 0)] (sub [1, 1, 0, 1, 0, 0] (body Tryd.f59))
    [Kf.block 0 0, Kf.seq [] (sub [1, 1, 1] (body Tryd.f59)) 4]
    (finK Tryd.prog Tryd.f59 [.d true 5 (.ag [D.str op, D.str nm, D.sl 5 ks, D.int .i64 p])] k) (s0 ks (0 : Int)) := by kernel_rfl
theorem round0_0 (ks : List D) (x60 : Int) : roundK (X b) [(0, 0)] (sub [1, 1, 0, 1, 0, 0] (body Tryd.f59)) (s0 ks x60) =
   if decide (x60 < (↑(List.length ks) : Int)) = true then
   if (0 : Int) ≤ x60 then
    match ks[Int.toNat x60]? with
    | some x71 =>
     match x71 with
     | D.ag xs72 =>
      match xs72 with
      | x73 :: r74 =>
       match x73 with
       | D.str s75 =>
        match r74 with
        | x76 :: r77 =>
         match x76 with
         | D.str s78 =>
          match r77 with
          | x79 :: r80 =>
           match x79 with
           | D.sl sh81 xs82 =>
            if sh81 = 5 then
             match r80 with
             | x83 :: r84 =>
              match x83 with
              | D.int j85 m86 =>
               if j85 = IntKind.i64 then
                match r84 with
                | [] =>
                 match ofD (.ag [D.str s75, D.str s78, D.sl 5 xs82, D.int .i64 m86]) with
                 | some f89 => if bd b f89 then if (!formF f89) = true then some (Sum.inr (Ex.ret, e0r)) else some (Sum.inl (s0 ks (IntKind.wrap IntKind.i64 (x60 + (1 : Int))))) else none
                 | none => none
                | x => none
               else none
              | x => none
             | [] => none
            else none
           | x => none
          | [] => none
         | x => none
        | [] => none
       | x => none
      | [] => none
     | x => none
    | none => none
   else none
  else some (Sum.inr (Ex.exit 0, e0x0)) := by kernel_rfl
theorem behind0r {β : Type} (op : ByteArray) (nm : ByteArray) (ks : List D) (p : Int) (k : List TV → List TV → Option β) : applyK (X b) (finK Tryd.prog Tryd.f59 [.d true 5 (.ag [D.str op, D.str nm, D.sl 5 ks, D.int .i64 p])] k)
   [Kf.block 0 0, Kf.seq [] (sub [1, 1, 1] (body Tryd.f59)) 4] Ex.ret e0r =
   k [.d false 0 (.bool false)] [] := by kernel_rfl
theorem behind0x0 {β : Type} (op : ByteArray) (nm : ByteArray) (ks : List D) (p : Int) (k : List TV → List TV → Option β) : applyK (X b) (finK Tryd.prog Tryd.f59 [.d true 5 (.ag [D.str op, D.str nm, D.sl 5 ks, D.int .i64 p])] k)
   [Kf.block 0 0, Kf.seq [] (sub [1, 1, 1] (body Tryd.f59)) 4] (Ex.exit 0) e0x0 =
   k [.d false 0 (.bool true)] [] := by kernel_rfl
end
end K59


end Go.Sd

namespace Go.Sd
open Go Go.Cm Go.Proofs Go.Sc
set_option maxRecDepth 100000
namespace K26
  section
  variable (b : Option Nat)
/- rounds of the search: 2 -/
noncomputable def X : Fx := ⟨Tryd.prog, R6 b, 4, 1⟩
def s0 (ks : List D) (x129 : Int) : S := ⟨Tm.mk 53 [(43, .d true 0 (.sl 5 ks)), (44, .d false 0 (.int .i64 (↑(List.length ks) : Int))), (45, .d false 0 (.int .i64 x129))], []⟩
def e0r  : S := ⟨Tm.mk 53 [(2, .d false 0 (.bool false))], []⟩
def e0x1  : S := ⟨Tm.mk 53 [], []⟩
noncomputable abbrev L0 : S → Option (S ⊕ (Ex × S)) := roundK (X b) [(1, 0)] (sub [1, 1, 1, 0, 1, 0, 0] (body Tryd.f26))
theorem start {β : Type} (op : ByteArray) (nm : ByteArray) (ks : List D) (p : Int) (k : List TV → List TV → Option β) : evalF Tryd.prog (R6 b) Tryd.f26 [.d true 5 (.ag [D.str op, D.str nm, D.sl 5 ks, D.int .i64 p])] k =
   if (ByteArray.toList op == [70]) = true then
   if (ByteArray.toList op == [70]) = true then k [.d false 0 (.bool false)] []
   else
    if (ByteArray.toList op == [33]) = true then
     if ((↑(List.length ks) : Int) == (1 : Int)) = true then
      match ks[0]? with
      | some x140 =>
       match
        match x140 with
        | D.ag xs => xs[0]?
        | x => none with
       | some y141 =>
        match y141 with
        | D.str s142 =>
         if (ByteArray.toList s142 == [108, 97, 98, 101, 108]) = true then
          match ks[0]? with
          | some x143 =>
           match
            match x143 with
            | D.ag xs => xs[2]?
            | x => none with
           | some y144 =>
            match y144 with
            | D.sl sh145 xs146 => if sh145 = 5 then k [.d false 0 (.bool ((↑(List.length xs146) : Int) == (0 : Int)))] [] else none
            | x => none
           | none => none
          | none => none
         else k [.d false 0 (.bool false)] []
        | x => none
       | none => none
      | none => none
     else k [.d false 0 (.bool false)] []
    else
     if (!kidsN op == (↑(List.length ks) : Int)) = true then k [.d false 0 (.bool false)] []
     else
      goLp (X b) [(1, 0)] (sub [1, 1, 1, 0, 1, 0, 0] (body Tryd.f26))
       [Kf.block 1 0, Kf.seq [] (sub [1, 1, 1, 1] (body Tryd.f26)) 4]
       (finK Tryd.prog Tryd.f26 [.d true 5 (.ag [D.str op, D.str nm, D.sl 5 ks, D.int .i64 p])] k) (s0 ks (0 : Int))
  else
   if (ByteArray.toList op == [71]) = true then
    if (ByteArray.toList op == [71]) = true then k [.d false 0 (.bool false)] []
    else
     if (ByteArray.toList op == [33]) = true then
      if ((↑(List.length ks) : Int) == (1 : Int)) = true then
       match ks[0]? with
       | some x158 =>
        match
         match x158 with
         | D.ag xs => xs[0]?
         | x => none with
        | some y159 =>
         match y159 with
         | D.str s160 =>
          if (ByteArray.toList s160 == [108, 97, 98, 101, 108]) = true then
           match ks[0]? with
           | some x161 =>
            match
             match x161 with
             | D.ag xs => xs[2]?
             | x => none with
            | some y162 =>
             match y162 with
             | D.sl sh163 xs164 => if sh163 = 5 then k [.d false 0 (.bool ((↑(List.length xs164) : Int) == (0 : Int)))] [] else none
             | x => none
            | none => none
           | none => none
          else k [.d false 0 (.bool false)] []
         | x => none
        | none => none
       | none => none
      else k [.d false 0 (.bool false)] []
     else
      if (!kidsN op == (↑(List.length ks) : Int)) = true then k [.d false 0 (.bool false)] []
      else
       goLp (X b) [(1, 0)] (sub [1, 1, 1, 0, 1, 0, 0] (body Tryd.f26))
        [Kf.block 1 0, Kf.seq [] (sub [1, 1, 1, 1] (body Tryd.f26)) 4]
        (finK Tryd.prog Tryd.f26 [.d true 5 (.ag [D.str op, D.str nm, D.sl 5 ks, D.int .i64 p])] k) (s0 ks (0 : Int))
   else
    if (ByteArray.toList op == [87]) = true then
     if (ByteArray.toList op == [87]) = true then k [.d false 0 (.bool false)] []
     else
      if (ByteArray.toList op == [33]) = true then
       if ((↑(List.length ks) : Int) == (1 : Int)) = true then
        match ks[0]? with
        | some x176 =>
         match
          match x176 with
          | D.ag xs => xs[0]?
          | x => none with
         | some y177 =>
          match y177 with
          | D.str s178 =>
           if (ByteArray.toList s178 == [108, 97, 98, 101, 108]) = true then
            match ks[0]? with
            | some x179 =>
             match
              match x179 with
              | D.ag xs => xs[2]?
              | x => none with
             | some y180 =>
              match y180 with
              | D.sl sh181 xs182 => if sh181 = 5 then k [.d false 0 (.bool ((↑(List.length xs182) : Int) == (0 : Int)))] [] else none
              | x => none
             | none => none
            | none => none
           else k [.d false 0 (.bool false)] []
          | x => none
         | none => none
        | none => none
       else k [.d false 0 (.bool false)] []
      else
       if (!kidsN op == (↑(List.length ks) : Int)) = true then k [.d false 0 (.bool false)] []
       else
        goLp (X b) [(1, 0)] (sub [1, 1, 1, 0, 1, 0, 0] (body Tryd.f26))
         [Kf.block 1 0, Kf.seq [] (sub [1, 1, 1, 1] (body Tryd.f26)) 4]
         (finK Tryd.prog Tryd.f26 [.d true 5 (.ag [D.str op, D.str nm, D.sl 5 ks, D.int .i64 p])] k) (s0 ks (0 : Int))
    else
     if (ByteArray.toList op == [61, 62]) = true then k [.d false 0 (.bool false)] []
     else
      if (ByteArray.toList op == [33]) = true then
       if ((↑(List.length ks) : Int) == (1 : Int)) = true then
        match ks[0]? with
        | some x193 =>
         match
          match x193 with
          | D.ag xs => xs[0]?
          | x => none with
         | some y194 =>
          match y194 with
          | D.str s195 =>
           if (ByteArray.toList s195 == [108, 97, 98, 101, 108]) = true then
            match ks[0]? with
            | some x196 =>
             match
              match x196 with
              | D.ag xs => xs[2]?
              | x => none with
             | some y197 =>
              match y197 with
              | D.sl sh198 xs199 => if sh198 = 5 then k [.d false 0 (.bool ((↑(List.length xs199) : Int) == (0 : Int)))] [] else none
              | x => none
             | none => none
            | none => none
           else k [.d false 0 (.bool false)] []
          | x => none
         | none => none
        | none => none
       else k [.d false 0 (.bool false)] []
      else
       if (!kidsN op == (↑(List.length ks) : Int)) = true then k [.d false 0 (.bool false)] []
       else
        goLp (X b) [(1, 0)] (sub [1, 1, 1, 0, 1, 0, 0] (body Tryd.f26))
         [Kf.block 1 0, Kf.seq [] (sub [1, 1, 1, 1] (body Tryd.f26)) 4]
         (finK Tryd.prog Tryd.f26 [.d true 5 (.ag [D.str op, D.str nm, D.sl 5 ks, D.int .i64 p])] k) (s0 ks (0 : Int)) := by kernel_rfl
theorem round0_0 (ks : List D) (x128 : Int) : roundK (X b) [(1, 0)] (sub [1, 1, 1, 0, 1, 0, 0] (body Tryd.f26)) (s0 ks x128) =
   if decide (x128 < (↑(List.length ks) : Int)) = true then
   if (0 : Int) ≤ x128 then
    match ks[Int.toNat x128]? with
    | some x207 =>
     match x207 with
     | D.ag xs208 =>
      match xs208 with
      | x209 :: r210 =>
       match x209 with
       | D.str s211 =>
        match r210 with
        | x212 :: r213 =>
         match x212 with
         | D.str s214 =>
          match r213 with
          | x215 :: r216 =>
           match x215 with
           | D.sl sh217 xs218 =>
            if sh217 = 5 then
             match r216 with
             | x219 :: r220 =>
              match x219 with
              | D.int j221 m222 =>
               if j221 = IntKind.i64 then
                match r220 with
                | [] =>
                 match ofD (.ag [D.str s211, D.str s214, D.sl 5 xs218, D.int .i64 m222]) with
                 | some f225 => if bd b f225 then if (!isF f225) = true then some (Sum.inr (Ex.ret, e0r)) else some (Sum.inl (s0 ks (IntKind.wrap IntKind.i64 (x128 + (1 : Int))))) else none
                 | none => none
                | x => none
               else none
              | x => none
             | [] => none
            else none
           | x => none
          | [] => none
         | x => none
        | [] => none
       | x => none
      | [] => none
     | x => none
    | none => none
   else none
  else some (Sum.inr (Ex.exit 1, e0x1)) := by kernel_rfl
theorem behind0r {β : Type} (op : ByteArray) (nm : ByteArray) (ks : List D) (p : Int) (k : List TV → List TV → Option β) : applyK (X b) (finK Tryd.prog Tryd.f26 [.d true 5 (.ag [D.str op, D.str nm, D.sl 5 ks, D.int .i64 p])] k)
   [Kf.block 1 0, Kf.seq [] (sub [1, 1, 1, 1] (body Tryd.f26)) 4] Ex.ret e0r =
   k [.d false 0 (.bool false)] [] := by kernel_rfl
theorem behind0x1 {β : Type} (op : ByteArray) (nm : ByteArray) (ks : List D) (p : Int) (k : List TV → List TV → Option β) : applyK (X b) (finK Tryd.prog Tryd.f26 [.d true 5 (.ag [D.str op, D.str nm, D.sl 5 ks, D.int .i64 p])] k)
   [Kf.block 1 0, Kf.seq [] (sub [1, 1, 1, 1] (body Tryd.f26)) 4] (Ex.exit 1) e0x1 =
   k [.d false 0 (.bool true)] [] := by kernel_rfl
end
end K26


end Go.Sd

namespace Go.Sd
open Go Go.Cm Go.Proofs Go.Sc
set_option maxRecDepth 100000

theorem ev_kids (op : ByteArray) {γ : Type} (q : List TV → List TV → Option γ) : evalF Tryd.prog R3 Tryd.f58 [.d true 0 (.str op)] q = q [.d false 0 (.int .i64 (kidsN op))] [] := by
  refine (K58.start op q).trans ?_
  unfold kidsN
  cases h0 : (op.toList == [116, 114, 117, 101]) with
  | true =>
    simp only [h0, if_true]
  | false =>
    simp only [h0, Bool.false_eq_true, if_false]
    cases h1 : (op.toList == [102, 97, 108, 115, 101]) with
    | true =>
      simp only [h1, if_true]
    | false =>
      simp only [h1, Bool.false_eq_true, if_false]
      cases h2 : (op.toList == [108, 97, 98, 101, 108]) with
      | true =>
        simp only [h2, if_true]
      | false =>
        simp only [h2, Bool.false_eq_true, if_false]
        cases h3 : (op.toList == [33]) with
        | true =>
          simp only [h3, if_true]
        | false =>
          simp only [h3, Bool.false_eq_true, if_false]
          cases h4 : (op.toList == [88]) with
          | true =>
            simp only [h4, if_true]
          | false =>
            simp only [h4, Bool.false_eq_true, if_false]
            cases h5 : (op.toList == [70]) with
            | true =>
              simp only [h5, if_true]
            | false =>
              simp only [h5, Bool.false_eq_true, if_false]
              cases h6 : (op.toList == [71]) with
              | true =>
                simp only [h6, if_true]
              | false =>
                simp only [h6, Bool.false_eq_true, if_false]
                cases h7 : (op.toList == [38]) with
                | true =>
                  simp only [h7, if_true]
                | false =>
                  simp only [h7, Bool.false_eq_true, if_false]
                  cases h8 : (op.toList == [124]) with
                  | true =>
                    simp only [h8, if_true]
                  | false =>
                    simp only [h8, Bool.false_eq_true, if_false]
                    cases h9 : (op.toList == [61, 62]) with
                    | true =>
                      simp only [h9, if_true]
                    | false =>
                      simp only [h9, Bool.false_eq_true, if_false]
                      cases h10 : (op.toList == [85]) with
                      | true =>
                        simp only [h10, if_true]
                      | false =>
                        simp only [h10, Bool.false_eq_true, if_false]
                        cases h11 : (op.toList == [87]) with
                        | true =>
                          simp only [h11, if_true]
                        | false =>
                          simp only [h11, Bool.false_eq_true, if_false]
                          cases h12 : (op.toList == [82]) with
                          | true =>
                            simp only [h12, if_true]
                          | false =>
                            simp only [h12, Bool.false_eq_true, if_false]
theorem envr4 : EnvOk glS Tryd.prog R4 := envr2.fn mixed Tryd.func58 (by kernel_rfl) fun β args k r hr => by
  unfold cKids at hr
  split at hr
  · exact ⟨_, _, hr, fun q => ev_kids _ q⟩
  · cases hr
theorem form_loop {b : Option Nat} {fs : List Fm} (hl : fs.length ≤ 4096) (hb : ∀ f ∈ fs, bd b f) : ∀ (gs : List Fm) (i : Nat), fs.drop i = gs → i ≤ fs.length →
    Lp (K59.L0 b) (K59.s0 (Fm.dL fs) i) = match formL gs with | true => some (.exit 0, K59.e0x0) | false => some (.ret, K59.e0r)
  | [], i, hi, hle => by
    have hr := K59.round0_0 b (Fm.dL fs) i
    have : fs.length ≤ i := by have := congrArg List.length hi; simp at this; omega
    rw [dL_len, if_neg (by simp; omega)] at hr
    exact Lp_exit hr
  | f :: gs, i, hi, hle => by
    have hr := K59.round0_0 b (Fm.dL fs) i
    obtain ⟨hlt, hf, hfs⟩ := drop_split hi
    rw [dL_len, if_pos (by simp; omega), if_pos (by omega), Int.toNat_natCast, dL_get hlt, hf] at hr
    have hm : f ∈ fs := hf ▸ List.getElem_mem hlt
    have hbf := hb f hm
    cases f with
    | mk op nm ks p =>
      have hof := ofD_d (.mk op nm ks p)
      simp only [Fm.d] at hr hof
      simp only [hof, if_true, if_pos hbf, wi (show i ≤ 4096 by omega)] at hr
      simp only [formL]
      cases hs : formF (.mk op nm ks p) with
      | false => rw [hs] at hr; exact Lp_exit hr
      | true =>
        rw [hs] at hr
        rw [Bool.true_and]
        simp only [Bool.not_true, Bool.false_eq_true, if_false] at hr
        rw [Lp_unfold hr, form_loop hl hb gs (i + 1) hfs (by omega)]
theorem bd_kids {b : Option Nat} {op nm : ByteArray} {ks : List Fm} {p : Int} (hs : (Fm.mk op nm ks p).sm = true) (hb : ∀ n, b = some n → (Fm.mk op nm ks p).dep ≤ n) : ks.length ≤ 4096 ∧ ∀ f ∈ ks, bd b f := by
  simp only [Fm.sm, Bool.and_eq_true, Nat.ble_eq] at hs
  refine ⟨hs.1, fun g hg => bd_none ⟨sm_mem hs.2 hg, trivial⟩ fun n hn => ?_⟩
  have h1 := hb n hn
  have h2 := dep_mem hg
  simp only [Fm.dep] at h1
  omega
theorem ev_form {b : Option Nat} {f : Fm} (hs : f.sm = true) (hb : ∀ n, b = some n → f.dep ≤ n) {γ : Type} (q : List TV → List TV → Option γ) :
    evalF Tryd.prog (R5 b) Tryd.f59 [.d true 5 f.d] q = q [.d false 0 (.bool (formF f))] [] := by
  cases f with
  | mk op nm ks p =>
    obtain ⟨h1, h2⟩ := bd_kids hs hb
    have h := form_loop (b := b) h1 h2 ks 0 rfl (by omega)
    have st := K59.start b op nm (Fm.dL ks) p q
    simp only [Fm.d]
    refine st.trans ?_
    rw [dL_len]
    simp only [formF]
    cases hk : (kidsN op == (ks.length : Int)) with
    | false => simp only [hk, Bool.not_false, if_true, Bool.false_and]
    | true =>
      simp only [hk, Bool.not_true, Bool.false_eq_true, if_false, Bool.true_and]
      cases hf : formL ks with
      | true => rw [hf] at h; exact (goLp_of h).trans (K59.behind0x0 b op nm (Fm.dL ks) p q)
      | false => rw [hf] at h; exact (goLp_of h).trans (K59.behind0r b op nm (Fm.dL ks) p q)
theorem env_one {E : Env} {f : FuncId} {fn : Func} {c : {β : Type} → Option Nat → List TV → (List TV → List TV → Option β) → Option β} {g : Fm → TV} (hE : EnvOk glS Tryd.prog E) (hf : Tryd.prog.funcs[f]? = some fn) (hn : (fn.name == "runtime.NumGoroutine") = false)
    (hc : ∀ {β : Type} (b : Option Nat) (args : List TV) (k : List TV → List TV → Option β) (r : β), c b args k = some r ↔ ∃ h : Fm, args = [.d true 5 h.d] ∧ bd b h ∧ k [g h] [] = some r)
    (hev : ∀ (b : Option Nat) (h : Fm), h.sm = true → (∀ n, b = some n → h.dep ≤ n) → ∀ {γ : Type} (q : List TV → List TV → Option γ), evalF Tryd.prog (E.add f io0 (c b)) fn [.d true 5 h.d] q = q [g h] []) :
    EnvOk glS Tryd.prog (E.add f io0 (c none)) := by
  have key : ∀ n, EnvOk glS Tryd.prog (E.add f io0 (c (some n))) := by
    intro n
    induction n with
    | zero =>
      refine hE.add fun β args k r hr => ?_
      obtain ⟨h, _, hb, _⟩ := (hc _ _ _ _).1 hr
      have := hb.2; simp only at this; omega
    | succ n ih =>
      refine hE.add fun β args k r hr => ?_
      obtain ⟨h, rfl, hb, hk⟩ := (hc _ _ _ _).1 hr
      exact ⟨_, _, hk, valid_of ih mixed hf hn (hev (some n) h hb.1 (fun m hm => by cases hm; have := hb.2; simp only at this; omega) _)⟩
  refine EnvOk.lim key fun β g' args k r hr => ?_
  simp only [Env.add] at hr ⊢
  cases hg : Nat.beq g' f with
  | false => simp only [hg] at hr ⊢; exact ⟨0, hr⟩
  | true =>
    simp only [hg] at hr ⊢
    obtain ⟨h, rfl, hb, hk⟩ := (hc _ _ _ _).1 hr
    exact ⟨h.dep + 1, (hc _ _ _ _).2 ⟨h, rfl, bd_at hb, hk⟩⟩
theorem envr5 : EnvOk glS Tryd.prog (R5 none) := env_one (c := @cForm) (g := fun h => .d false 0 (.bool (formF h))) envr4 Tryd.func59 (by kernel_rfl) (fun b args k r => by
  unfold cForm
  constructor
  · intro h
    split at h
    · split at h
      · rename_i x f hf
        unfold chkK at h
        split at h
        · rename_i hb; exact ⟨f, by rw [d_ofD _ _ hf], hb, h⟩
        · cases h
      · cases h
    · cases h
  · rintro ⟨f, rfl, hb, hk⟩
    simp only [ofD_d, chkK]
    rw [if_pos hb]; exact hk) fun b h hs hb => fun q => ev_form hs hb q
theorem is_loop {b : Option Nat} {fs : List Fm} (hl : fs.length ≤ 4096) (hb : ∀ f ∈ fs, bd b f) : ∀ (gs : List Fm) (i : Nat), fs.drop i = gs → i ≤ fs.length →
    Lp (K26.L0 b) (K26.s0 (Fm.dL fs) i) = match isL gs with | true => some (.exit 1, K26.e0x1) | false => some (.ret, K26.e0r)
  | [], i, hi, hle => by
    have hr := K26.round0_0 b (Fm.dL fs) i
    have : fs.length ≤ i := by have := congrArg List.length hi; simp at this; omega
    rw [dL_len, if_neg (by simp; omega)] at hr
    exact Lp_exit hr
  | f :: gs, i, hi, hle => by
    have hr := K26.round0_0 b (Fm.dL fs) i
    obtain ⟨hlt, hf, hfs⟩ := drop_split hi
    rw [dL_len, if_pos (by simp; omega), if_pos (by omega), Int.toNat_natCast, dL_get hlt, hf] at hr
    have hm : f ∈ fs := hf ▸ List.getElem_mem hlt
    have hbf := hb f hm
    cases f with
    | mk op nm ks p =>
      have hof := ofD_d (.mk op nm ks p)
      simp only [Fm.d] at hr hof
      simp only [hof, if_true, if_pos hbf, wi (show i ≤ 4096 by omega)] at hr
      simp only [isL]
      cases hs : isF (.mk op nm ks p) with
      | false => rw [hs] at hr; exact Lp_exit hr
      | true =>
        rw [hs] at hr
        rw [Bool.true_and]
        simp only [Bool.not_true, Bool.false_eq_true, if_false] at hr
        rw [Lp_unfold hr, is_loop hl hb gs (i + 1) hfs (by omega)]
theorem ev_is {b : Option Nat} {f : Fm} (hs : f.sm = true) (hb : ∀ n, b = some n → f.dep ≤ n) {γ : Type} (q : List TV → List TV → Option γ) :
    evalF Tryd.prog (R6 b) Tryd.f26 [.d true 5 f.d] q = q [.d false 0 (.bool (isF f))] [] := by
  cases f with
  | mk op nm ks p =>
    obtain ⟨h1, h2⟩ := bd_kids hs hb
    have h := is_loop (b := b) h1 h2 ks 0 rfl (by omega)
    have st := K26.start b op nm (Fm.dL ks) p q
    simp only [Fm.d]
    refine st.trans ?_
    rw [dL_len]
    simp only [isF]
    cases h0 : (op.toList == [70]) with
    | true =>
      simp only [h0, if_true]
    | false =>
      simp only [h0, Bool.false_eq_true, if_false]
      cases h1 : (op.toList == [71]) with
      | true =>
        simp only [h1, if_true]
      | false =>
        simp only [h1, Bool.false_eq_true, if_false]
        cases h2 : (op.toList == [87]) with
        | true =>
          simp only [h2, if_true]
        | false =>
          simp only [h2, Bool.false_eq_true, if_false]
          cases h3 : (op.toList == [61, 62]) with
          | true =>
            simp only [h3, if_true]
          | false =>
            simp only [h3, Bool.false_eq_true, if_false]
            cases h33 : (op.toList == [33]) with
            | true =>
              simp only [h33, if_true]
              clear h st h1 h2 hb hs
              cases ks with
              | nil => simp only [List.length_nil, show (((0 : Nat) : Int) == 1) = false from rfl, Bool.false_eq_true, if_false]
              | cons f1 r =>
                cases r with
                | cons f2 r =>
                  have e : ((((f1 :: f2 :: r).length : Nat) : Int) == 1) = false := by simp; omega
                  simp only [e, Bool.false_eq_true, if_false]
                | nil =>
                  cases f1 with
                  | mk o2 n2 k2 p2 =>
                    simp only [Fm.dL, Fm.d, dL_len, List.length_cons, List.length_nil, List.getElem?_cons_zero, List.getElem?_cons_succ, if_true, show (((0 + 1 : Nat) : Int) == 1) = true from rfl]
                    cases ho : (o2.toList == [108, 97, 98, 101, 108]) with
                    | false => simp only [ho, Bool.false_eq_true, if_false, Bool.false_and]
                    | true =>
                      simp only [ho, if_true, Bool.true_and]
                      cases k2 with
                      | nil => rfl
                      | cons g gs =>
                        have e : ((((g :: gs).length : Nat) : Int) == 0) = false := by simp; omega
                        rw [e]; rfl
            | false =>
              simp only [h33, Bool.false_eq_true, if_false]
              cases hk : (kidsN op == (ks.length : Int)) with
              | false => simp only [hk, Bool.not_false, if_true, Bool.false_and]
              | true =>
                simp only [hk, Bool.not_true, Bool.false_eq_true, if_false, Bool.true_and]
                cases hf : isL ks with
                | true => rw [hf] at h; exact (goLp_of h).trans (K26.behind0x1 b op nm (Fm.dL ks) p q)
                | false => rw [hf] at h; exact (goLp_of h).trans (K26.behind0r b op nm (Fm.dL ks) p q)
theorem envr6 : EnvOk glS Tryd.prog (R6 none) := env_one (c := @cIsN) (g := fun h => .d false 0 (.bool (isF h))) envr5 Tryd.func26 (by kernel_rfl) (fun b args k r => by
  unfold cIsN
  constructor
  · intro h
    split at h
    · split at h
      · rename_i x f hf
        unfold chkK at h
        split at h
        · rename_i hb; exact ⟨f, by rw [d_ofD _ _ hf], hb, h⟩
        · cases h
      · cases h
    · cases h
  · rintro ⟨f, rfl, hb, hk⟩
    simp only [ofD_d, chkK]
    rw [if_pos hb]; exact hk) fun b h hs hb => fun q => ev_is hs hb q
theorem envr7 : EnvOk glS Tryd.prog R7 := envr6.fn mixed Tryd.func89 (by kernel_rfl) fun β args k r hr => by
  unfold cConst at hr
  split at hr
  · rename_i op nm ks p
    refine ⟨_, _, hr, fun q => (K89.start op nm ks p q).trans ?_⟩
    unfold constB
    cases h : (op.toList == [116, 114, 117, 101]) with
    | true => rfl
    | false => rfl
  · cases hr
theorem envr8 : EnvOk glS Tryd.prog R8 := envr7.fn mixed Tryd.func88 (by kernel_rfl) fun β args k r hr => by
  unfold cPlain at hr
  split at hr
  · exact ⟨_, _, hr, fun q => K88.start _ q⟩
  · cases hr
theorem envr9 : EnvOk glS Tryd.prog R9 := envr8.fn mixed Tryd.func84 (by kernel_rfl) fun β args k r hr => by
  unfold cNode at hr
  split at hr
  · exact ⟨_, _, hr, fun q => K84.start _ _ q⟩
  · cases hr
theorem ev_dual (op : ByteArray) {γ : Type} (q : List TV → List TV → Option γ) : evalF Tryd.prog R9 Tryd.f83 [.d true 0 (.str op)] q = q [.d false 0 (.str (dualB op))] [] := by
  refine (K83.start op q).trans ?_
  unfold dualB
  cases h0 : (op.toList == [116, 114, 117, 101]) with
  | true =>
    simp only [h0, if_true]
  | false =>
    simp only [h0, Bool.false_eq_true, if_false]
    cases h1 : (op.toList == [102, 97, 108, 115, 101]) with
    | true =>
      simp only [h1, if_true]
    | false =>
      simp only [h1, Bool.false_eq_true, if_false]
      cases h2 : (op.toList == [38]) with
      | true =>
        simp only [h2, if_true]
      | false =>
        simp only [h2, Bool.false_eq_true, if_false]
        cases h3 : (op.toList == [124]) with
        | true =>
          simp only [h3, if_true]
        | false =>
          simp only [h3, Bool.false_eq_true, if_false]
          cases h4 : (op.toList == [85]) with
          | true =>
            simp only [h4, if_true]
          | false =>
            simp only [h4, Bool.false_eq_true, if_false]
            cases h5 : (op.toList == [82]) with
            | true =>
              simp only [h5, if_true]
            | false =>
              simp only [h5, Bool.false_eq_true, if_false]
theorem envr10 : EnvOk glS Tryd.prog R10 := envr9.fn mixed Tryd.func83 (by kernel_rfl) fun β args k r hr => by
  unfold cDual at hr
  split at hr
  · exact ⟨_, _, hr, fun q => ev_dual _ q⟩
  · cases hr
theorem envr11 : EnvOk glS Tryd.prog R11 := envr10.fn mixed Tryd.func82 (by kernel_rfl) fun β args k r hr => by
  unfold cSpent at hr
  split at hr
  · rename_i l
    unfold chkK at hr
    split at hr
    · rename_i h0
      exact ⟨_, _, hr, fun q => by rw [K82.start, wrap_id (by omega) (by omega)]⟩
    · cases hr
  · cases hr
end Go.Sd

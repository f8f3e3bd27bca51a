/- The records at the beginning of a disk, on plain data. No program is named here. -/
import Derived.Test.YtjmndhbabkjebaaGreatDoorPiX
set_option linter.unusedSimpArgs false
set_option linter.unusedVariables false
set_option linter.unnecessarySimpa false
namespace Go.Pi
open Go.Eng
def slD:D→Bool
 | .nils=>true
 | .sl _ _ _=>true
 | _=>false
def c6B:D→Int→D
 | .sl _ _ rows,a => .sl 1 false (rows.drop a.toNat)
 | d,_=>d
def b2m:D→Option Nat
 | .nils=>some 0
 | .sl 1 _ rows=>match a5B rows with
  | some _=>some rows.length
  | none=>none
 | _=>none
def a7r (R:a1A) (f:Nat) (d:D) (len:Nat):Nat→Int→Option (List (List D × Int))
 | 0,_=>none
 | k+1,a=>match R f [c6B d a] [] with
  | some (.tup [.agg [.int .i64 q,y,z],.int .i64 n,.int .i64 e],[])=>if slD y=true∧slD z=true then (if e=0 then (if 0<n∧a+n≤len then (a7r R f d len k (a+n)).map (([.int .i64 q,y,z],a+n) :: ·) else none) else some []) else none
  | _=>none
def b2y (recs:List (List D × Int)):List D × Int:=recs.getLast?.getD ([.int .i64 0,.nils,.nils],0)
def b5t (R:a1A) (fd:Nat):List D→Option (List (List D × Int))
 | [d]=>match b2m d with
  | some len=>if len≤10000000000 then a7r R fd d len (len+1) 0 else none
  | none=>none
 | _=>none
def b9V (R:a1A) (fd:Nat) (args:List D) (h:Hp):Option (D × Hp):=(b5t R fd args).bind fun recs=>some (.tup [.agg (b2y recs).1,.int .i64 (b2y recs).2],h)
def c2L (R:a1A) (fd:Nat) (args:List D) (h:Hp):Option (D × Hp):=(b5t R fd args).bind fun recs=>some (if recs=[] then .nils else .sl 1 false (recs.map fun r=>[.int .i64 r.2]),h)
end Go.Pi

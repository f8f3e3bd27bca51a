/- The records at the beginning of a disk, on plain data. No program is named here. -/
import Derived.Test.YtjmndhbabkjebaaGreatDoorPiX
set_option linter.unusedSimpArgs false
set_option linter.unusedVariables false
set_option linter.unnecessarySimpa false
namespace Go.Pi
open Go.Eng
def slD:D→Bool
 | .nils=>true
 | .sl _ _ _=>true
 | _=>false
def c6y:D→Int→D
 | .sl _ _ rows,a => .sl 1 false (rows.drop a.toNat)
 | d,_=>d
def b2j:D→Option Nat
 | .nils=>some 0
 | .sl 1 _ rows=>match a5z rows with
  | some _=>some rows.length
  | none=>none
 | _=>none
def a7n (R:a1w) (f:Nat) (d:D) (len:Nat):Nat→Int→Option (List (List D × Int))
 | 0,_=>none
 | k+1,a=>match R f [c6y d a] [] with
  | some (.tup [.agg [.int .i64 q,y,z],.int .i64 n,.int .i64 e],[])=>if slD y=true∧slD z=true then (if e=0 then (if 0<n∧a+n≤len then (a7n R f d len k (a+n)).map (([.int .i64 q,y,z],a+n) :: ·) else none) else some []) else none
  | _=>none
def b1w (recs:List (List D × Int)):List D × Int:=recs.getLast?.getD ([.int .i64 0,.nils,.nils],0)
def b5t (R:a1w) (fd:Nat):List D→Option (List (List D × Int))
 | [d]=>match b2j d with
  | some len=>if len≤10000000000 then a7n R fd d len (len+1) 0 else none
  | none=>none
 | _=>none
def b6I (R:a1w) (fd:Nat) (args:List D) (h:Hp):Option (D × Hp):=(b5t R fd args).bind fun recs=>some (.tup [.agg (b1w recs).1,.int .i64 (b1w recs).2],h)
def b9W (R:a1w) (fd:Nat) (args:List D) (h:Hp):Option (D × Hp):=(b5t R fd args).bind fun recs=>some (if recs=[] then .nils else .sl 1 false (recs.map fun r=>[.int .i64 r.2]),h)
end Go.Pi

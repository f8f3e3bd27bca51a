/- The operations, each by the few numbers that it needs of a table. No program is named here. -/
import Derived.Test.YtkpnnfhodlanjaaGreatDoorPiV
import Derived.Lib.Bytealg
import Derived.Laws.Externs
set_option linter.unusedSimpArgs false
set_option linter.unusedVariables false
set_option linter.unnecessarySimpa false
namespace Go.Pi
open Go.Eng
def pFA (off:Nat) (x:D):Option D:=match x with
 | .fptr cs=>match Nat.blt off cs.length with
  | true=>some (.fptr (cs.drop off))
  | false=>none
 | .ptr o i k=>some (.ptr o i (k+off))
 | _=>none
def pL1 (h:Hp) (p:D):Option D:=match p with
 | .fptr cs=>cs.head?
 | .ptr o k off=>match h.row o k with
  | some row=>(row.drop off).head?
  | none=>none
 | _=>none
def a8d (n:Nat) (cs:List D):Option D:=match Nat.ble n cs.length with
 | true=>some (.agg (cs.take n))
 | false=>none
def a1Z (x:D):Option D:=if x.okv then some (.fptr (a0A x)) else none
def a0J (T:Tab) (t n:Nat) (is:List Nat) (ds:List D):Option D:=(a2d T t n is ds).bind fun (_,sz,rows)=>some (.sl sz true rows)
def pSt (n:Nat) (h:Hp) (p v:D):Option Hp:=match p with
 | .ptr o k off=>match h[o]? with
  | some (.row U sz rows)=>match rows[k]? with
   | some row=>match Nat.beq (a0A v).length n&&Nat.ble (off+n) row.length&&v.okv with
    | true=>some (h.set o (.row U sz (rows.set k (spl row off (a0A v)))))
    | false=>none
   | none=>none
  | _=>none
 | _=>none
def c5d (e sz:Nat) (h:Hp) (x:D):Option (D × Hp):=if x.okv=true∧(a0A x).length=sz∧0<sz then some (.ptr h.length 0 0,a1h h e sz [a0A x]) else none
def a1B (call:a0Z) (f:D) (as:List D) (h:Hp):Option (D × Hp):=a2t (fun _=>none) call 0 (.call ⟨.value (.tmp 0), #[], #[]⟩) (f::as) h
def nth (k:Nat) (ds:List D):D:=match k with
 | 0=>hdD ds
 | k+1=>nth k (tlD ds)
-- tables as lists
def b7A (L:List (Option TI)):Tab:=fun t=>match L[t]? with
 | some (some i)=>some i
 | _=>none
def a7j (P:Program):Nat→List (Option TI)→Prop
 | _,[]=>True
 | k,none::r=>a7j P (k+1) r
 | k,some i::r=>(a3g P k=some i∧a1G P k=true)∧a7j P (k+1) r
theorem a8G {P:Program}:∀ (L:List (Option TI)) (k:Nat),a7j P k L→∀ t i,L[t]?=some (some i)→a3g P (k+t)=some i∧a1G P (k+t)=true
 | [],k,_,t,i,h=>by simp at h
 | none::r,k,hk,t,i,h=>by
  cases t with
  | zero=>simp at h
  | succ t =>
   have:=a8G r (k+1) hk t i (by simpa using h)
   rwa [show k+1+t=k+(t+1) from by omega] at this
 | some j::r,k,hk,t,i,h=>by
  cases t with
  | zero =>
   simp at h
   subst h
   exact hk.1
  | succ t =>
   have:=a8G r (k+1) hk.2 t i (by simpa using h)
   rwa [show k+1+t=k+(t+1) from by omega] at this
theorem b4R {P:Program} {L:List (Option TI)} (h:a7j P 0 L):TabOK P (b7A L):=fun t i ht=>by
 unfold b7A at ht
 split at ht
 ·rename_i j hj
  injection ht with ht
  subst ht
  have:=a8G L 0 h t j hj
  rwa [Nat.zero_add] at this
 ·cases ht
def b9P:List (Nat × FnI)→FuncId→Option FnI
 | [],_=>none
 | (k,i)::r,f=>match Nat.beq k f with
  | true=>some i
  | false=>b9P r f
def b3J (P:Program):List (Nat × FnI)→Prop
 | []=>True
 | (k,i)::r=>FnOK P k i∧b3J P r
theorem b1T {P:Program}:∀ (L:List (Nat × FnI)),b3J P L→∀ f fi,b9P L f=some fi→FnOK P f fi
 | [],_,f,fi,h=>by cases h
 | (k,i)::r,hk,f,fi,h=>by
  simp only [b9P] at h
  split at h
  ·rename_i hb
   injection h with h
   subst h
   have:=Nat.eq_of_beq_eq_true hb
   subst this
   exact hk.1
  ·exact b1T r hk.2 f fi h
theorem FnOK.of {P:Program} {f:FuncId} {fn:Func} {fi:FnI} (hf:P.funcs[f]?=some fn) (hb:fn.body=some fi.body) (hn:fn.ntmps=fi.A.nt) (hr:fn.results.toList=fi.res) (he:∀ (as:Array Value) (w:World),(callFunc f as).run P w = .ok (.enter f as) w):FnOK P f fi:=⟨⟨fn,hf,hb,hn,hr⟩,he⟩
end Go.Pi

/- The operations, each by the few numbers that it needs of a table. No program is named here. -/
import Derived.Test.YtjmndhbabkjebaaGreatDoorPiV
import Derived.Lib.Bytealg
import Derived.Laws.Externs
set_option linter.unusedSimpArgs false
set_option linter.unusedVariables false
set_option linter.unnecessarySimpa false
namespace Go.Pi
open Go.Eng
def pFA (off:Nat) (x:D):Option D:=match x with
 | .fptr cs=>match Nat.blt off cs.length with
  | true=>some (.fptr (cs.drop off))
  | false=>none
 | .ptr o i k=>some (.ptr o i (k+off))
 | _=>none
def pL1 (h:Hp) (p:D):Option D:=match p with
 | .fptr cs=>cs.head?
 | .ptr o k off=>match h.row o k with
  | some row=>(row.drop off).head?
  | none=>none
 | _=>none
def a8N (n:Nat) (cs:List D):Option D:=match Nat.ble n cs.length with
 | true=>some (.agg (cs.take n))
 | false=>none
def d7a (x y:D):Option D:=match x,y with
 | .str s,.int _ i=>if 0≤i then match s[i.toNat]? with
  | some c=>some (.int .u8 c.toNat)
  | none=>none
  else none
 | _,_=>none
def d6w (x:D):Option D:=match x with
 | .str s=>some (.int .i64 s.length)
 | _=>none
def a2R (x:D):Option D:=if x.okv then some (.fptr (a0B x)) else none
def a0X (T:Tab) (t n:Nat) (is:List Nat) (ds:List D):Option D:=(a2M T t n is ds).bind fun (_,sz,rows)=>some (.sl sz true rows)
def pSt (n:Nat) (h:Hp) (p v:D):Option Hp:=match p with
 | .ptr o k off=>match h[o]? with
  | some (.row U sz rows)=>match rows[k]? with
   | some row=>match Nat.beq (a0B v).length n&&Nat.ble (off+n) row.length&&v.okv with
    | true=>some (h.set o (.row U sz (rows.set k (spl row off (a0B v)))))
    | false=>none
   | none=>none
  | _=>none
 | _=>none
def b5j (e sz:Nat) (h:Hp) (x:D):Option (D × Hp):=if x.okv=true∧(a0B x).length=sz∧0<sz then some (.ptr h.length 0 0,a0H h e sz [a0B x]) else none
def b9p (T:Tab) (h:Hp) (t n:Nat) (is:List Nat) (ds:List D):Option (D × Hp):=(a2M T t n is ds).bind fun (e,sz,rows)=>some (.msl sz h.length 0 rows.length,a0H h e sz rows)
def c2q (e:Nat) (h:Hp) (x:D):Option (D × Hp):=match x with
 | .str s=>if lim s.length 1=true then some (.msl 1 h.length 0 s.length,a0H h e 1 (a1h s)) else none
 | _=>none
def d7b (e:Nat) (j iu:TI) (h:Hp) (x y:D):Option (D × Hp):=match Nat.blt 0 j.sz,b5r h iu j y with
 | true,some []=>match x with
  | .nils=>some (.nils,h)
  | .sl a b c=>some (.sl a b c,h)
  | .msl a b c f=>some (.msl a b c f,h)
  | _=>none
 | true, some ys=>match x with
  | .nils=>if lim ys.length j.by_=true then some (.msl j.sz h.length 0 ys.length,a0H h e j.sz ys) else none
  | .sl sz true rows=>if sz=j.sz∧lim (rows.length+ys.length) j.by_=true then some (.msl j.sz h.length 0 (rows.length+ys.length),a0H h e j.sz (rows++ys)) else none
  | .msl sz o 0 n=>match h[o]? with
   | some (.row U z rows)=>if sz=j.sz∧z=sz∧U=e∧n≤rows.length∧lim (n+ys.length) j.by_=true then
     (if n=rows.length then some (.msl j.sz h.length 0 (n+ys.length),a0H (h.set o .dead) e j.sz (rows++ys))
     else if n+ys.length≤rows.length then some (.msl sz o 0 (n+ys.length),h.set o (.row U z (rows.take n++ys++rows.drop (n+ys.length)))) else none)
    else none
   | _=>none
  | _=>none
 | _,_=>none
def a4H (call:a1A) (f:D) (as:List D) (h:Hp):Option (D × Hp):=a3W (fun _=>none) call 0 (.call ⟨.value (.tmp 0), #[], #[]⟩) (f::as) h
def nth (k:Nat) (ds:List D):D:=match k with
 | 0=>hdD ds
 | k+1=>nth k (tlD ds)
-- tables as lists
def c4r (L:List (Option TI)):Tab:=fun t=>match L[t]? with
 | some (some i)=>some i
 | _=>none
def b0I (P:Program):Nat→List (Option TI)→Prop
 | _,[]=>True
 | k,none::r=>b0I P (k+1) r
 | k,some i::r=>(a4G P k=some i∧a2v P k=true)∧b0I P (k+1) r
theorem b2T {P:Program}:∀ (L:List (Option TI)) (k:Nat),b0I P k L→∀ t i,L[t]?=some (some i)→a4G P (k+t)=some i∧a2v P (k+t)=true
 | [],k,_,t,i,h=>by simp at h
 | none::r,k,hk,t,i,h=>by
  cases t with
  | zero=>simp at h
  | succ t =>
   have:=b2T r (k+1) hk t i (by simpa using h)
   rwa [show k+1+t=k+(t+1) from by omega] at this
 | some j::r,k,hk,t,i,h=>by
  cases t with
  | zero =>
   simp at h
   subst h
   exact hk.1
  | succ t =>
   have:=b2T r (k+1) hk.2 t i (by simpa using h)
   rwa [show k+1+t=k+(t+1) from by omega] at this
theorem c1h {P:Program} {L:List (Option TI)} (h:b0I P 0 L):TabOK P (c4r L):=fun t i ht=>by
 unfold c4r at ht
 split at ht
 ·rename_i j hj
  injection ht with ht
  subst ht
  have:=b2T L 0 h t j hj
  rwa [Nat.zero_add] at this
 ·cases ht
def c6T:List (Nat × FnI)→FuncId→Option FnI
 | [],_=>none
 | (k,i)::r,f=>match Nat.beq k f with
  | true=>some i
  | false=>c6T r f
def b9x (P:Program):List (Nat × FnI)→Prop
 | []=>True
 | (k,i)::r=>FnOK P k i∧b9x P r
theorem b7E {P:Program}:∀ (L:List (Nat × FnI)),b9x P L→∀ f fi,c6T L f=some fi→FnOK P f fi
 | [],_,f,fi,h=>by cases h
 | (k,i)::r,hk,f,fi,h=>by
  simp only [c6T] at h
  split at h
  ·rename_i hb
   injection h with h
   subst h
   have:=Nat.eq_of_beq_eq_true hb
   subst this
   exact hk.1
  ·exact b7E r hk.2 f fi h
theorem FnOK.of {P:Program} {f:FuncId} {fn:Func} {fi:FnI} (hf:P.funcs[f]?=some fn) (hb:fn.body=some fi.body) (hn:fn.ntmps=fi.A.nt) (hr:fn.results.toList=fi.res) (he:∀ (as:Array Value) (w:World),(callFunc f as).run P w = .ok (.enter f as) w):FnOK P f fi:=⟨⟨fn,hf,hb,hn,hr⟩,he⟩
theorem b6I {P:Program} {f:FuncId} (hf:∀ (as:Array Value) (w:World),(callFunc f as).run P w=((Extern.BytealgCompare.compare as).run P w).andThen fun v w' => .ok (.value v) w')
  {a b:List UInt8} {g:Gh} {h:Hp} {vs:List Value} (hi:Inv g h) (hr:RepL g vs [.str a,.str b]):a4M P f vs g h (.int .i64 (Lib.compareBytes a b)):=by
 cases hr with
 | cons hx r=>cases r with
  | cons hy r=>cases r with
   | nil =>
    cases hx;cases hy
    refine .inr ⟨.int .i64 (Lib.compareBytes a b),g,?_,Ext.refl g,hi,.int _ _⟩
    rw [hf,Lib.run_compareString]
    simp [Result.andThen]
def c8B (args:List D) (h:Hp):Option (D × Hp):=match args with
 | [.str a,.str b]=>some (.int .i64 (Lib.compareBytes a b),h)
 | _=>none
end Go.Pi

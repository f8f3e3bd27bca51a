/- Walking a function's code over a short list of slots: what each step of code and each operation of pure data does. No program is named here. -/
import Derived.WalkKit
import Derived.Orders
import Derived.Deep.LoopGhost
set_option linter.unusedSimpArgs false
set_option linter.unusedVariables false
namespace Go.Eng
abbrev c8N:=@Option.bind_assoc
abbrev c8O:=@Bool.false_eq_true
abbrev c8P:=@Bool.true_eq_false
abbrev c8Q:=@List.getElem?_cons_zero
abbrev c8R:=@List.getElem?_cons_succ
abbrev c8S:=@List.length_append
abbrev c8T:=@List.length_map
abbrev c8U:=@List.map_append
abbrev c8V:=@List.map_cons
abbrev c8W:=@Int.toNat_natCast
abbrev c8X:=@Bool.not_true
abbrev c8Y:=@Bool.not_false
abbrev c8Z:=@List.take_add_one
abbrev c9a:=@List.getElem?_map
abbrev c9b:=@List.mem_of_getElem?
abbrev c9c:=@List.getElem?_eq_getElem
abbrev c9d:=@List.getElem?_eq_some_iff
abbrev c9e:=@List.length_cons
abbrev c9f:=@List.length_nil
abbrev c9g:=@List.length_drop
abbrev c9h:=@List.length_take
abbrev c9i:=@List.mem_cons
abbrev c9j:=@List.mem_append
abbrev c9k:=@List.mem_map
abbrev c9l:=@List.getElem?_append_left
abbrev c9m:=@List.getElem?_set_ne
abbrev c9n:=@Option.bind_eq_some_iff
abbrev Env:=List (Nat × Value)
def lk:Env→Nat→Option Value
 | [],_=>none
 | (k,v)::r,t=>match Nat.beq k t with
  | true=>some v
  | false=>lk r t
def ev (e:Env):Operand→Option Value
 | .tmp t=>lk e t
 | .const v=>some v
 | .global g=>some (.pointer (some ⟨g,0,none⟩))
 | .func f=>some (.func (.func f) #[] #[])
structure Sat (n:Nat) (e:Env) (a:Act):Prop where
 size:a.tmps.size=n
 defers:a.defers=[]
 get:∀ t v,lk e t=some v→a.tmps.getD t undef=v
def c1Y (e:Env) (ρ:Operand→Value):Prop:=∀ x v,ev e x=some v→ρ x=v
section
variable {n:Nat} {e:Env} {a:Act}
theorem a2H (k:Nat) (v:Value) (r:Env) (t:Nat):lk ((k,v)::r) t=if k=t then some v else lk r t:=by
 simp only [lk]
 by_cases h:k=t
 ·subst h;simp
 ·have:Nat.beq k t=false:=by
    cases hb:Nat.beq k t with
    | true=>exact absurd (Nat.eq_of_beq_eq_true hb) h
    | false=>rfl
  rw [this,if_neg h]
theorem Sat.put (h:Sat n e a) {d:Nat} (hd:d<n) (v:Value):Sat n ((d,v)::e) (a.put (some d) v):=by
 refine ⟨by simp [Act.put,h.size],by simp [Act.put,h.defers],fun t u hu=>?_⟩
 rw [a2H] at hu
 by_cases ht:d=t
 ·subst ht
  rw [if_pos rfl] at hu
  injection hu with hu
  subst hu
  simp [Act.put,Array.getD,h.size,hd]
 ·rw [if_neg ht] at hu
  have:=h.get t u hu
  rw [← this]
  simp only [Act.put,Array.getD_eq_getD_getElem?]
  rw [Array.getElem?_setIfInBounds_ne (by omega)]
end
def Sub (e' e:Env):Prop:=∀ t v,lk e' t=some v→lk e t=some v
theorem Sub.nil {e:Env}:Sub [] e:=fun _ _ h=>by cases h
theorem Sub.cons {t:Nat} {v:Value} {r e:Env} (h:lk e t=some v) (hr:Sub r e):Sub ((t,v)::r) e:=by
 intro u x hx
 rw [a2H] at hx
 by_cases ht:t=u
 ·subst ht
  rw [if_pos rfl] at hx
  injection hx with hx
  rw [← hx];exact h
 ·rw [if_neg ht] at hx
  exact hr u x hx
theorem Sub.refl (e:Env):Sub e e:=fun _ _ h=>h
theorem Sub.trans {a b c:Env} (h:Sub a b) (k:Sub b c):Sub a c:=fun t v x=>k t v (h t v x)
theorem Sub.sat {n:Nat} {e e':Env} {a:Act} (h:Sub e' e) (hs:Sat n e a):Sat n e' a:=⟨hs.size,hs.defers,fun t v x=>hs.get t v (h t v x)⟩
def b3s:Env→List Nat
 | []=>[]
 | (k,_)::r=>k::b3s r
theorem b2t {e:Env} {t:Nat} (h:t∉b3s e):lk e t=none:=by
 induction e with
 | nil=>rfl
 | cons x r ih =>
  obtain ⟨k,v⟩:=x
  simp [b3s] at h
  rw [a2H,if_neg (fun hh=>h.1 hh.symm)]
  exact ih h.2
theorem a3w {e r:Env} {t:Nat} (h:lk e t=none):lk (e++r) t=lk r t:=by
 induction e with
 | nil=>rfl
 | cons x q ih =>
  obtain ⟨k,v⟩:=x
  rw [List.cons_append,a2H]
  rw [a2H] at h
  by_cases hk:k=t
  ·rw [if_pos hk] at h;cases h
  ·rw [if_neg hk] at h
   rw [if_neg hk];exact ih h
theorem a5s {e r:Env} {t:Nat} {v:Value} (h:lk e t=some v):lk (e++r) t=some v:=by
 induction e with
 | nil=>cases h
 | cons x q ih =>
  obtain ⟨k,u⟩:=x
  rw [List.cons_append,a2H]
  rw [a2H] at h
  by_cases hk:k=t
  ·rw [if_pos hk] at h;rw [if_pos hk];exact h
  ·rw [if_neg hk] at h;rw [if_neg hk];exact ih h
def b5j (p:List Nat) (c b:List Nat):Bool:=p.all fun k=>c.any (Nat.beq k) || !(b.any (Nat.beq k))
theorem Sub.back {c p b:Env} (hc:Sub c (p++b)) (hk:b5j (b3s p) (b3s c) (b3s b)=true):Sub (c++b) (p++b):=by
 intro t v ht
 cases h:lk c t with
 | some u =>
  rw [a5s h] at ht
  injection ht with ht
  subst ht
  exact hc t u h
 | none =>
  rw [a3w h] at ht
  by_cases hp:t∈b3s p
  ·simp only [b5j,List.all_eq_true,Bool.or_eq_true,Bool.not_eq_true',List.any_eq_true] at hk
   rcases hk t hp with ⟨x,hx,hb⟩ | hb
   ·have:=Nat.eq_of_beq_eq_true hb
    subst this
    exfalso
    have:∀ {q:Env},t∈b3s q→lk q t≠none:=by
     intro q
     induction q with
     | nil=>intro h;cases h
     | cons y r ih =>
      obtain ⟨k,u⟩:=y
      intro hm
      rw [a2H]
      by_cases hk:k=t
      ·rw [if_pos hk];simp
      ·rw [if_neg hk]
       simp [b3s] at hm
       rcases hm with hm | hm
       ·exact absurd hm.symm hk
       ·exact ih hm
    exact this hx h
   ·have hn:t∉b3s b:=by
      intro hm
      simp at hb
      exact hb t hm rfl
    rw [b2t hn] at ht
    cases ht
  ·rw [a3w (b2t hp)];exact ht
def wpC (P:Program) (n:Nat) (c:Code) (Q:Exit→Act→World→Prop) (e:Env) (w:World):Prop:=∀ a,Sat n e a→c.wp P Q a w
def wpL (P:Program) (n:Nat) (ops:Array Oper) (Q:Exit→Act→World→Prop) (l:List Oper) (e:Env) (w:World):Prop:=∀ a,Sat n e a→wpList P ops Q l a w
def pE (n:Nat) (Q:Exit→Act→World→Prop) (x:Exit) (e:Env) (w:World):Prop:=∀ a,Sat n e a→Q x a w
def CallsV (P:Program) (f:FuncId) (args:Array Value) (w:World) (R:Value→World→Prop):Prop:=Calls P f args w fun e w'=>∃ v,e = .returned v∧R v w'
theorem CallsV.mono {P:Program} {f:FuncId} {args:Array Value} {w:World} {R R':Value→World→Prop} (h:CallsV P f args w R) (hr:∀ v w',R v w'→R' v w'):CallsV P f args w R' :=
 Calls.mono h fun _ _ ⟨v,hv,h⟩=>⟨v,hv,hr _ _ h⟩
section code
variable {P:Program} {n:Nat} {Q:Exit→Act→World→Prop} {e:Env} {w:World}
theorem wpC.sub {c:Code} {e':Env} (h:wpC P n c Q e' w) (hs:Sub e' e):wpC P n c Q e w:=fun a ha=>h a (hs.sat ha)
theorem wpL.sub {ops:Array Oper} {l:List Oper} {e':Env} (h:wpL P n ops Q l e' w) (hs:Sub e' e):wpL P n ops Q l e w:=fun a ha=>h a (hs.sat ha)
theorem pE.sub {x:Exit} {e':Env} (h:pE n Q x e' w) (hs:Sub e' e):pE n Q x e w:=fun a ha=>h a (hs.sat ha)
def b9f:Nat→List Value→Env
 | _,[]=>[]
 | k,v::r=>(k,v)::b9f (k+1) r
theorem b2s:∀ (l:List Value) (k t:Nat),lk (b9f k l) t=if k≤t then l[t - k]? else none
 | [],k,t=>by simp [b9f,lk]
 | v::r,k,t=>by
  rw [b9f,a2H,b2s r (k+1) t]
  by_cases h:k=t
  ·subst h;simp
  ·rw [if_neg h]
   by_cases h1:k+1≤t
   ·rw [if_pos h1,if_pos (by omega)]
    obtain ⟨d,rfl⟩:∃ d,t=k+1+d:=⟨t - (k+1),by omega⟩
    rw [show k+1+d - (k+1)=d from by omega,show k+1+d - k=d+1 from by omega]
    simp
   ·rw [if_neg h1,if_neg (by omega)]
theorem enter {f:FuncId} {fn:Func} {c:Code} {args:List Value} {R:Value→World→Prop} (hf:P.funcs[f]?=some fn) (hb:fn.body=some c) (hn:fn.ntmps=n) (hle:Nat.ble args.length n=true)
  (h:wpC P n c (bodyPost P fn fun e w'=>∃ v,e = .returned v∧R v w') (b9f 0 args) w):CallsV P f args.toArray w R:=by
 refine calls_of_wp hf hb (h _ ⟨?_,rfl,fun t v ht=>?_⟩)
 ·have:=Nat.le_of_ble_eq_true hle
  simp [hn];omega
 ·rw [b2s] at ht
  simp only [Nat.zero_le,if_true,Nat.sub_zero] at ht
  simp [Array.getD_eq_getD_getElem?,Array.getElem?_append,(c9d.1 ht).1]
  exact (c9d.1 ht).2
def b4L (tmps:Array Value):ResultVar→Sem Value
 | .tmp t=>pure (tmps.getD t undef)
 | .cell a t=>do loadVar t (← asAddr (tmps.getD a undef))
theorem b0G (fn:Func) (tmps:Array Value):results fn tmps=(do let vs ← fn.results.mapM (b4L tmps);pure (if h:vs.size=1 then vs[0] else .tuple vs)):=by
 unfold results
 congr 1
variable {fn:Func} {R:Value→World→Prop}
end code
-- operations
def Yld (P:Program) (o:Oper) (e:Env) (w:World) (v:Value):Prop:=∀ ρ,c1Y e ρ→(execOp ρ o).run P w = .ok (.value v) w
section steps
variable {P:Program} {n:Nat} {ops:Array Oper} {Q:Exit→Act→World→Prop} {rest:List Oper} {o:Oper} {e:Env} {w:World} {d:Nat} {v:Value}
end steps
section pure_ops
variable {P:Program} {e:Env} {w:World} {d:Option Tmp} {ty:TypeId} {pos:String} {af:Array Edge} {gd:Option (Nat × Bool)}
section a9M
variable {t t':TypeId} {x y:Operand} {k:IntKind} {i j:Int} (hx:ev e x=some (.int k i)) (hy:ev e y=some (.int k j))
include hx hy
end a9M
theorem a5l {z:Int} (h0 : -9223372036854775808≤z) (h1:z≤9223372036854775807):IntKind.i64.wrap z=z:=by rw [IntKind.wrap_i64];omega
section ints64
variable {t t':TypeId} {x y:Operand} {i j:Int} (hx:ev e x=some (.int .i64 i)) (hy:ev e y=some (.int .i64 j))
include hx hy
end ints64
theorem Yld.to {o:Oper} {v:Value} (h:Yld P o e w v) (u:Value) (hu:v=u):Yld P o e w u:=by subst hu;exact h
section strings
variable {t t':TypeId} {x y:Operand} {a b:ByteArray} (hx:ev e x=some (.string a)) (hy:ev e y=some (.string b))
include hx hy
end strings
end pure_ops
end Go.Eng

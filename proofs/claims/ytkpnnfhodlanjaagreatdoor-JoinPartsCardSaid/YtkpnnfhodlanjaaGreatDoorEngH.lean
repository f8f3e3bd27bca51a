/- Comparison of structs; parts of slices. No program is named here. -/
import Derived.Test.YtkpnnfhodlanjaaGreatDoorEngG
import Derived.Laws.StructEq
set_option linter.unusedSimpArgs false
set_option linter.unusedVariables false
namespace Go.Eng
def EqT (P:Program) (t:TypeId) (a b:Value) (r:Bool):Prop:=∀ d w,(Op.equalIn (d+1) t a b).run P w = .ok r w
section
variable {P:Program}
theorem EqT.int {t:TypeId} {k k':IntKind} {a b:Int} (h:P.underlying t=some (.int k')):EqT P t (.int k a) (.int k b) (a==b):=fun d w=>run_equalIn_int w d t k k' a b h
theorem EqT.str {t:TypeId} {a b:ByteArray} (h:P.underlying t=some .string):EqT P t (.string a) (.string b) (a.toList==b.toList):=fun d w=>run_equalIn_string w d t a b h
theorem EqT.bool {t:TypeId} {a b:Bool} (h:P.underlying t=some .bool):EqT P t (.bool a) (.bool b) (a==b):=fun d w=>run_equalIn_bool' w d t a b h
def c1x (P:Program) (xs ys:List Value):List Field→List Bool→Prop
 | [],[]=>True
 | f::fs,r::rs=>("_" == f.name)=false∧One P f.type∧(∃ a b,xs[f.offset]?=some a∧ys[f.offset]?=some b∧EqT P f.type a b r)∧c1x P xs ys fs rs
 | _,_=>False
theorem a4q {d:Nat} {xs ys:List Value} {w:World}:∀ {fs:List Field} {rs:List Bool},c1x P xs ys fs rs→(Op.eqFields (d+1) xs.toArray ys.toArray fs).run P w = .ok (rs.all id) w
 | [],[],_=>by simp [Op.eqFields]
 | [],_::_,h=>h.elim
 | _::_,[],h=>h.elim
 | f::fs,r::rs,⟨h1,h2,⟨a,b,ha,hb,hr⟩,h3⟩=>by
  have hn:f.name ≠ "_" := fun hh=>by rw [hh] at h1;simp at h1
  have pa:(part f.type xs.toArray f.offset).run P w = .ok a w:=by simp [part,h2 w,ha]
  have pb:(part f.type ys.toArray f.offset).run P w = .ok b w:=by simp [part,h2 w,hb]
  simp only [Op.eqFields,hn,ne_eq,not_false_eq_true,if_true,Sem.run_bind,pa,pb,hr d w,Result.andThen_ok,Sem.run_ite]
  cases r with
  | false=>simp
  | true=>simp [a4q (w:=w) h3]
variable {e:Env} {d:Option Tmp} {ty:TypeId} {pos:String} {af:Array Edge} {gd:Option (Nat × Bool)} {w:World}
theorem a8b {t:TypeId} {fs:Array Field} {xs ys:List Value} {rs:List Bool} (ht:P.underlying t=some (.struct fs)) (hst:P.stoodInHeld t=false) (hf:c1x P xs ys fs.toList rs):(Op.equalIn 10000 t (.agg xs.toArray) (.agg ys.toArray)).run P w = .ok (rs.all id) w:=by
 have hfo:P.fieldsOf t=fs:=by simp [Program.fieldsOf,ht]
 rw [run_equalIn_struct w 9999 t _ _ (by rw [hfo];exact ht) hst,hfo]
 exact a4q hf
end
theorem a4r {α:Type} {f:α→List Value} {sz:Nat} (hf:∀ x,(f x).length=sz):∀ (xs:List α) (m:Nat),(xs.take m).flatMap f=(xs.flatMap f).take (m*sz)
 | [],m=>by simp
 | x::r,0=>by simp
 | x::r,m+1=>by
  simp only [List.take_succ_cons,List.flatMap_cons,a4r hf r m]
  rw [List.take_append,List.take_of_length_le (l:=f x) (by rw [hf,Nat.add_mul];omega),hf,show (m+1)*sz - sz=m*sz from by rw [Nat.add_mul];omega]
theorem a4l {α:Type} {f:α→List Value} {sz:Nat} (hf:∀ x,(f x).length=sz):∀ (xs:List α) (m:Nat),(xs.drop m).flatMap f=(xs.flatMap f).drop (m*sz)
 | [],m=>by simp
 | x::r,0=>by simp
 | x::r,m+1=>by
  simp only [List.drop_succ_cons,List.flatMap_cons,a4l hf r m]
  rw [List.drop_append,List.drop_eq_nil_of_le (as:=f x) (by rw [hf,Nat.add_mul];omega),hf,List.nil_append,show (m+1)*sz - sz=m*sz from by rw [Nat.add_mul];omega]
section
variable {α:Type} {g:Gw} {a:Option Addr} {n cap sz:Nat} {f:α→List Value} {xs:List α}
theorem FSf.part (h:FSf g a n cap sz f xs) {l m:Nat} (hl:l≤m) (hm:m≤n):FSf g (if cap=l then a else a.map (·.add (l*sz))) (m - l) (cap - l) sz f ((xs.take m).drop l):=by
 have hnc:=h.sl.nc
 have hc:=h.sl.cut hl hm (cap - l) (by omega) (by have:=h.sl.cm;omega) (if cap=l then a else a.map (·.add (l*sz))) (fun b o hlm hb=>by
  rw [if_neg (by omega),hb];simp [Addr.add_lit])
 exact FSf.of hc f _ h.cells (by rw [a4l h.cells,a4r h.cells]) (by rw [c9g,c9h,h.num];omega)
end
section
variable {P:Program} {n:Nat} {ops:Array Oper} {Q:Exit→Act→World→Prop} {o:Oper} {rest:List Oper} {e:Env} {w:World} {d:Nat}
end
section
variable {P:Program} {e:Env} {g:Gw} {d:Option Tmp} {ty:TypeId} {pos:String} {af:Array Edge} {gd:Option (Nat × Bool)} {t t':TypeId} {x y:Operand}
end
theorem FSf.lt {α:Type} {g:Gw} {a:Option Addr} {n cap sz:Nat} {f:α→List Value} {xs:List α} (h:FSf g a n cap sz f xs) (hn:0<n) (hs:0<sz):∀ b,b0Y a b→b<g.w.heap.size:=by
 intro b hb
 obtain ⟨b',o',rfl,h1,_⟩:=h.sl.pos hn
 simp [b0Y] at hb
 subst hb
 rcases Nat.lt_or_ge b' g.w.heap.size with hh | hh
 ·exact hh
 ·have:=g.ok b' hh
  have:=Nat.mul_pos hn hs
  omega
end Go.Eng

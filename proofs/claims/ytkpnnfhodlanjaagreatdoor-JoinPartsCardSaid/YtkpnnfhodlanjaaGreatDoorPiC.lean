/- Each operation that leaves live objects alone gives a value that its datum tells. No program is named here. -/
import Derived.Test.YtkpnnfhodlanjaaGreatDoorPiB
import Derived.Test.YtkpnnfhodlanjaaGreatDoorEngF
import Derived.Test.YtkpnnfhodlanjaaGreatDoorEngH
set_option linter.unusedSimpArgs false
set_option linter.unusedVariables false
set_option linter.unnecessarySimpa false
namespace Go.Pi
open Go.Eng
def a1W:Value→D
 | .bool b => .bool b
 | .int k n => .int k n
 | .string s => .str s.data.toList
 | .pointer none => .nilp
 | .slice none 0 0 => .nils
 | .nilFunc => .nilf
 | .nilIface => .nili
 | _ => .any
def a8z:Value→D
 | .agg cs=>match cs.toList.all (·.oneCell') with
  | true => .agg (cs.toList.map a1W)
  | false => .any
 | v=>a1W v
theorem a3a (g:Gh) (v:Value):Rep g v (a1W v):=by
 unfold a1W
 split <;> first | exact .any _ | exact .bool _ | exact .int _ _ | exact .str _ | exact .nilp | exact .nils | exact .nilf | exact .nili
theorem a8D (g:Gh) (v:Value):Rep g v (a8z v):=by
 unfold a8z
 split
 ·rename_i cs
  split
  ·rename_i h
   have:=Rep.agg (g:=g) cs.toList (cs.toList.map a1W) (by simp) (fun v hv=>(List.all_eq_true.1 h) v hv) (fun j v d h1 h2=>by
    rw [c9a,h1] at h2
    injection h2 with h2
    subst h2
    exact a3a g v)
   simpa using this
  ·exact .any _
 ·exact a3a g _
theorem a1x (g:Gh) (vs:List Value):RepL g vs (vs.map a1W) := .of (by simp) fun j v d h1 h2=>by
 rw [c9a,h1] at h2
 injection h2 with h2
 subst h2
 exact a3a g v
def b7V (P:Program) (fs:Array Field):List (Nat × Nat × Nat):=fs.toList.map fun f=>(f.type,f.offset,P.cellsOf f.type)
def a8k (P:Program):TypeDesc→TD
 | .bool => .bool
 | .int k => .int k
 | .string => .str
 | .pointer e => .ptr e
 | .slice e => .sl e
 | .array n e => .arr n e
 | .struct fs => .st (b7V P fs)
 | .func _ _ _ => .fn
 | .interface _ => .ifc
 | _ => .oth
def c5I (i:TypeInfo) (d:TD):List (String × Option Nat):=i.methods.toList.map fun m=>(m.name,match d,m.func with
 | .ptr _,some (f,true)=>(match m.path.toList with
  | []=>some f
  | _=>none)
 | _,_=>none)
def a3g (P:Program) (t:Nat):Option TI:=match P.info? t,P.underlying t with
 | some i,some u=>match i.zero with
  | some z=>some ⟨a8k P u,i.size,i.bytes,z.cells.toList.map a1W,c5I i (a8k P u)⟩
  | none=>none
 | _,_=>none
def a1G (P:Program) (t:Nat):Bool:=match P.info? t,P.underlying t with
 | some i,some u=>(match i.zero with
  | some z=>Nat.beq z.cells.size i.size&&z.cells.toList.all (·.oneCell')
  | none=>false)&&(match u with
  | .struct fs=>fs.toList.all (fun f=>f.name != "_" && (P.info? f.type).isSome) && !P.stoodInHeld t && !P.eqGuardType P.depth t
  | _=>true)
 | _,_=>false
def TabOK (P:Program) (T:Tab):Prop:=∀ t i,T t=some i→a3g P t=some i∧a1G P t=true
section tab
variable {P:Program} {T:Tab} (hT:TabOK P T) {t:Nat} {i:TI} (ht:T t=some i)
include hT ht
theorem TabOK.get:∃ inf u z,P.info? t=some inf∧P.underlying t=some u∧inf.zero=some z∧i=⟨a8k P u,inf.size,inf.bytes,z.cells.toList.map a1W,c5I inf (a8k P u)⟩∧z.cells.size=inf.size∧(∀ v∈z.cells.toList,v.oneCell'=true) ∧
  (∀ fs,u = .struct fs→(∀ f∈fs.toList,f.name ≠ "_" ∧ (P.info? f.type).isSome=true)∧P.stoodInHeld t=false∧P.eqGuardType P.depth t=false):=by
 obtain ⟨h1,h2⟩:=hT t i ht
 unfold a3g at h1
 unfold a1G at h2
 cases hi:P.info? t with
 | none=>rw [hi] at h1;simp at h1
 | some inf =>
  cases hu:P.underlying t with
  | none=>rw [hi,hu] at h1;simp at h1
  | some u =>
   rw [hi,hu] at h1 h2
   simp only at h1 h2
   cases hz:inf.zero with
   | none=>rw [hz] at h1;simp at h1
   | some z =>
    rw [hz] at h1 h2
    simp only [Option.some.injEq] at h1
    simp only [Bool.and_eq_true] at h2
    obtain ⟨⟨h3,h4⟩,h5⟩:=h2
    refine ⟨inf,u,z,rfl,rfl,hz,h1.symm,Nat.eq_of_beq_eq_true h3,fun v hv=>(List.all_eq_true.1 h4) v hv,fun fs hfs=>?_⟩
    subst hfs
    simp only [Bool.and_eq_true,Bool.not_eq_true',List.all_eq_true,bne_iff_ne,ne_eq] at h5
    exact ⟨h5.1.1,h5.1.2,h5.2⟩
theorem TabOK.size (w:World):(sizeOf t).run P w = .ok i.sz w:=by
 obtain ⟨inf,u,z,h1,h2,h3,rfl,_⟩:=hT.get ht
 simp [sizeOf,typeInfo,h1]
theorem TabOK.zrun:∃ z,(∀ w,(zeroValue t).run P w = .ok z w)∧i.zero=z.cells.toList.map a1W∧z.cells.size=i.sz∧∀ v∈z.cells.toList,v.oneCell'=true:=by
 obtain ⟨inf,u,z,h1,h2,h3,rfl,h4,h5,_⟩:=hT.get ht
 exact ⟨z,fun w=>by simp [zeroValue,typeInfo,h1,h3],rfl,h4,h5⟩
theorem TabOK.zlen:i.zero.length=i.sz:=by
 obtain ⟨z,_,h,h2,_⟩:=hT.zrun ht
 rw [h];simpa using h2
theorem TabOK.aggs (w:World):(isAgg t).run P w = .ok i.isAgg w:=by
 obtain ⟨inf,u,z,h1,h2,h3,rfl,_⟩:=hT.get ht
 cases u <;> simp [isAgg,run_underlying h2,TI.isAgg,a8k]
theorem TabOK.bool (h:i.td = .bool):P.underlying t=some .bool:=by
 obtain ⟨inf,u,z,h1,h2,h3,rfl,_⟩:=hT.get ht
 cases u <;> simp [a8k] at h
 exact h2
theorem TabOK.int {k:IntKind} (h:i.td = .int k):P.underlying t=some (.int k):=by
 obtain ⟨inf,u,z,h1,h2,h3,rfl,_⟩:=hT.get ht
 cases u <;> simp [a8k] at h
 subst h;exact h2
theorem TabOK.str (h:i.td = .str):P.underlying t=some .string:=by
 obtain ⟨inf,u,z,h1,h2,h3,rfl,_⟩:=hT.get ht
 cases u <;> simp [a8k] at h
 exact h2
theorem TabOK.ptr {e:Nat} (h:i.td = .ptr e):P.underlying t=some (.pointer e):=by
 obtain ⟨inf,u,z,h1,h2,h3,rfl,_⟩:=hT.get ht
 cases u <;> simp [a8k] at h
 subst h;exact h2
theorem TabOK.sl {e:Nat} (h:i.td = .sl e):P.underlying t=some (.slice e):=by
 obtain ⟨inf,u,z,h1,h2,h3,rfl,_⟩:=hT.get ht
 cases u <;> simp [a8k] at h
 subst h;exact h2
theorem TabOK.arr {n e:Nat} (h:i.td = .arr n e):P.underlying t=some (.array n e):=by
 obtain ⟨inf,u,z,h1,h2,h3,rfl,_⟩:=hT.get ht
 cases u <;> simp [a8k] at h
 obtain ⟨rfl,rfl⟩:=h;exact h2
theorem TabOK.fn (h:i.td = .fn):∃ a b c,P.underlying t=some (.func a b c):=by
 obtain ⟨inf,u,z,h1,h2,h3,rfl,_⟩:=hT.get ht
 cases u <;> simp [a8k] at h
 exact ⟨_,_,_,h2⟩
theorem TabOK.st {fs:List (Nat × Nat × Nat)} (h:i.td = .st fs):∃ fields,P.underlying t=some (.struct fields)∧fs=b7V P fields∧(∀ f∈fields.toList,f.name ≠ "_" ∧ (P.info? f.type).isSome=true)∧P.stoodInHeld t=false∧P.eqGuardType P.depth t=false:=by
 obtain ⟨inf,u,z,h1,h2,h3,rfl,_,_,h4⟩:=hT.get ht
 cases u <;> simp [a8k] at h
 exact ⟨_,h2,h.symm,h4 _ rfl⟩
end tab
theorem a9S {P:Program} {T:Tab} (hT:TabOK P T) {t:Nat} {m:String} {f:FuncId} (hm:b2C T t m=some f):∃ inf mr e,P.info? t=some inf∧inf.methods.find? (·.name==m)=some mr∧mr.path.toList=[]∧mr.func=some (f,true)∧P.underlying t=some (.pointer e):=by
 unfold b2C at hm
 split at hm
 case h_2=>cases hm
 rename_i i ht
 obtain ⟨inf,u,z,h1,h2,h3,rfl,_⟩:=hT.get ht
 simp only at hm
 have key:∀ (l:List Method),lkM (l.map fun m=>(m.name,match a8k P u,m.func with
 | .ptr _,some (f,true)=>(match m.path.toList with
  | []=>some f
  | _=>none)
 | _, _ => none)) m=some f→∃ mr e,l.find? (·.name==m)=some mr∧mr.path.toList=[]∧mr.func=some (f,true)∧a8k P u = .ptr e:=by
  intro l
  induction l with
  | nil=>intro h;cases h
  | cons a r ih =>
   intro h
   simp only [c8V,lkM] at h
   split at h
   ·rename_i hb
    split at h
    ·rename_i e f' htd hfu
     split at h
     ·rename_i hp
      injection h with h
      subst h
      exact ⟨a,e,by simp [List.find?_cons,hb],hp,hfu,htd⟩
     ·cases h
    ·cases h
   ·rename_i hb
    obtain ⟨mr,e,q1,q2,q3,q4⟩:=ih h
    exact ⟨mr,e,by simp [List.find?_cons,hb,q1],q2,q3,q4⟩
 obtain ⟨mr,e,q1,q2,q3,q4⟩:=key _ hm
 have hu:P.underlying t=some (.pointer e):=hT.ptr ht q4
 have hf:inf.methods.find? (·.name==m)=some mr:=by rw [← Array.find?_toList];exact q1
 exact ⟨inf,mr,e,h1,hf,q2,q3,hu⟩
theorem a7Q (P:Program):∃ k,P.types.size+Made.depth=k+1:=by
 have hdp:0<Made.depth:=by decide
 exact ⟨P.types.size+Made.depth - 1,by omega⟩
def DoesV (P:Program) (ρ:Operand→Value) (o:Oper) (g:Gh) (d:D):Prop:=(∃ v,(execOp ρ o).run P g.w = .ok (.value v) g.w∧Rep g v d)
section ops
variable {P:Program} {T:Tab} (hT:TabOK P T) {g:Gh} {ρ:Operand→Value} {dst:Option Tmp} {ty:TypeId} {pos:String} {af:Array Edge} {gd:Option (Nat × Bool)}
theorem a5Q {s:List UInt8}:(ByteArray.mk s.toArray).toList=s:=ByteArray.toList_mk s
theorem a2I {s:List UInt8}:(ByteArray.mk s.toArray).size=s.length:=by simp [ByteArray.size]
theorem b1p {c a b:Operand} {dc da db d:D} (hc:Rep g (ρ c) dc) (ha:Rep g (ρ a) da) (hb:Rep g (ρ b) db) (h:a0K dc da db=some d):DoesV P ρ ⟨dst,.pick c a b,ty,pos,af,gd⟩ g d:=by
 unfold a0K at h
 split at h
 ·injection h with h;subst h
  generalize hv:ρ c=v at hc
  cases hc
  exact ⟨ρ a,by simp [execOp,hv,asBool],ha⟩
 ·injection h with h;subst h
  generalize hv:ρ c=v at hc
  cases hc
  exact ⟨ρ b,by simp [execOp,hv,asBool],hb⟩
 ·cases h
theorem a6E (hT:TabOK P T) {x:Operand} {dx d:D} (hx:Rep g (ρ x) dx) (h:a0R T dx=some d):DoesV P ρ ⟨dst,.nilCheck x,ty,pos,af,gd⟩ g d:=by
 unfold a0R at h
 split at h
 ·injection h with h;subst h;refine ⟨ρ x,?_,hx⟩;generalize hv:ρ x=v at hx;cases hx;simp [execOp,hv]
 ·injection h with h;subst h;refine ⟨ρ x,?_,hx⟩;generalize hv:ρ x=v at hx;cases hx;simp [execOp,hv]
 ·injection h with h;subst h;refine ⟨ρ x,?_,hx⟩;generalize hv:ρ x=v at hx;cases hx;simp [execOp,hv]
 ·rename_i m t w
  split at h
  case h_2=>cases h
  rename_i f hm
  injection h with h;subst h;refine ⟨ρ x,?_,hx⟩
  obtain ⟨inf,mr,e,h1,hf,q2,q3,hu⟩:=a9S hT hm
  obtain ⟨k,hk⟩:=a7Q P
  generalize hv:ρ x=v at hx
  cases hx with
  | fn f' first caps vf vc e1 e2 rf rc =>
   match vf,e1 with
   | [u],_ =>
    have hu':=rf 0 u _ rfl rfl
    cases hu' with
    | iface _ v0 _ hv0 =>
     simp [execOp,hv,run_program,hk,nilAhead,typeInfo,h1,hf,q2,followBlind,q3]
 ·injection h with h;subst h;refine ⟨ρ x,?_,hx⟩;generalize hv:ρ x=v at hx;cases hx;simp [execOp,hv]
 ·cases h
theorem b6t {t:TypeId} {x:Operand} {op:UnOp} {dx d:D} (hx:Rep g (ρ x) dx) (h:dUn op dx=some d):DoesV P ρ ⟨dst,.unOp op t x,ty,pos,af,gd⟩ g d:=by
 unfold dUn at h
 split at h
 ·rename_i b
  injection h with h;subst h
  generalize hv:ρ x=v at hx
  cases hx
  exact ⟨.bool (!b),by simp [execOp,hv,Op.unary],.bool _⟩
 ·rename_i k n
  injection h with h;subst h
  generalize hv:ρ x=v at hx
  cases hx
  exact ⟨.int k (k.wrap (0 - n)),by simp [execOp,hv,Op.unary,Op.intArith],.int _ _⟩
 ·rename_i k n
  injection h with h;subst h
  generalize hv:ρ x=v at hx
  cases hx
  exact ⟨.int k (k.wrap (BitVec.ofInt k.bits (if k.signed then -1 else k.max) ^^^ BitVec.ofInt k.bits n).toNat),by simp [execOp,hv,Op.unary,Op.intBits],.int _ _⟩
 ·cases h
theorem a8n {op:BinOp} {tx ty':TypeId} {x y:Operand} {k:IntKind} {a b:Int} {d:D} (hx:ρ x = .int k a) (hy:ρ y = .int k b) (hs:op ≠ .shl∧op ≠ .shr) (h:a1o op k a b=some d):DoesV P ρ ⟨dst,.binOp op tx x y ty',ty,pos,af,gd⟩ g d:=by
 have key:∀ v,Rep g v d→(binOp op tx (.int k a) (.int k b)).run P g.w = .ok v g.w→DoesV P ρ ⟨dst,.binOp op tx x y ty',ty,pos,af,gd⟩ g d:=fun v hv hr=>by
  refine ⟨v,?_,hv⟩
  have hq:(eqGuard op tx x y (.int k a) (.int k b)).run P g.w = .ok () g.w:=by cases op <;> simp [eqGuard]
  simp [execOp,hx,hy,hq,hr]
 cases op
 case shl=>exact absurd rfl hs.1
 case shr=>exact absurd rfl hs.2
 case quo =>
  by_cases hb:b=0
  ·simp [a1o,hb] at h
  ·simp [a1o,hb] at h
   subst h
   exact key _ (.int _ _) (by simp [binOp,Op.intDiv,hb])
 case rem =>
  by_cases hb:b=0
  ·simp [a1o,hb] at h
  ·simp [a1o,hb] at h
   subst h
   exact key _ (.int _ _) (by simp [binOp,Op.intDiv,hb])
 all_goals
  simp only [a1o,Option.some.injEq] at h
  subst h
  first
   | exact key _ (.int _ _) (by simp [binOp,Op.intArith,Op.intCmp,Op.intBits])
   | exact key _ (.bool _) (by simp [binOp,Op.intArith,Op.intCmp,Op.intBits])
theorem a8o {op:BinOp} {tx ty':TypeId} {x y:Operand} {a b:List UInt8} {d:D} (hx:ρ x = .string ⟨a.toArray⟩) (hy:ρ y = .string ⟨b.toArray⟩) (h:a4c op a b=some d):DoesV P ρ ⟨dst,.binOp op tx x y ty',ty,pos,af,gd⟩ g d:=by
 have key:∀ v,Rep g v d→(Op.stringOp op ⟨a.toArray⟩ ⟨b.toArray⟩).run P g.w = .ok v g.w→DoesV P ρ ⟨dst,.binOp op tx x y ty',ty,pos,af,gd⟩ g d:=fun v hv hr=>by
  refine ⟨v,?_,hv⟩
  have hq:(eqGuard op tx x y (.string ⟨a.toArray⟩) (.string ⟨b.toArray⟩)).run P g.w = .ok () g.w:=by cases op <;> simp [eqGuard]
  have hb:binOp op tx (.string ⟨a.toArray⟩) (.string ⟨b.toArray⟩)=Op.stringOp op ⟨a.toArray⟩ ⟨b.toArray⟩:=by cases op <;> simp [binOp]
  simp [execOp,hx,hy,hq,hb,hr]
 cases op
 case add =>
  by_cases hl:a.length+b.length≤9223372036854775807
  ·simp [a4c,hl] at h
   subst h
   refine key (.string ⟨(a++b).toArray⟩) (.str _) ?_
   have h2:¬ (9223372036854775807:Int)<(a.length:Int)+(b.length:Int):=by omega
   have h3:(ByteArray.mk a.toArray++ByteArray.mk b.toArray)=ByteArray.mk (a++b).toArray:=by
    apply ByteArray.ext
    simp
   simp [Op.stringOp,a2I,h2,h3]
  ·simp [a4c,hl] at h
 all_goals first
  | (simp [a4c] at h;done)
  | (simp only [a4c,Option.some.injEq] at h
     subst h
     exact key _ (.bool _) (by simp [Op.stringOp,a5Q]))
end ops
end Go.Pi

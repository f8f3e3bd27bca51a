/- A statement whose order is open, operation by operation: each has a fact on its value that lasts; the operations that stand behind all others are walked one after the other. No program is named here. -/
import Derived.Test.YtkpnnfhodlanjaaGreatDoorEngD
set_option linter.unusedSimpArgs false
set_option linter.unusedVariables false
namespace Go.Eng
structure Pre (R:Gw→Gw→Prop):Prop where
 refl:∀ g,R g g
 trans:∀ a b c,R a b→R b c→R a c
theorem Ev.pre (M:Nat→Prop):Pre (Ev M):=⟨Ev.refl M,fun _ _ _ h k=>h.trans k⟩
abbrev b0h:=Value→Gw→Prop
def b7B (m:Nat) (l:List Oper):Bool:=(List.range l.length).all fun k=>Nat.blt k m||(List.range k).all fun j=>b0C j (a9x l.toArray k)
def dv (o:Oper) (v:Value):Value:=match o.dst with
 | some _=>v
 | none=>undef
structure OgDo (P:Program) (R:Gw→Gw→Prop) (J:Gw→Prop) (T:b0h) (o:Oper) (e:Env) (g:Gw):Prop where
 go:∀ ρ,c1Y e ρ →
  (∃ v g',(execOp ρ o).run P g.w = .ok (.value v) g'.w∧R g g'∧J g'∧T (dv o v) g')∨(∃ f args,(execOp ρ o).run P g.w = .ok (.enter f args) g.w∧CallsV P f args g.w (fun v w'=>∃ g',g'.w=w'∧R g g'∧J g'∧T (dv o v) g')) ∨
  (o.dst=none∧∃ g',(execOp ρ o).run P g.w = .ok .skip g'.w∧R g g'∧J g'∧T undef g')
def factsOf:List b0h→List Value→Gw→Prop
 | [],[],_=>True
 | T::s,v::vs,g=>T v g∧factsOf s vs g
 | _,_,_=>False
theorem factsOf.cons {T:b0h} {s:List b0h} {vs:List Value} {g:Gw} (h:factsOf (T::s) vs g):∃ v r,vs=v::r∧T v g∧factsOf s r g:=by
 cases vs with
 | nil=>exact h.elim
 | cons v r=>exact ⟨v,r,rfl,h.1,h.2⟩
theorem factsOf.nil {vs:List Value} {g:Gw} (h:factsOf [] vs g):vs=[]:=by
 cases vs with
 | nil=>rfl
 | cons v r=>exact h.elim
section og
variable {P:Program} {n:Nat} {Q:Exit→Act→World→Prop} {R:Gw→Gw→Prop} {J:Gw→Prop}
theorem a5U {l:List Oper} {m:Nat} (hreg:b5J n l=true) (ht:b7B m l=true):∀ (t:List Oper) (k fuel:Nat) (L:Array Bool) (a:Act) (w:World),m≤k→l.drop k=t→L.size=l.length→(∀ i,i<l.length→L[i]?=some (decide (i<k))) →
  t.length≤fuel→wpList P l.toArray Q t a w→wpAny P .any l.toArray Q fuel L a w:=by
 have hback:∀ k (hk:k<l.length),∀ x∈l[k].after,Region.binds .any x=true→x.on<k:=by
  intro k hk x hx hb
  simp only [b5J,Bool.and_eq_true] at hreg
  have:=(List.all_eq_true.1 hreg.2) k (by simp [hk])
  have hd:x.on∈a9x l.toArray k:=by
   unfold a9x
   have hok:l.toArray[k]?=some l[k]:=by simp [hk]
   rw [hok]
   simp only [c9k,List.mem_filter]
   exact ⟨x,⟨by simpa using hx,hb⟩,rfl⟩
  have:=Nat.le_of_ble_eq_true ((List.all_eq_true.1 this) _ hd)
  omega
 intro t
 induction t with
 | nil =>
  intro k fuel L a w hm hd hs hL hf h
  have hk:l.length≤k:=by simpa using hd
  have hr:Region.ready .any l.toArray L=[]:=by
   unfold Region.ready
   rw [List.filter_eq_nil_iff]
   intro i hi
   have hi':i<l.length:=by simpa using hi
   have:=hL i hi'
   rw [decide_eq_true (by omega)] at this
   simp [Array.getD_eq_getD_getElem?,this]
  cases fuel with
  | zero=>exact ⟨hr,h⟩
  | succ fuel=>exact ⟨fun _=>h,fun i hi=>by rw [hr] at hi;cases hi⟩
 | cons o t ih =>
  intro k fuel L a w hm hd hs hL hf h
  cases fuel with
  | zero=>simp at hf
  | succ fuel =>
   have hk:k<l.length:=by
    rcases Nat.lt_or_ge k l.length with hh | hh
    ·exact hh
    ·rw [List.drop_eq_nil_of_le hh] at hd;cases hd
   have hdk:=List.drop_eq_getElem_cons hk
   rw [hdk] at hd
   injection hd with ho hd'
   have hready:∀ i,i∈Region.ready .any l.toArray L→i=k:=by
    intro i hi
    unfold Region.ready at hi
    rw [List.mem_filter] at hi
    obtain ⟨hir,hi2⟩:=hi
    have hil:i<l.length:=by simpa using hir
    simp only [Bool.and_eq_true,Bool.not_eq_true'] at hi2
    obtain ⟨h1,h2⟩:=hi2
    rw [Array.getD_eq_getD_getElem?,hL i hil] at h1
    simp at h1
    rcases Nat.lt_or_ge k i with hki | hki
    ·exfalso
     have:=(List.all_eq_true.1 ht) i (by simp [hil])
     simp only [Bool.or_eq_true] at this
     rcases this with hb | hb
     ·have:=Nat.le_of_ble_eq_true hb
      omega
     ·have hmem:=memB_iff.1 ((List.all_eq_true.1 hb) k (by simp [hki]))
      unfold a9x at hmem
      have hoi:l.toArray[i]?=some l[i]:=by simp [hil]
      rw [hoi] at h2 hmem
      simp only [Option.map_some,Option.getD_some] at h2
      rw [Array.all_eq_true_iff_forall_mem] at h2
      simp only [c9k,List.mem_filter] at hmem
      obtain ⟨x,⟨hx,hb'⟩,hxk⟩:=hmem
      have:=h2 x (by simpa using hx)
      rw [hb'] at this
      simp only [c8X,Bool.false_or] at this
      rw [hxk,Array.getD_eq_getD_getElem?,hL k hk] at this
      simp at this
    ·omega
   refine ⟨fun hr=>?_,fun i hi=>?_⟩
   ·exfalso
    have hin:k∈Region.ready .any l.toArray L:=by
     unfold Region.ready
     rw [List.mem_filter]
     refine ⟨by simp [hk],?_⟩
     rw [Array.getD_eq_getD_getElem?,hL k hk]
     have hok:l.toArray[k]?=some l[k]:=by simp [hk]
     rw [hok]
     simp only [Nat.lt_irrefl,decide_false,Option.getD_some,c8Y,Bool.true_and,Option.map_some]
     rw [Array.all_eq_true_iff_forall_mem]
     intro x hx
     cases hb:Region.binds .any x with
     | false=>simp
     | true =>
      have hxl:x.on<k∨¬ x.on<k:=Decidable.em _
      rcases hxl with hxl | hxl
      ·have:=hL x.on (by omega)
       rw [decide_eq_true hxl] at this
       simp [Array.getD_eq_getD_getElem?,this]
      ·exfalso
       exact hxl (hback k hk x (by simpa using hx) hb)
    rw [hr] at hin
    cases hin
   ·have:=hready i hi
    subst this
    unfold wpOp
    have hok:l.toArray[i]?=some l[i]:=by simp [hk]
    rw [hok]
    simp only []
    rw [ho]
    unfold wpList at h
    have hnext:∀ a w,wpList P l.toArray Q t a w→wpAny P .any l.toArray Q fuel (L.setIfInBounds i true) a w:=fun a w hh=>by
     refine ih (i+1) fuel _ a w (by omega) hd' (by simp [hs]) (fun j hj=>?_) (by simpa using hf) hh
     by_cases hij:i=j
     ·subst hij
      rw [Array.getElem?_setIfInBounds_self_of_lt (by omega)]
      simp
     ·rw [Array.getElem?_setIfInBounds_ne hij,hL j hj]
      congr 1
      simp only [decide_eq_decide]
      omega
    split at h
    ·rename_i hw
     rw [if_pos hw]
     exact h.imp (Oper.wp_mono hnext) id
    ·rename_i hw
     rw [if_neg hw]
     exact hnext _ _ h
end og
end Go.Eng

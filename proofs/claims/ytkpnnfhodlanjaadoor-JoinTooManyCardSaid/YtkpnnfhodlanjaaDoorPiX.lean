/- From a row's input to data, and from what a call shows to what a row wants. No program is named here. -/
import Derived.Test.YtkpnnfhodlanjaaDoorPiW
import Derived.Test.YtkpnnfhodlanjaaDoorEngI
set_option linter.unusedSimpArgs false
set_option linter.unusedVariables false
set_option linter.unnecessarySimpa false
namespace Go.Pi
open Go.Eng Go.ChangeShapes Go.WideShapes Go.ChangeAt Go.RowKit
def Gh.all (w:World):Gh:=⟨w,[],fun _=>False⟩
theorem b2p (w:World):Inv (Gh.all w) []:=⟨rfl,fun o T sz rows h=>by simp at h,fun o o' T sz T' sz' rows rows' m m' h=>by simp at h,fun b h=>h.elim,fun o m h=>by simp [Gh.all] at h⟩
theorem Ext.below {g:Gh} {W:World} (h:Ext (Gh.all W) g):Below W.heap.size W g.w:=⟨h.os,h.tape,h.output,h.size,fun k hk=>(h.fz k ⟨hk,fun h=>h⟩).2⟩
section
variable {H:Type} {enc:TypeId × Value→H} {P:Program} {W:World}
end
theorem a9z {P:Program} {X:Cx} {R:a0F} (hR:a1f P X R) {f:FuncId} (hf:∀ (as:Array Value) (w:World),(callFunc f as).run P w = .ok (.enter f as) w) {args:List D} {d:D} {h':Hp} (h:R f args []=some (d,h')) {W:World} (hgl:GlOK (Gh.all W) X.gl) {vs:List Value} (hr:RepL (Gh.all W) vs args) {u:Value} (hu:∀ g v,Rep g v d→v=u) :
  Calls P f vs.toArray W fun e w'=>e = .returned u∧Below W.heap.size W w' :=
 Calls.mono (show CallsV P f vs.toArray W _ from by
  rcases hR _ _ _ _ _ h (Gh.all W) vs (b2p W) hgl hr with ⟨_,k⟩ | ⟨v,g',k,_⟩
  ·exact k
  ·have:=(hf vs.toArray (Gh.all W).w).symm.trans k
   injection this with this
   cases this) (by
  rintro e w' ⟨v,rfl,g',rfl,he,_,hv⟩
  rw [hu g' v hv]
  exact ⟨rfl,he.below⟩)
theorem b0S {g:Gh} {v:Value} {b:Bool} (h:Rep g v (.bool b)):v = .bool b:=by cases h;rfl
theorem a2K (h:Hp) (T sz:Nat) (rows:List (List D)):(a1p h T sz rows)[h.length]?=some (.row T sz rows):=by
 unfold a1p
 rw [List.getElem?_append_right (Nat.le_refl _)]
 simp
theorem a2L (h:Hp) (T sz:Nat) (rows:List (List D)) {o:Nat} (ho:o<h.length):(a1p h T sz rows)[o]?=h[o]?:=by
 unfold a1p
 rw [c0u ho]
end Go.Pi

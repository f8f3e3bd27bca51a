/- From a row's input to data, and from what a call shows to what a row wants. No program is named here. -/
import Derived.Test.YtkpnnfhodlanjaaGreatDoorPiW
import Derived.Test.YtkpnnfhodlanjaaGreatDoorEngI
set_option linter.unusedSimpArgs false
set_option linter.unusedVariables false
set_option linter.unnecessarySimpa false
namespace Go.Pi
open Go.Eng Go.ChangeShapes Go.WideShapes Go.ChangeAt Go.RowKit
def Gh.all (w:World):Gh:=⟨w,[],fun _=>False⟩
theorem b6O (w:World):Inv (Gh.all w) []:=⟨rfl,fun o T sz rows h=>by simp at h,fun o o' T sz T' sz' rows rows' m m' h=>by simp at h,fun b h=>h.elim,fun o m h=>by simp [Gh.all] at h⟩
theorem Ext.below {g:Gh} {W:World} (h:Ext (Gh.all W) g):Below W.heap.size W g.w:=⟨h.os,h.tape,h.output,h.size,fun k hk=>(h.fz k ⟨hk,fun h=>h⟩).2⟩
def a9M (k:IntKind) (zs:List Int):List (List D):=zs.map fun z=>[.int k z]
def a3G (k:IntKind) (zs:List Int) (d:D):Prop:=(d = .nils∧zs=[])∨d = .sl 1 false (a9M k zs)
section
variable {H:Type} {enc:TypeId × Value→H} {P:Program} {W:World}
theorem a8u {t e:TypeId} {k:IntKind} {a:Option Addr} {n cap:Nat} {d:DataW H} {p:List MemPlace} (ht:P.underlying t=some (.slice e)) (he:P.underlying e=some (.int k)) (hc:P.cellsOf e=1)
  (h:DataW.Trod enc P W 0 (fun _=>true) true t (.slice a n cap) d p):∃ (zs:List Int) (x:D),Rep (Gh.all W) (.slice a n cap) x∧a3G k zs x∧zs.length≤9223372036854775807∧(∀ z∈zs,(Lit.int k z).wf=true)∧((d = .nil∧zs=[])∨∃ sp,d = .slice (lits k zs) sp):=by
 obtain ⟨fuel,hf⟩:=h
 rcases open_ints ht he hc hf with ⟨hcs,hd⟩ | ⟨x,l,c,zs,hcs,_,hl,hm,hz,hd,hcell,hwz⟩
 ·simp [Value.cells] at hcs
  obtain ⟨rfl,rfl,rfl⟩:=hcs
  exact ⟨[],.nils,.nils,.inl ⟨rfl,rfl⟩,by simp,(fun z hz=>by cases hz),.inl ⟨congrArg Prod.fst hd,rfl⟩⟩
 ·simp [Value.cells] at hcs
  obtain ⟨rfl,rfl,rfl⟩:=hcs
  have hz':zs.length=cap:=by simpa using hz
  have hm':cap≤9223372036854775807:=by simpa [maxLen] using hm
  have hlen:(zs.take n).length=n:=by rw [c9h];omega
  have hget:∀ (i:Nat) (row:List D),(a9M k (zs.take n))[i]?=some row→i<n∧row=[.int k (zs.getD i 0)]:=fun i row hi=>by
   simp only [a9M,c9a] at hi
   cases hq:(zs.take n)[i]? with
   | none=>rw [hq] at hi;cases hi
   | some q =>
    rw [hq] at hi
    simp only [Option.map_some,Option.some.injEq] at hi
    have hin:i<n:=by
     have:=(c9d.1 hq).1
     omega
    rw [List.getElem?_take,if_pos hin] at hq
    exact ⟨hin,by rw [← hi,List.getD_eq_getElem?_getD,hq];rfl⟩
  refine ⟨zs.take n,_,.sl x n cap 1 false (a9M k (zs.take n)) (by simp only [a9M,c8T];exact hlen) hl hm' (fun h=>by cases h) (by decide) (fun row hr=>?_) (fun hne=>?_) (fun i _ => .int k (zs.getD i 0)) (fun i row hi j d hj=>?_) (fun i row hi j d hj=>rfl) (fun i row hi j d hj=>?_),.inr rfl,by omega,fun z hz=>hwz z (List.mem_of_mem_take hz),.inr ⟨_,congrArg Prod.fst hd⟩⟩
  ·simp only [a9M,c9k] at hr
   obtain ⟨z,_,rfl⟩:=hr
   rfl
  ·have hn:0<n:=by
     rcases Nat.eq_zero_or_pos n with h0 | h0
     ·subst h0;exact absurd (by simp [a9M]) hne
     ·exact h0
   obtain ⟨b,o,spot⟩:=x
   have hc0:=hcell 0 (by omega)
   have hspot:spot=none:=by simpa [Addr.add] using World.cell?_spot hc0
   subst hspot
   refine ⟨rfl,?_,fun h=>h⟩
   have:W.cell? ⟨b,o,none⟩=some (.int k (zs.getD 0 0)):=by simpa [Addr.add] using hc0
   exact World.block_lt_of_cell? W _ this
  ·obtain ⟨hin,rfl⟩:=hget i row hi
   have hj0:j=0:=by
    cases j with
    | zero=>rfl
    | succ j=>simp at hj
   subst hj0
   obtain ⟨b,o,spot⟩:=x
   have hspot:spot=none:=by simpa [Addr.add] using World.cell?_spot (hcell 0 (by omega))
   subst hspot
   have hc0:=hcell i (by omega)
   rw [Addr.add_lit] at hc0
   simpa [Gh.all] using hc0
  ·obtain ⟨hin,rfl⟩:=hget i row hi
   cases j with
   | zero=>simp at hj;subst hj;exact .int k _
   | succ j=>simp at hj
theorem b2b {t e:TypeId} {k:IntKind} {a:Option Addr} {n cap:Nat} {d:DataW H} {p:List MemPlace} (ht:P.underlying t=some (.slice e)) (he:P.underlying e=some (.int k)) (hc:P.cellsOf e=1)
  (h:DataW.Trod enc P W 0 (fun _=>true) true t (.slice a n cap) d p):∃ (zs:List Int) (x:D),Rep (Gh.all W) (.slice a n cap) x∧a3G k zs x∧zs.length≤9223372036854775807∧∀ z∈zs,(Lit.int k z).wf=true:=by
 obtain ⟨zs,x,h1,h2,h3,h4,_⟩:=a8u ht he hc h
 exact ⟨zs,x,h1,h2,h3,h4⟩
end
theorem b2R {P:Program} {X:Cx} {R:a0Z} (hR:a1I P X R) {f:FuncId} (hf:∀ (as:Array Value) (w:World),(callFunc f as).run P w = .ok (.enter f as) w) {args:List D} {d:D} {h':Hp} (h:R f args []=some (d,h')) {W:World} (hgl:GlOK (Gh.all W) X.gl) {vs:List Value} (hr:RepL (Gh.all W) vs args) {u:Value} (hu:∀ g v,Rep g v d→v=u) :
  Calls P f vs.toArray W fun e w'=>e = .returned u∧Below W.heap.size W w' :=
 Calls.mono (show CallsV P f vs.toArray W _ from by
  rcases hR _ _ _ _ _ h (Gh.all W) vs (b6O W) hgl hr with ⟨_,k⟩ | ⟨v,g',k,_⟩
  ·exact k
  ·have:=(hf vs.toArray (Gh.all W).w).symm.trans k
   injection this with this
   cases this) (by
  rintro e w' ⟨v,rfl,g',rfl,he,_,hv⟩
  rw [hu g' v hv]
  exact ⟨rfl,he.below⟩)
theorem b4I {g:Gh} {v:Value} {b:Bool} (h:Rep g v (.bool b)):v = .bool b:=by cases h;rfl
theorem a2j (h:Hp) (T sz:Nat) (rows:List (List D)):(a1h h T sz rows)[h.length]?=some (.row T sz rows):=by
 unfold a1h
 rw [List.getElem?_append_right (Nat.le_refl _)]
 simp
theorem a1T (h:Hp) (T sz:Nat) (rows:List (List D)) {o:Nat} (ho:o<h.length):(a1h h T sz rows)[o]?=h[o]?:=by
 unfold a1h
 rw [c9l ho]
end Go.Pi

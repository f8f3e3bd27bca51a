/- A package variable that is a row of whole numbers, as the row of the claim tells it. No program is named here. -/
import Derived.Test.YtjmndhbabkjebaaGreatDoorPiX
import Derived.OpenShut
import Derived.MakeChecks
import Derived.FnData
import Derived.ChangeArms
set_option linter.unusedSimpArgs false
set_option linter.unusedVariables false
set_option linter.unnecessarySimpa false
namespace Go.Pi
open Go.Eng Go.ChangeShapes Go.WideShapes Go.ChangeAt Go.RowKit
theorem c6X {P:Program} {W:World} {nm:String} {g t n e:Nat} {k:IntKind} {zs:List Int} {laid:List (String × DataW Unit)} (hg:P.globalNamed nm=some g) (ht:(P.globals[g]?).map (·.type)=some t) (hu:P.underlying t=some (.array n e))
  (he:P.underlying e=some (.int k)) (hc:P.cellsOf e=1) (hp:(laid.all fun x=>x.2.handleName?.isNone)=true) (hl:laid=[(nm,.agg (zs.map fun z => .lit (.int k z)))]) (h:laidMetH P laid W) :
  Rep (Gh.all W) (.pointer (some ⟨g,0,none⟩)) (.fptr (zs.map fun z => .int k z)):=by
 rw [MakeChecks.laidMetH_plain _ _ _ hp] at h
 subst hl
 obtain ⟨ps,⟨g0,t0,cs0,f0,p0,q0,hg0,ht0,hv0,hd0,_,_⟩,_,_⟩:=h
 obtain rfl:=Option.some.inj (hg.symm.trans hg0)
 obtain rfl:=Option.some.inj (ht.symm.trans ht0)
 obtain ⟨xs,m1,rfl,hx1,hlen,hn,hel⟩:=DataW.trod_array hu hd0
 simp only [Prod.mk.injEq,DataW.agg.injEq] at hx1
 have hxl:zs.length=xs.length:=by
  have:=congrArg List.length hx1.1
  simpa using this
 have hcell:∀ (i:Nat) (z:Int),zs[i]?=some z→W.cell? ⟨g,i,none⟩=some (.int k z):=fun i z hz=>by
  have hi:i<n:=by
   have:=(d7s.1 hz).1
   omega
  have hxi:xs[i]?=some xs[i]:=d7r (by omega)
  have h1:=hel i hi
  rw [hxi,hc,Nat.mul_one] at h1
  obtain ⟨z',e1,e2,_⟩:=DataW.trod_int he h1
  have hz':z'=z:=by
   have h2:(xs.map (·.1))[i]?=some (.lit (.int k z')):=by rw [d7p,hxi,e2];rfl
   rw [← hx1.1,d7p,hz] at h2
   simpa using h2.symm
  subst hz'
  rw [World.var?_cell hg hv0 i]
  have h3:(cs0.toList.drop i)[0]?=some (.int k z'):=by
   have:((cs0.toList.drop i).take 1)[0]?=some (.int k z'):=by rw [e1];rfl
   rw [List.getElem?_take] at this
   simpa using this
  simpa using h3
 refine .fptr g 0 _ (fun j => .int k (zs.getD j 0)) (fun hne=>⟨?_,fun hh=>hh⟩) (fun j d hj=>?_) (fun j d hj=>rfl) (fun j d hj=>?_)
 ·cases zs with
  | nil=>simp at hne
  | cons z r=>exact World.block_lt_of_cell? W _ (hcell 0 z rfl)
 ·rw [d7p] at hj
  cases hz:zs[j]? with
  | none=>rw [hz] at hj;cases hj
  | some z =>
   rw [Nat.zero_add]
   show W.cell? ⟨g,j,none⟩=_
   rw [hcell j z hz,List.getD_eq_getElem?_getD,hz];rfl
 ·rw [d7p] at hj
  cases hz:zs[j]? with
  | none=>rw [hz] at hj;cases hj
  | some z =>
   rw [hz] at hj
   simp at hj
   subst hj
   rw [List.getD_eq_getElem?_getD,hz]
   exact .int k z
end Go.Pi

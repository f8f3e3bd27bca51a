/- More laws: written-out structs and slices by their parts; the obligations of a statement whose order is open. No program is named here. -/
import Derived.Test.YtkpnnfhodlanjaaGreatDoorEngE
set_option linter.unusedSimpArgs false
set_option linter.unusedVariables false
namespace Go.Eng
section
variable {P:Program} {e:Env} {g:Gw} {d:Option Tmp} {ty:TypeId} {pos:String} {af:Array Edge} {gd:Option (Nat × Bool)}
def b0w:Nat→List Value→List (Nat × Value)
 | _,[]=>[]
 | k,x::r=>(k,x)::b0w (k+1) r
theorem a7J (cs:List Value):∀ (pre suf:List Value),cs.length≤suf.length →
  (cs.toArray.zipIdx.foldl (fun a (c,j)=>a.setIfInBounds (pre.length+j) c) (pre++suf).toArray)=(pre++cs++suf.drop cs.length).toArray:=by
 have key:∀ (cs:List Value) (k:Nat) (pre suf:List Value),cs.length≤suf.length→∀ q,pre.length=q+k →
   ((cs.zipIdx k).foldl (fun (a:Array Value) (x:Value × Nat)=>a.setIfInBounds (q+x.2) x.1) (pre++suf).toArray)=(pre++cs++suf.drop cs.length).toArray:=by
  intro cs
  induction cs with
  | nil=>intro k pre suf _ q _;simp
  | cons c r ih =>
   intro k pre suf hl q hq
   cases suf with
   | nil=>simp at hl
   | cons s t =>
    simp only [c9e] at hl
    have:=ih (k+1) (pre++[c]) t (by omega) q (by simp;omega)
    simp only [List.zipIdx_cons,List.foldl_cons]
    have h1:(pre++s::t).toArray.setIfInBounds (q+k) c=(pre++[c]++t).toArray:=by
     rw [← hq]
     simp
    rw [h1,this]
    simp
 intro pre suf hl
 have:=key cs 0 pre suf hl pre.length (by simp)
 rw [← this,← Array.foldl_toList]
 simp
def over:List Value→List Value→List Value
 | _::cs,v::vs=>v::over cs vs
 | cs,_=>cs
theorem a9A {sz:Nat}:∀ (vs:List Value) (pre suf:List Value) (k:Nat),pre.length=k*sz→suf.length=vs.length*sz→(∀ v∈vs,v.cells.size=sz) →
  Instr.fill (fun i=>some (i*sz,sz)) (pre++suf).toArray (b0w k vs)=some (pre++vs.flatMap (fun v=>v.cells.toList)).toArray
 | [],pre,suf,k,_,hs,_=>by
  have:suf=[]:=List.eq_nil_of_length_eq_zero (by simpa using hs)
  subst this
  simp [b0w,Instr.fill]
 | v::r,pre,suf,k,hp,hs,h=>by
  have hv:=h v (List.mem_cons_self ..)
  have hle:sz≤suf.length:=by rw [hs];simp [Nat.add_mul]
  simp only [b0w,Instr.fill]
  have h1:¬ (v.cells.size≠sz∨k*sz+v.cells.size>(pre++suf).toArray.size):=by
   simp [hv];omega
  have h1':(decide (v.cells.size≠sz)||decide (k*sz+v.cells.size>(pre++suf).toArray.size))=false:=by
   simp [hv];omega
  simp only [h1',c8O,if_false]
  have hf:=a7J v.cells.toList pre suf (by simpa [hv] using hle)
  have hf':v.cells.zipIdx.foldl (fun cs (c,j)=>cs.setIfInBounds (k*sz+j) c) (pre++suf).toArray=(pre++v.cells.toList++suf.drop sz).toArray:=by
   rw [← hp]
   simpa [hv] using hf
  rw [hf']
  have:=a9A r (pre++v.cells.toList) (suf.drop sz) (k+1) (by simp [hp,hv,Nat.add_mul]) (by simp [hs,Nat.add_mul]) (fun u hu=>h u (List.mem_cons_of_mem _ hu))
  rw [this]
  simp
theorem FSf.of {α:Type} {a:Option Addr} {n cap sz:Nat} {cs:List Value} (h:FSl g a n cap sz cs) (f:α→List Value) (xs:List α) (hf:∀ x,(f x).length=sz) (hc:xs.flatMap f=cs) (hn:xs.length=n):FSf g a n cap sz f xs:=⟨hc▸h,hn,hf⟩
end
section
variable {P:Program} {M:Nat→Prop} {J:Gw→Prop} {T:b0h} {o:Oper} {e:Env} {g:Gw} {v:Value}
def fEq (u:Value):b0h:=fun v _=>v=u
def fInt (p:Int→Prop):b0h:=fun v _=>∃ r:Int,v = .int .i64 r∧p r
def fStr (p:ByteArray→Prop):b0h:=fun v _=>∃ s:ByteArray,v = .string s∧p s
end
section
variable {g:Gw} {M:Nat→Prop} {J:Gw→Prop}
theorem FSf.fz {α:Type} {b o n cap sz:Nat} {f:α→List Value} {xs:List α} (h:FSf g (some ⟨b,o,none⟩) n cap sz f xs) {i j:Nat} (hi:i<n) (hj:j<sz):o+i*sz+j<g.F b:=by
 obtain ⟨b',o',h1,h2,_⟩:=h.sl.pos (by omega)
 injection h1 with h1
 injection h1 with h1 h3
 subst h1;subst h3
 have:(i+1)*sz≤n*sz:=Nat.mul_le_mul_right sz (by omega)
 rw [Nat.add_mul] at this
 omega
theorem fEq.mk {u:Value}:fEq u u g:=rfl
theorem fInt.mk {p:Int→Prop} {r:Int} (h:p r):fInt p (.int .i64 r) g:=⟨r,rfl,h⟩
theorem fStr.mk {p:ByteArray→Prop} {s:ByteArray} (h:p s):fStr p (.string s) g:=⟨s,rfl,h⟩
end
-- searching
section
variable {P:Program} {e:Env} {g:Gw} {d:Option Tmp} {ty:TypeId} {pos:String} {af:Array Edge} {gd:Option (Nat × Bool)}
end
-- a statement with one store of its own into a block that was there
def EvS (b T:Nat) (cs:List Value):Gw→Gw→Prop:=fun g g'=>Ev (· = b) g g'∧(Blk g b T cs→Blk g' b T cs)
theorem EvS.pre (b T:Nat) (cs:List Value):Pre (EvS b T cs):=⟨fun g=>⟨Ev.refl _ g,fun h=>h⟩,fun _ _ _ h k=>⟨h.1.trans k.1,fun x=>k.2 (h.2 x)⟩⟩
theorem Blk.draw {g:Gw} {b T:Nat} {cs:List Value} (h:Blk g b T cs):Blk g.draw b T cs:=h
end Go.Eng

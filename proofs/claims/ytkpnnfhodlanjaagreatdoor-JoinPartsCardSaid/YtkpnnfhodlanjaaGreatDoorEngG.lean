/- A statement whose order is open, of which some operations turn what others have made (an append in place): facts that last until then. No program is named here. -/
import Derived.Test.YtkpnnfhodlanjaaGreatDoorEngF
set_option linter.unusedSimpArgs false
set_option linter.unusedVariables false
namespace Go.Eng
section og
variable {P:Program} {n:Nat} {Q:Exit→Act→World→Prop} {R:Gw→Gw→Prop} {J:Gw→Prop}
def c4M (o:Oper) (e:Env):Option Value:=match o.dst with
 | some d=>lk e d
 | none=>match o.op with
  | .store _ (.tmp t) _=>lk e t
  | _=>some undef
structure OgDo3 (P:Program) (R:Gw→Gw→Prop) (J:Gw→Prop) (T:b0h) (o:Oper) (e:Env) (g:Gw):Prop where
 go:∀ ρ,c1Y e ρ →
  (∃ v g',o.dst≠none∧(execOp ρ o).run P g.w = .ok (.value v) g'.w∧R g g'∧J g'∧T v g')∨(∃ f args,o.dst≠none∧(execOp ρ o).run P g.w = .ok (.enter f args) g.w∧CallsV P f args g.w (fun v w'=>∃ g',g'.w=w'∧R g g'∧J g'∧T v g')) ∨
  (o.dst=none∧∃ u g',c4M o e=some u∧(execOp ρ o).run P g.w = .ok .skip g'.w∧R g g'∧J g'∧T u g')
theorem OgDo.d3 {P:Program} {R:Gw→Gw→Prop} {J:Gw→Prop} {T:b0h} {o:Oper} {e:Env} {g:Gw} {d:Nat} (h:OgDo P R J T o e g) (hd:o.dst=some d):OgDo3 P R J T o e g := .mk fun ρ hf=>by
 have hn:o.dst≠none:=by rw [hd];simp
 have hv:∀ v,dv o v=v:=fun v=>by unfold dv;rw [hd]
 rcases h.go ρ hf with ⟨v,g',h1,h2,h3,h4⟩ | ⟨f,args,h1,hc⟩ | ⟨h0,_⟩
 ·rw [hv] at h4;exact .inl ⟨v,g',hn,h1,h2,h3,h4⟩
 ·exact .inr (.inl ⟨f,args,hn,h1,hc.mono fun v w' ⟨g',k1,k2,k3,k4⟩=>⟨g',k1,k2,k3,by rwa [hv] at k4⟩⟩)
 ·exact absurd h0 hn
end og
theorem OgDo.imp {P:Program} {R:Gw→Gw→Prop} {J:Gw→Prop} {T T':b0h} {o:Oper} {e:Env} {g:Gw} (h:OgDo P R J T o e g) (ht:∀ v g',T v g'→T' v g'):OgDo P R J T' o e g := .mk fun ρ hf=>by
 rcases h.go ρ hf with ⟨v,g',h1,h2,h3,h4⟩ | ⟨f,args,h1,hc⟩ | ⟨h0,g',h1,h2,h3,h4⟩
 ·exact .inl ⟨v,g',h1,h2,h3,ht _ _ h4⟩
 ·exact .inr (.inl ⟨f,args,h1,hc.mono fun v w' ⟨g',k1,k2,k3,k4⟩=>⟨g',k1,k2,k3,ht _ _ k4⟩⟩)
 ·exact .inr (.inr ⟨h0,g',h1,h2,h3,ht _ _ h4⟩)
def EvZ (B:Nat) (g g':Gw):Prop:=Ev (fun b=>B≤b∧0<g.F b) g g'
def EvR (M:Nat→Prop) (B B':Nat) (g g':Gw):Prop:=Ev (fun b=>M b∨(B≤b∧0<g.F b)∨B'≤b) g g'
theorem EvR.pre (M:Nat→Prop) (B B':Nat):Pre (EvR M B B'):=⟨fun g=>Ev.refl _ g,fun a b c h k=>⟨k.os.trans h.os,k.tape.trans h.tape,k.output.trans h.output,Nat.le_trans h.size k.size,fun x=>Nat.le_trans (h.mono x) (k.mono x),
 fun x o ho=>(k.cell x o (Nat.lt_of_lt_of_le ho (h.mono x))).trans (h.cell x o ho),fun x hx hn=>by
  obtain ⟨h1,h2⟩:=h.keep x hx hn
  obtain ⟨k1,k2⟩:=k.keep x (Nat.lt_of_lt_of_le hx h.size) (fun hh=>hn (by rw [← h2];exact hh))
  exact ⟨k1.trans h1,k2.trans h2⟩⟩⟩
theorem EvR.of {M:Nat→Prop} {B B':Nat} (g g':Gw) (h:Ev M g g'):EvR M B B' g g':=h.weaken fun _ hb => .inl (.inl hb)
theorem EvR.hE {M:Nat→Prop} {B:Nat} {g0 g1 g':Gw} (h:Ev M g0 g1) (hB:g0.w.heap.size≤B) (hr:EvR M B g1.w.heap.size g1 g'):Ev M g0 g':=h.step hr fun x hx=>by
 rcases hx with hx | hx | hx
 ·exact .inl hx
 ·exact .inr (Nat.le_trans hB hx.1)
 ·exact .inr (Nat.le_trans h.size hx)
theorem EvZ.refl {B:Nat} (g:Gw):EvZ B g g:=Ev.refl _ g
theorem Blk.nz {g:Gw} {b T B:Nat} {cs:List Value} (h:Blk g b T cs):¬ (B≤b∧0<g.F b):=fun hh=>by
 have:=h.2
 omega
theorem Cods.nz {T:Nat} {g:Gw} {pc B:Nat} (h:Cods T g pc):¬ (B≤pc∧0<g.F pc):=by
 obtain ⟨la,ln,lc,bs,i,hb,_⟩:=h
 exact hb.nz
section
variable {P:Program} {e:Env} {g:Gw} {d:Nat} {ty:TypeId} {pos:String} {af:Array Edge} {gd:Option (Nat × Bool)} {J:Gw→Prop} {α:Type}
theorem FSf.app {g':Gw} {a:Option Addr} {n m cap sz:Nat} {f:α→List Value} {xs ys:List α} (hx:xs.length=n) (hy:ys.length=m) (hf:∀ x,(f x).length=sz) (h:FSl g' a (n+m) cap sz (xs.flatMap f++ys.flatMap f)):FSf g' a (n+m) cap sz f (xs++ys) :=
 FSf.of h f (xs++ys) hf (by rw [List.flatMap_append]) (by rw [c8S,hx,hy])
end
section
variable {P:Program} {R:Gw→Gw→Prop} {J:Gw→Prop} {T:b0h} {l:List Oper} {o:Oper} {e:Env} {g:Gw}
theorem OgDo3.imp {T':b0h} (h:OgDo3 P R J T o e g) (ht:∀ v g',T v g'→T' v g'):OgDo3 P R J T' o e g := .mk fun ρ hf=>by
 rcases h.go ρ hf with ⟨v,g',h0,h1,h2,h3,h4⟩ | ⟨f,args,h0,h1,hc⟩ | ⟨h0,u,g',hu,h1,h2,h3,h4⟩
 ·exact .inl ⟨v,g',h0,h1,h2,h3,ht _ _ h4⟩
 ·exact .inr (.inl ⟨f,args,h0,h1,hc.mono fun v w' ⟨g',k1,k2,k3,k4⟩=>⟨g',k1,k2,k3,ht _ _ k4⟩⟩)
 ·exact .inr (.inr ⟨h0,u,g',hu,h1,h2,h3,ht _ _ h4⟩)
end
end Go.Eng

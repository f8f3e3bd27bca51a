/- Small words for contracts and their use. No program is named here. -/
import Derived.Test.YtkpnnfhodlanjaaGreatDoorEngC
import Derived.KernelRfl
set_option linter.unusedSimpArgs false
set_option linter.unusedVariables false
namespace Go.Eng
def Ret (M:Nat→Prop) (g:Gw) (R:Value→Gw→Prop) (v:Value) (w':World):Prop:=∃ g',g'.w=w'∧Ev M g g'∧R v g'
theorem Ret.mono {M M':Nat→Prop} {g:Gw} {R R':Value→Gw→Prop} {v:Value} {w':World} (h:Ret M g R v w') (hM:∀ b,M b→M' b∨g.w.heap.size≤b) (hR:∀ g',R v g'→R' v g'):Ret M' g R' v w':=by
 obtain ⟨g',h1,h2,h3⟩:=h
 exact ⟨g',h1,h2.weaken hM,hR g' h3⟩
def Gw.of (w:World):Gw:=⟨w,fun _=>0,fun _ _=>rfl⟩
end Go.Eng
namespace Go.Eng
def c5M (T:Nat) (g:Gw) (pc:Nat) (la:Option Addr) (ln lc:Nat) (bs:List Int) (i:Nat):Prop :=
 Blk g pc T [.slice la ln lc,.int .i64 (i:Int)]∧FSf g la ln lc 1 (fun z:Int=>[Value.int .u8 z]) bs∧i≤ln∧(∀ z∈bs,0≤z∧z<256)∧(0<ln→∀ b,b0Y la b→b<pc)
def Cods (T:Nat) (g:Gw) (pc:Nat):Prop:=∃ la ln lc bs i,c5M T g pc la ln lc bs i
theorem Cods.ev {T:Nat} {M:Nat→Prop} {g g':Gw} {pc:Nat} (h:Cods T g pc) (he:Ev M g g') (hn:¬ M pc):Cods T g' pc:=by
 obtain ⟨la,ln,lc,bs,i,hb,hs,hi,hz,hp⟩:=h
 exact ⟨la,ln,lc,bs,i,hb.ev he hn,hs.ev he,hi,hz,hp⟩
theorem Cods.lt {T:Nat} {g:Gw} {pc:Nat} (h:Cods T g pc):pc<g.w.heap.size:=by
 obtain ⟨la,ln,lc,bs,i,hb,_⟩:=h
 exact hb.lt
end Go.Eng

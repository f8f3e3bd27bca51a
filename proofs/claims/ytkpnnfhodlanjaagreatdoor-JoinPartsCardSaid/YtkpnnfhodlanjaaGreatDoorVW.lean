/- The walks of extract.Value. -/
import Derived.Test.YtkpnnfhodlanjaaGreatDoorVA
import Derived.Test.YtkpnnfhodlanjaaGreatDoorChecked
import Derived.WalkKit
import Derived.Lib.Walk
import Derived.KernelRfl
set_option linter.unusedVariables false
set_option linter.unusedSimpArgs false
namespace Go.Proofs.YtkpnnfhodlanjaaGreatDoor
open Go.Eng Go.Pi Go.RowKit Go.Lib
def valEs:Array MapEntry := #[⟨.string ⟨nmH.toArray⟩,.func (.func 71) #[] #[],0⟩,⟨.string ⟨nmF.toArray⟩,.func (.func 73) #[] #[],1⟩,⟨.string ⟨nmT.toArray⟩,.func (.func 74) #[] #[],2⟩,⟨.string ⟨nmW.toArray⟩,.func (.func 75) #[] #[],3⟩,⟨.string ⟨nmC.toArray⟩,.func (.func 76) #[] #[],4⟩,⟨.string ⟨nmS.toArray⟩,.func (.func 77) #[] #[],5⟩]
set_option maxHeartbeats 4000000 in
set_option maxRecDepth 100000 in
theorem a7b (w:World):Calls Tryz.prog 47 #[] w fun e w'=>e = .returned (.map (some w.heap.size))∧w'=w.alloc (.map valEs 6):=by
 have mixed:Tryz.prog.follows .mixedOrders=true:=by kernel_rfl
 have hmm:=@run_makeMap Tryz.prog
 have hi:=@b4K Tryz.prog 95 9 90 Tryz.underlying95 Tryz.underlying9
 have i1:=hi w #[] 0 ⟨nmH.toArray⟩ (.func (.func 71) #[] #[]) (by kernel_rfl)
 have i2:=hi w #[⟨.string ⟨nmH.toArray⟩,.func (.func 71) #[] #[],0⟩] 1 ⟨nmF.toArray⟩ (.func (.func 73) #[] #[]) (by kernel_rfl)
 have i3:=hi w #[⟨.string ⟨nmH.toArray⟩,.func (.func 71) #[] #[],0⟩,⟨.string ⟨nmF.toArray⟩,.func (.func 73) #[] #[],1⟩] 2 ⟨nmT.toArray⟩ (.func (.func 74) #[] #[]) (by kernel_rfl)
 have i4:=hi w #[⟨.string ⟨nmH.toArray⟩,.func (.func 71) #[] #[],0⟩,⟨.string ⟨nmF.toArray⟩,.func (.func 73) #[] #[],1⟩,⟨.string ⟨nmT.toArray⟩,.func (.func 74) #[] #[],2⟩] 3 ⟨nmW.toArray⟩ (.func (.func 75) #[] #[]) (by kernel_rfl)
 have i5:=hi w #[⟨.string ⟨nmH.toArray⟩,.func (.func 71) #[] #[],0⟩,⟨.string ⟨nmF.toArray⟩,.func (.func 73) #[] #[],1⟩,⟨.string ⟨nmT.toArray⟩,.func (.func 74) #[] #[],2⟩,⟨.string ⟨nmW.toArray⟩,.func (.func 75) #[] #[],3⟩] 4 ⟨nmC.toArray⟩ (.func (.func 76) #[] #[]) (by kernel_rfl)
 have i6:=hi w #[⟨.string ⟨nmH.toArray⟩,.func (.func 71) #[] #[],0⟩,⟨.string ⟨nmF.toArray⟩,.func (.func 73) #[] #[],1⟩,⟨.string ⟨nmT.toArray⟩,.func (.func 74) #[] #[],2⟩,⟨.string ⟨nmW.toArray⟩,.func (.func 75) #[] #[],3⟩,⟨.string ⟨nmC.toArray⟩,.func (.func 76) #[] #[],4⟩] 5 ⟨nmS.toArray⟩ (.func (.func 77) #[] #[]) (by kernel_rfl)
 simp only [List.push_toArray,List.nil_append,List.cons_append,Nat.reduceAdd] at i1 i2 i3 i4 i5 i6
 go_enter Tryz.func47,Tryz.ntmps47
 go_wp2
 go_ret
 exact ⟨rfl,rfl⟩
theorem a7a (w:World) (X Y Z:Obj):Below w.heap.size w (((w.alloc X).alloc Y).alloc Z):=(((Below.refl _ w).alloc (Nat.le_refl _) X).alloc (by show _≤(w.heap.push X).size;rw [Array.size_push];omega) Y).alloc (by show _≤((w.heap.push X).push Y).size;rw [Array.size_push,Array.size_push];omega) Z
theorem b4W (w:World) (X:Obj):((w.alloc X).alloc (.map valEs 6)).heap[w.heap.size+1]?=some (.map valEs 6):=by
 have:=(MapKept.heap_alloc (w.alloc X) (.map valEs 6)).1
 have e:(w.alloc X).heap.size=w.heap.size+1:=Array.size_push _
 rwa [e] at this
set_option maxHeartbeats 4000000 in
set_option maxRecDepth 100000 in
theorem b4X (v0 v1 v2 v3 v4 v5 v6:Value) (t:ByteArray) (v8 v9:Value) (w:World):Calls Tryz.prog 31 #[.agg #[v0,v1,v2,v3,v4,v5,v6,.string t,v8,v9],.string ⟨nmC.toArray⟩] w fun e w'=>e = .returned (.tuple #[.string t,.bool true])∧Below w.heap.size w w':=by
 have mixed:Tryz.prog.follows .mixedOrders=true:=by kernel_rfl
 have hl:∀ (X:Obj),(Instr.lookup 95 (.map (some (w.heap.size+1))) (.string ⟨nmC.toArray⟩) true).run Tryz.prog ((w.alloc X).alloc (.map valEs 6)) = .ok (.tuple #[.func (.func 76) #[] #[],.bool true]) ((w.alloc X).alloc (.map valEs 6)):=fun X=>a5h (i:=4) Tryz.underlying95 Tryz.underlying9 (b4W w X) _ (by kernel_rfl)
 go_enter Tryz.func31,Tryz.ntmps31
 go_wp2_with (first | (go_at_call 47;refine (a7b _).mono ?_;rintro e w' ⟨rfl,rfl⟩) | go_in)
 go_ret2
 exact ⟨rfl,a7a w _ _ _⟩
set_option maxRecDepth 100000 in
theorem c0U (i:Nat) (hi:i≤9) (W:World):(Instr.slice 9 (.string ⟨#[48,49,50,51,52,53,54,55,56,57,97,98,99,100,101,102,103,104,105,106,107,108,109,110,111,112,113,114,115,116,117,118,119,120,121,122]⟩) (some (.int .i64 (i:Int))) (some (.int .i64 ((i:Int)+1))) none).run Tryz.prog W = .ok (.string ⟨#[UInt8.ofNat (48+i)]⟩) W:=by
 match i,hi with
 | 0,_=>exact rfl
 | 1,_=>exact rfl
 | 2,_=>exact rfl
 | 3,_=>exact rfl
 | 4,_=>exact rfl
 | 5,_=>exact rfl
 | 6,_=>exact rfl
 | 7,_=>exact rfl
 | 8,_=>exact rfl
 | 9,_=>exact rfl
set_option maxHeartbeats 4000000 in
set_option maxRecDepth 100000 in
theorem b7E (i:Nat) (v1 v2 v3 v4 v5 v6 v7 v8 v9:Value) (w:World) (hi:i≤9):Calls Tryz.prog 31 #[.agg #[.int .i64 i,v1,v2,v3,v4,v5,v6,v7,v8,v9],.string ⟨nmH.toArray⟩] w fun e w'=>e = .returned (.tuple #[.string ⟨#[UInt8.ofNat (48+i)]⟩,.bool true])∧Below w.heap.size w w':=by
 have mixed:Tryz.prog.follows .mixedOrders=true:=by kernel_rfl
 have hl:∀ (X:Obj),(Instr.lookup 95 (.map (some (w.heap.size+1))) (.string ⟨nmH.toArray⟩) true).run Tryz.prog ((w.alloc X).alloc (.map valEs 6)) = .ok (.tuple #[.func (.func 71) #[] #[],.bool true]) ((w.alloc X).alloc (.map valEs 6)):=fun X=>a5h (i:=0) Tryz.underlying95 Tryz.underlying9 (b4W w X) _ (by kernel_rfl)
 have hd:=c0U i hi
 go_enter Tryz.func31,Tryz.ntmps31
 go_wp2_with (first | (go_at_call 47;refine (a7b _).mono ?_;rintro e w' ⟨rfl,rfl⟩) | go_in)
 go_ret2
 refine ⟨?_,a7a w _ _ _⟩
 show Ending.returned (.tuple #[.string ⟨#[48+UInt8.ofNat i]⟩,.bool true])=_
 rw [UInt8.ofNat_add]
 rfl
set_option maxHeartbeats 4000000 in
set_option maxRecDepth 100000 in
theorem b3o (v0 v1 v2 v3 v4 v5 v6 v7:Value) (t:ByteArray) (v9:Value) (w:World):Calls Tryz.prog 31 #[.agg #[v0,v1,v2,v3,v4,v5,v6,v7,.string t,v9],.string ⟨nmS.toArray⟩] w fun e w'=>e = .returned (.tuple #[.string t,.bool true])∧Below w.heap.size w w':=by
 have mixed:Tryz.prog.follows .mixedOrders=true:=by kernel_rfl
 have hl:∀ (X:Obj),(Instr.lookup 95 (.map (some (w.heap.size+1))) (.string ⟨nmS.toArray⟩) true).run Tryz.prog ((w.alloc X).alloc (.map valEs 6)) = .ok (.tuple #[.func (.func 77) #[] #[],.bool true]) ((w.alloc X).alloc (.map valEs 6)):=fun X=>a5h (i:=5) Tryz.underlying95 Tryz.underlying9 (b4W w X) _ (by kernel_rfl)
 go_enter Tryz.func31,Tryz.ntmps31
 go_wp2_with (first | (go_at_call 47;refine (a7b _).mono ?_;rintro e w' ⟨rfl,rfl⟩) | go_in)
 go_ret2
 exact ⟨rfl,a7a w _ _ _⟩
theorem c4L (s:List UInt8) (h1:s≠nmH) (h2:s≠nmF) (h3:s≠nmT) (h4:s≠nmW) (h5:s≠nmC) (h6:s≠nmS):Instr.findNow .string (.string ⟨s.toArray⟩) valEs.toList 0=some none:=by
 have ne:∀ {k:List UInt8},s≠k→((⟨s.toArray⟩:ByteArray)==⟨k.toArray⟩)=false:=fun {k} h=>by
  cases hb:((⟨s.toArray⟩:ByteArray)==⟨k.toArray⟩) with
  | false=>rfl
  | true =>
   have e:=(MapKept.bytes_beq _ _).1 hb
   injection e with e
   exact absurd (by simpa using congrArg Array.toList e) h
 simp only [valEs,Instr.findNow,Instr.sameNow,ne h1,ne h2,ne h3,ne h4,ne h5,ne h6]
set_option maxHeartbeats 4000000 in
set_option maxRecDepth 100000 in
theorem c0V (v0 v1 v2 v3 v4 v5 v6 v7 v8 v9:Value) (s:List UInt8) (w:World) (h1:s≠nmH) (h2:s≠nmF) (h3:s≠nmT) (h4:s≠nmW) (h5:s≠nmC) (h6:s≠nmS) (Q:Value→World→Prop)
  (hQ:CallsV Tryz.prog 48 #[.agg #[v0,v1,v2,v3,v4,v5,v6,v7,v8,v9],.string ⟨s.toArray⟩] ((w.alloc (.cells #[v0,v1,v2,v3,v4,v5,v6,v7,v8,v9] 36)).alloc (.map valEs 6)) fun v w'=>(∃ a b,v = .tuple #[a,b])∧Q v w'):CallsV Tryz.prog 31 #[.agg #[v0,v1,v2,v3,v4,v5,v6,v7,v8,v9],.string ⟨s.toArray⟩] w Q:=by
 have mixed:Tryz.prog.follows .mixedOrders=true:=by kernel_rfl
 have hl:∀ (X:Obj),(Instr.lookup 95 (.map (some (w.heap.size+1))) (.string ⟨s.toArray⟩) true).run Tryz.prog ((w.alloc X).alloc (.map valEs 6)) = .ok (.tuple #[.nilFunc,.bool false]) ((w.alloc X).alloc (.map valEs 6)):=fun X=>b2T Tryz.underlying95 Tryz.underlying9 (b4W w X) _ (by kernel_rfl) (c4L s h1 h2 h3 h4 h5 h6)
 unfold CallsV
 go_enter Tryz.func31,Tryz.ntmps31
 go_wp2_with (first | (go_at_call 47;refine (a7b _).mono ?_;rintro e w' ⟨rfl,rfl⟩) | (go_at_call 48;refine (show Calls _ _ _ _ _ from hQ).mono ?_;rintro e w' ⟨v,rfl,⟨a,b,rfl⟩,hv⟩))
 go_ret2
 exact ⟨_,rfl,hv⟩
theorem b3n (w:World) (X Y:Obj):Below w.heap.size w ((w.alloc X).alloc Y):=((Below.refl _ w).alloc (Nat.le_refl _) X).alloc (by show _≤(w.heap.push X).size;rw [Array.size_push];omega) Y
theorem c8G:ValWalk Tryz.prog 31 48:=⟨fun i v1 v2 v3 v4 v5 v6 v7 v8 v9 w hi=>Calls.mono (b7E i v1 v2 v3 v4 v5 v6 v7 v8 v9 w hi) fun e w' ⟨h1,h2⟩=>⟨_,h1,rfl,h2⟩,fun v0 v1 v2 v3 v4 v5 v6 t v8 v9 w=>Calls.mono (b4X v0 v1 v2 v3 v4 v5 v6 t v8 v9 w) fun e w' ⟨h1,h2⟩=>⟨_,h1,rfl,h2⟩,fun v0 v1 v2 v3 v4 v5 v6 v7 t v9 w=>Calls.mono (b3o v0 v1 v2 v3 v4 v5 v6 v7 t v9 w) fun e w' ⟨h1,h2⟩=>⟨_,h1,rfl,h2⟩,fun v0 v1 v2 v3 v4 v5 v6 v7 v8 v9 s w h1 h2 h3 h4 h5 h6=>⟨_,b3n w _ _,fun Q hQ=>c0V v0 v1 v2 v3 v4 v5 v6 v7 v8 v9 s w h1 h2 h3 h4 h5 h6 Q hQ⟩⟩
end Go.Proofs.YtkpnnfhodlanjaaGreatDoor

/- extract.Value, told of plain data: of the names that are looked up in a map of functions those of the host, the trace and the stream; of all others what event.Get gives. No program is named here. -/
import Derived.Test.YtkpnnfhodlanjaaGreatDoorPiX
import Derived.Below
import Derived.MapKept
set_option linter.unusedSimpArgs false
set_option linter.unusedVariables false
set_option linter.unnecessarySimpa false
namespace Go.Pi
open Go.Eng Go.RowKit
abbrev nmH:List UInt8:=[64,104,111,115,116]
abbrev nmF:List UInt8:=[64,102,105,108,101]
abbrev nmT:List UInt8:=[64,116,105,109,101]
abbrev nmW:List UInt8:=[64,119,101,105,103,104,116]
abbrev nmC:List UInt8:=[64,116,114,97,99,101]
abbrev nmS:List UInt8:=[64,115,116,114,101,97,109]
structure ValWalk (P:Program) (f fg:FuncId):Prop where
 host:∀ (i:Nat) (v1 v2 v3 v4 v5 v6 v7 v8 v9:Value) (w:World),i≤9→CallsV P f #[.agg #[.int .i64 i,v1,v2,v3,v4,v5,v6,v7,v8,v9],.string ⟨nmH.toArray⟩] w fun v w'=>v = .tuple #[.string ⟨#[UInt8.ofNat (48+i)]⟩,.bool true]∧Below w.heap.size w w'
 trace:∀ (v0 v1 v2 v3 v4 v5 v6:Value) (t:ByteArray) (v8 v9:Value) (w:World),CallsV P f #[.agg #[v0,v1,v2,v3,v4,v5,v6,.string t,v8,v9],.string ⟨nmC.toArray⟩] w fun v w'=>v = .tuple #[.string t,.bool true]∧Below w.heap.size w w'
 stream:∀ (v0 v1 v2 v3 v4 v5 v6 v7:Value) (t:ByteArray) (v9:Value) (w:World),CallsV P f #[.agg #[v0,v1,v2,v3,v4,v5,v6,v7,.string t,v9],.string ⟨nmS.toArray⟩] w fun v w'=>v = .tuple #[.string t,.bool true]∧Below w.heap.size w w'
 get:∀ (v0 v1 v2 v3 v4 v5 v6 v7 v8 v9:Value) (s:List UInt8) (w:World),s≠nmH→s≠nmF→s≠nmT→s≠nmW→s≠nmC→s≠nmS→∃ w1,Below w.heap.size w w1∧∀ Q:Value→World→Prop,CallsV P fg #[.agg #[v0,v1,v2,v3,v4,v5,v6,v7,v8,v9],.string ⟨s.toArray⟩] w1 (fun v w'=>(∃ a b,v = .tuple #[a,b])∧Q v w')→CallsV P f #[.agg #[v0,v1,v2,v3,v4,v5,v6,v7,v8,v9],.string ⟨s.toArray⟩] w Q
def b9q (R:a0Z) (fg:Nat) (args:List D) (h:Hp):Option (D × Hp):=match args with
 | [.agg [.int .i64 a,d1,d2,d3,d4,d5,d6,.str t,.str s,d9],.str nm] =>
  if nm=nmH then (if 0≤a∧a≤9 then some (.tup [.str [UInt8.ofNat (48+a.toNat)],.bool true],h) else none)
  else if nm=nmF then none else if nm=nmT then none else if nm=nmW then none
  else if nm=nmC then some (.tup [.str t,.bool true],h) else if nm=nmS then some (.tup [.str s,.bool true],h)
  else match R fg args h with
   | some (.tup [x,y],h')=>some (.tup [x,y],h')
   | _=>none
 | _=>none
theorem a4I {g:Gh} {w1:World} (bel:Below g.w.heap.size g.w w1):Ext g ⟨w1,g.ms,g.L⟩ := .of_old ⟨bel.os,bel.tape,bel.output,bel.size,fun _ _ h=>h,fun bb hbb=>⟨⟨Nat.lt_of_lt_of_le hbb.1 bel.size,hbb.2⟩,bel.block bb hbb.1⟩⟩ rfl rfl fun bb hbb=>bel.block bb hbb
theorem b7v {g:Gh} (s:List UInt8) (b:Bool):Rep g (.tuple #[.string ⟨s.toArray⟩,.bool b]) (.tup [.str s,.bool b]) := .tup [.string ⟨s.toArray⟩,.bool b] [.str s,.bool b] rfl fun j v d hv hd=>by
 match j with
 | 0=>cases hv;cases hd;exact .str s
 | 1=>cases hv;cases hd;exact .bool b
 | j+2=>cases hv
theorem b4J {g:Gh} {v:Value} {x y:D} (h:Rep g v (.tup [x,y])):∃ a b,v = .tuple #[a,b]:=by
 cases h with
 | tup vs ds hl hr =>
  match vs,hl with
  | [a,b],_=>exact ⟨a,b,rfl⟩
theorem c0W {P:Program} {f fg:FuncId} {X:Cx} {R:a0Z} (hV:ValWalk P f fg) (hent:∀ (as:Array Value) (w:World),(callFunc f as).run P w = .ok (.enter f as) w) (hentg:∀ (as:Array Value) (w:World),(callFunc fg as).run P w = .ok (.enter fg as) w) (hR:a1I P X R)
  {args:List D} {h h':Hp} {d:D} (hd:b9q R fg args h=some (d,h')) {g:Gh} {vs:List Value} (hi:Inv g h) (hgl:GlOK g X.gl) (hr:RepL g vs args):a4G P f vs g h' d:=by
 have fin:∀ {w1:World} (s:List UInt8),Below g.w.heap.size g.w w1→∃ g':Gh,g'.w=w1∧Ext g g'∧Inv g' h∧Rep g' (.tuple #[.string ⟨s.toArray⟩,.bool true]) (.tup [.str s,.bool true]):=fun s bel =>
  ⟨⟨_,g.ms,g.L⟩,rfl,a4I bel,hi.same (a4I bel) rfl rfl fun bb hbb=>bel.block bb hbb,b7v s true⟩
 unfold b9q at hd
 split at hd
 case h_2=>cases hd
 rename_i a d1 d2 d3 d4 d5 d6 t s d9 nm
 cases hr with
 | cons hE hr=>cases hr with
  | cons hN hr =>
   cases hr
   cases hN
   split at hd
   ·rename_i hn
    subst hn
    split at hd
    case isFalse=>cases hd
    rename_i ha
    injection hd with hd
    injection hd with hd1 hd2
    subst hd1;subst hd2
    cases hE with
    | agg vs cs hl h1 hrr =>
     match vs,hl with
     | [v0,v1,v2,v3,v4,v5,v6,v7,v8,v9],_ =>
      have h0:=hrr 0 _ _ rfl rfl
      cases h0
      obtain ⟨i,rfl⟩:∃ i:Nat,a=i:=⟨a.toNat,by omega⟩
      refine .inl ⟨hent _ _,CallsV.mono (hV.host i v1 v2 v3 v4 v5 v6 v7 v8 v9 g.w (by omega)) fun v w1 ⟨e,bel⟩=>?_⟩
      subst e
      exact fin [UInt8.ofNat (48+i)] bel
   ·rename_i n1
    split at hd
    ·cases hd
    rename_i n2
    split at hd
    ·cases hd
    rename_i n3
    split at hd
    ·cases hd
    rename_i n4
    split at hd
    ·rename_i hn
     subst hn
     injection hd with hd
     injection hd with hd1 hd2
     subst hd1;subst hd2
     cases hE with
     | agg vs cs hl h1 hrr =>
      match vs,hl with
      | [v0,v1,v2,v3,v4,v5,v6,v7,v8,v9],_ =>
       have h0:=hrr 7 _ _ rfl rfl
       cases h0
       refine .inl ⟨hent _ _,CallsV.mono (hV.trace v0 v1 v2 v3 v4 v5 v6 _ v8 v9 g.w) fun v w1 ⟨e,bel⟩=>?_⟩
       subst e
       exact fin t bel
    ·rename_i n5
     split at hd
     ·rename_i hn
      subst hn
      injection hd with hd
      injection hd with hd1 hd2
      subst hd1;subst hd2
      cases hE with
      | agg vs cs hl h1 hrr =>
       match vs,hl with
       | [v0,v1,v2,v3,v4,v5,v6,v7,v8,v9],_ =>
        have h0:=hrr 8 _ _ rfl rfl
        cases h0
        refine .inl ⟨hent _ _,CallsV.mono (hV.stream v0 v1 v2 v3 v4 v5 v6 v7 _ v9 g.w) fun v w1 ⟨e,bel⟩=>?_⟩
        subst e
        exact fin s bel
     ·rename_i n6
      split at hd
      case h_2=>cases hd
      rename_i x y h2 hget
      injection hd with hd
      injection hd with hd1 hd2
      subst hd1;subst hd2
      obtain ⟨cs,hcs⟩:∃ cs,cs=[D.int .i64 a,d1,d2,d3,d4,d5,d6,.str t,.str s,d9]:=⟨_,rfl⟩
      rw [← hcs] at hE hget
      have hE0:=hE
      cases hE with
      | agg vs cs hl h1 hrr =>
       have hl:vs.length=10:=by rw [hl,hcs];rfl
       match vs,hl with
       | [v0,v1,v2,v3,v4,v5,v6,v7,v8,v9],_ =>
        obtain ⟨w1,bel,hc⟩:=hV.get v0 v1 v2 v3 v4 v5 v6 v7 v8 v9 nm g.w n1 n2 n3 n4 n5 n6
        have he:Ext g ⟨w1,g.ms,g.L⟩:=a4I bel
        have hi1:=hi.same he rfl rfl fun bb hbb=>bel.block bb hbb
        rcases hR _ _ _ _ _ hget ⟨w1,g.ms,g.L⟩ _ hi1 (hgl.extW he.toExtW) (.cons (hE0.ext he) (.cons (.str nm) .nil)) with ⟨_,h2⟩ | ⟨v,g',h2,_⟩
        ·refine .inl ⟨hent _ _,hc _ (CallsV.mono h2 fun v w' ⟨g',q1,q2,q3,q4⟩=>⟨b4J q4,g',q1,he.trans q2,q3,q4⟩)⟩
        ·rw [hentg] at h2;cases h2
theorem b4K {P:Program} {T K E:TypeId} (hT:P.underlying T=some (.map K E)) (hK:P.underlying K=some .string) (w:World) (es:Array MapEntry) (cl:Nat) (k:ByteArray) (v:Value) (hn:Instr.findNow .string (.string k) es.toList 0=some none) :
  (Instr.mapUpdate T (.map (some w.heap.size)) (.string k) v).run P (w.alloc (.map es cl)) = .ok () (w.alloc (.map (es.push ⟨.string k,v,cl⟩) (cl+1))):=by
 have hb:(w.alloc (.map es cl)).heap[w.heap.size]?=some (.map es cl):=(MapKept.heap_alloc w _).1
 have hc:(Instr.checkKey false 10000 K (.string k)).run P (w.alloc (.map es cl)) = .ok () (w.alloc (.map es cl)):=MapKept.run_checkKey (k := .string k) hK (by simp [MapKept.IsKey]) false 9999
 have he:({ w.alloc (.map es cl) with heap:=(w.alloc (.map es cl)).heap.setIfInBounds w.heap.size (.map (es.push ⟨.string k,v,cl⟩) (cl+1)) }:World)=w.alloc (.map (es.push ⟨.string k,v,cl⟩) (cl+1)):=by
  show ({ w.alloc (.map es cl) with heap:=(w.heap.push (.map es cl)).setIfInBounds w.heap.size (.map (es.push ⟨.string k,v,cl⟩) (cl+1)) }:World)={ w.alloc (.map (es.push ⟨.string k,v,cl⟩) (cl+1)) with heap:=w.heap.push (.map (es.push ⟨.string k,v,cl⟩) (cl+1)) }
  have e:(w.heap.push (.map es cl)).setIfInBounds w.heap.size (.map (es.push ⟨.string k,v,cl⟩) (cl+1))=w.heap.push (.map (es.push ⟨.string k,v,cl⟩) (cl+1)):=by
   apply Array.ext_getElem?
   intro i
   rw [Array.getElem?_setIfInBounds,Array.getElem?_push,Array.getElem?_push]
   by_cases h:w.heap.size=i
   ·subst h;simp
   ·have h':¬ i=w.heap.size:=fun e=>h e.symm
    simp [h,h']
  rw [e]
  rfl
 simp [Instr.mapUpdate,run_underlying hT,MapKept.run_getObj_map hb,hc,MapKept.run_findKey hK hn,MapKept.run_setObj_map _ hb,Result.andThen]
 exact he
theorem a5h {P:Program} {T K E:TypeId} (hT:P.underlying T=some (.map K E)) (hK:P.underlying K=some .string) {w:World} {b:Nat} {es:Array MapEntry} {cl:Nat} (hb:w.heap[b]?=some (.map es cl)) (k:ByteArray) {i:Nat} {v:Value} (hn:Instr.findNow .string (.string k) es.toList 0=some (some (i,v))) :
  (Instr.lookup T (.map (some b)) (.string k) true).run P w = .ok (.tuple #[v,.bool true]) w:=by
 have hc:∀ e,(Instr.checkKey e 10000 K (.string k)).run P w = .ok () w:=fun e=>MapKept.run_checkKey (k := .string k) hK (by simp [MapKept.IsKey]) e 9999
 simp [Instr.lookup,run_underlying hT,MapKept.run_getObj_map hb,hc,MapKept.run_findKey hK hn,Result.andThen]
theorem b2T {P:Program} {T K E:TypeId} (hT:P.underlying T=some (.map K E)) (hK:P.underlying K=some .string) {w:World} {b:Nat} {es:Array MapEntry} {cl:Nat} (hb:w.heap[b]?=some (.map es cl)) (k:ByteArray) {z:Value} (hz:(zeroValue E).run P w = .ok z w) (hn:Instr.findNow .string (.string k) es.toList 0=some none) :
  (Instr.lookup T (.map (some b)) (.string k) true).run P w = .ok (.tuple #[z,.bool false]) w:=by
 have hc:∀ e,(Instr.checkKey e 10000 K (.string k)).run P w = .ok () w:=fun e=>MapKept.run_checkKey (k := .string k) hK (by simp [MapKept.IsKey]) e 9999
 simp [Instr.lookup,run_underlying hT,MapKept.run_getObj_map hb,hc,MapKept.run_findKey hK hn,Result.andThen,hz]
end Go.Pi

/- One element more at a place of a slice (slices.Insert): told of plain data. No program is named here. -/
import Derived.Test.YtehgglgadbmecaaGreatDoorPiX
import Derived.Laws.AppendOwn
import Derived.Lib.AppendZeros
import Derived.Lib.AppendZerosOnto
import Derived.Laws.Externs
set_option linter.unusedSimpArgs false
set_option linter.unusedVariables false
set_option linter.unnecessarySimpa false
namespace Go.Pi
open Go.Eng
theorem b0K {P:Program} {ops:Array Oper} {o:Oper} {a:Act} {w:World} {K:Act→World→Prop} {Q:Exit→Act→World→Prop} {E:Prop}
  (hg:o.guard=none) (d x:Operand) (dT sT:TypeId) (hop:o.op=Op.call { callee:=Callee.builtin Builtin.copy,args := #[d,x],argTypes := #[dT,sT] })
  (v u:Value) (hd:a.eval d=v) (hx:a.eval x=u) {v':Value} {w':World} (hr:(Builtin.copy_ #[dT,sT] o.type #[v,u]).run P w = .ok v' w') (hK:K (a.put o.dst v') w') :
  if Region.wanted o (yielded ops a.tmps)=true then Oper.wp P o a w K Q else E:=by
 have hw:Region.wanted o (yielded ops a.tmps)=true:=by simp [Region.wanted,hg]
 rw [if_pos hw]
 unfold Oper.wp
 simp [execOp,hop,resolve,invoke,builtin,hd,hx,hr,Result.andThen]
 exact hK
theorem b1e {P:Program} (w:World) (tS tR e:TypeId) (ht:P.underlying tS=some (.slice e)) (size:Nat) (hz:∀ w,(Go.sizeOf e).run P w = .ok size w)
  (a b:Addr) (la ca lb cb:Nat) (hne:a.block≠b.block) {csA csB:Array Value} {eA eB:TypeId} {frA:Nat × Nat} (hA:w.heap[a.block]?=some (.cells csA eA frA)) (hA0:csA.size≠0) (hB:w.heap[b.block]?=some (.cells csB eB (0,0))) :
  (Extern.SlicesOverlaps.overlaps #[tS,tS] #[tR] #[.slice (some a) la ca,.slice (some b) lb cb]).run P w = .ok (.bool false) w:=by
 have hnb:(a.block != b.block)=true:=by simpa using hne
 have hnb':(a.block==b.block)=false:=by simpa using hne
 have hsa:w.shape? a.block=some (eA,csA.size):=by simp [World.shape?,hA]
 have hsb:w.shape? b.block=some (eB,csB.size):=by simp [World.shape?,hB]
 have hfb:w.frozen? b=false:=by simp [World.frozen?,hB]
 have hfe:w.frozen? { block:=b.block,off:=csB.size }=false:=by simp [World.frozen?,hB]
 change Sem.run P (α:=Value) (do
  let some t:=(#[tS,tS]:Array TypeId)[0]? | stuck "slices.overlaps: no parameter types"
  let .slice elem ← underlying t | stuck "slices.overlaps: slice type expected"
  let size ← sizeOf elem
  match (some a:Option Addr),(some b:Option Addr) with
  | some a,some b =>
   if la=0∨lb=0∨size=0 then pure (Value.bool false)
   else if a.block != b.block&&(← frozen a)&&(← frozen b) then unsupported .addressObserved
   else do
    if a.block != b.block then do
     noView a;noView b
     if ← mayBeOne a b then return Value.bool ((← choose (.extern "sameAddr.stringBytes" 2))==1)
    pure (Value.bool (a.block==b.block&&a.off<b.off+lb*size&&b.off<a.off+la*size))
  | _,_=>pure (Value.bool false)) w=_
 obtain ⟨q,hq⟩:∃ q,w.frozen? a=q:=⟨_,rfl⟩
 obtain ⟨q2,hq2⟩:∃ q,w.frozen? { block:=a.block,off:=csA.size }=q:=⟨_,rfl⟩
 by_cases h0:la=0∨lb=0∨size=0
 ·simp [run_underlying ht,hz,h0]
 ·cases hk:csA.size with
  | zero=>exact absurd hk hA0
  | succ kA =>
   rw [hk] at hsa hq2
   cases q <;> cases q2 <;> simp [run_underlying ht,hz,h0,hnb,hnb',frozen,noView,viewAt,mayBeOne,stringish,shape,Sem.run,hsa,hsb,hfb,hfe,hq,hq2]
structure InsWalk (P:Program) (f t tn ov sz:Nat):Prop where
 fin:∀ (base:Option Addr) (vb vo vc n c:Nat) (w w1:World) (u:Value),n≤c →
  (∀ ty,(Builtin.append_ #[t,t] ty #[.slice base n c,.slice (some ⟨vb,vo,none⟩) 1 vc]).run P w = .ok u w1) →
  Calls P f #[.slice base n c,.int .i64 n,.slice (some ⟨vb,vo,none⟩) 1 vc] w fun e w'=>e = .returned u∧w'=w1
 grow:∀ (b n c i vb vo vc nb G:Nat) (w w1 w2 w3:World),i<n→n≤c→c<n+1→c≤9223372036854775807→n+1≤G→G≤9223372036854775807 →
  (∀ ty,(Builtin.append_ #[t,tn] ty #[.slice (some ⟨b,0,none⟩) i c,.int .i64 (n+1 - i:Nat)]).run P w = .ok (.slice (some ⟨nb,0,none⟩) (n+1) G) w1) →
  (∀ ty,(Builtin.copy_ #[t,t] ty #[.slice (some ⟨nb,i*sz,none⟩) (n+1 - i) (G - i),.slice (some ⟨vb,vo,none⟩) 1 vc]).run P w1 = .ok (goInt 1) w2) →
  (∀ ty,(Builtin.copy_ #[t,t] ty #[.slice (some ⟨nb,(i+1)*sz,none⟩) (n - i) (G - (i+1)),.slice (some ⟨b,i*sz,none⟩) (n - i) (c - i)]).run P w2.drew = .ok (goInt (n - i:Nat)) w3) →
  Calls P f #[.slice (some ⟨b,0,none⟩) n c,.int .i64 i,.slice (some ⟨vb,vo,none⟩) 1 vc] w fun e w'=>e = .returned (.slice (some ⟨nb,0,none⟩) (n+1) G)∧w'=w3
 room:∀ (b n c i vb vo vc:Nat) (w w1 w2:World),i<n→n+1≤c→c≤9223372036854775807 →
  (∀ lb cb,(callFunc ov #[.slice (some ⟨vb,vo,none⟩) 1 vc,.slice (some ⟨b,(i+1)*sz,none⟩) lb cb]).run P w = .ok (.value (.bool false)) w) →
  (∀ ty,(Builtin.copy_ #[t,t] ty #[.slice (some ⟨b,(i+1)*sz,none⟩) (n - i) (c - (i+1)),.slice (some ⟨b,i*sz,none⟩) (n+1 - i) (c - i)]).run P w.drew = .ok (goInt (n - i:Nat)) w1) →
  (∀ ty,(Builtin.copy_ #[t,t] ty #[.slice (some ⟨b,i*sz,none⟩) (n+1 - i) (c - i),.slice (some ⟨vb,vo,none⟩) 1 vc]).run P w1 = .ok (goInt 1) w2) →
  Calls P f #[.slice (some ⟨b,0,none⟩) n c,.int .i64 i,.slice (some ⟨vb,vo,none⟩) 1 vc] w fun e w'=>e = .returned (.slice (some ⟨b,0,none⟩) (n+1) c)∧w'=w2
def b1W (e:Nat) (j:TI) (args:List D) (h:Hp):Option (D × Hp):=match args with
 | [x,.int .i64 i,.sl sz' _ [r]]=>if sz'=j.sz∧0≤i then match x with
  | .nils=>if i=0∧lim 1 j.by_=true then some (.msl j.sz h.length 0 1,a0K h e j.sz [r]) else none
  | .sl s true []=>if i=0∧s=j.sz∧lim 1 j.by_=true then some (.msl j.sz h.length 0 1,a0K h e j.sz [r]) else none
  | .msl s o 0 n=>match h[o]? with
   | some (.row U z rows)=>if s=j.sz∧z=s∧U=e∧n=rows.length∧i≤n∧lim (n+1) j.by_=true then some (.msl j.sz h.length 0 (n+1),a0K (h.set o .dead) e j.sz (rows.take i.toNat++[r]++rows.drop i.toNat)) else none
   | _=>none
  | _=>none
  else none
 | _=>none
theorem b1y (P:Program) (ts:Array TypeId) (ty ty':TypeId) (as:Array Value) (w:World):(Builtin.append_ ts ty as).run P w=(Builtin.append_ ts ty' as).run P w:=rfl
end Go.Pi

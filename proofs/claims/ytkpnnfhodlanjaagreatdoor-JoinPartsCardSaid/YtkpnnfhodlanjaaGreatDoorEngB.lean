/- Memory in a walk: what is written once and stays (a ghost count of such cells for each block), what a step may turn, slices that read as lists, slices of the walk's own that grow. No program is named here. -/
import Derived.Test.YtkpnnfhodlanjaaGreatDoorEngA
set_option linter.unusedSimpArgs false
set_option linter.unusedVariables false
namespace Go.Eng
structure Gw where
 w:World
 F:Nat→Nat
 ok:∀ b,w.heap.size≤b→F b=0
structure Ev (M:Nat→Prop) (g g':Gw):Prop where
 os:g'.w.os=g.w.os
 tape:g'.w.tape=g.w.tape
 output:g'.w.output=g.w.output
 size:g.w.heap.size≤g'.w.heap.size
 mono:∀ b,g.F b≤g'.F b
 cell:∀ b o,o<g.F b→g'.w.cell? ⟨b,o,none⟩=g.w.cell? ⟨b,o,none⟩
 keep:∀ b,b<g.w.heap.size→¬ M b→g'.w.heap[b]?=g.w.heap[b]?∧g'.F b=g.F b
def Mno:Nat→Prop:=fun _=>False
section
variable {M M':Nat→Prop} {g g' g'':Gw}
theorem Ev.refl (M:Nat→Prop) (g:Gw):Ev M g g:=⟨rfl,rfl,rfl,Nat.le_refl _,fun _=>Nat.le_refl _,fun _ _ _=>rfl,fun _ _ _=>⟨rfl,rfl⟩⟩
theorem Ev.step (h:Ev M g g') (k:Ev M' g' g'') (hM:∀ b,M' b→M b∨g.w.heap.size≤b):Ev M g g'' :=
 ⟨k.os.trans h.os,k.tape.trans h.tape,k.output.trans h.output,Nat.le_trans h.size k.size,fun b=>Nat.le_trans (h.mono b) (k.mono b),
  fun b o hb=>(k.cell b o (Nat.lt_of_lt_of_le hb (h.mono b))).trans (h.cell b o hb),
  fun b hb hn=>by
   obtain ⟨h1,h2⟩:=h.keep b hb hn
   obtain ⟨k1,k2⟩:=k.keep b (Nat.lt_of_lt_of_le hb h.size) (fun hm=>by
    rcases hM b hm with hm | hm
    ·exact hn hm
    ·omega)
   exact ⟨k1.trans h1,k2.trans h2⟩⟩
theorem Ev.trans (h:Ev M g g') (k:Ev M g' g''):Ev M g g'':=h.step k fun _ hm => .inl hm
theorem Ev.weaken (h:Ev M g g') (hM:∀ b,M b→M' b∨g.w.heap.size≤b):Ev M' g g':=(Ev.refl M' g).step h hM
theorem Ev.below (h:Ev Mno g g'):RowKit.Below g.w.heap.size g.w g'.w:=⟨h.os,h.tape,h.output,h.size,fun k hk=>(h.keep k hk (fun x=>x.elim)).1⟩
end
-- steps of the world
theorem a6K (w:World) (o:Obj) (b:Nat) (h:b<w.heap.size):(w.alloc o).heap[b]?=w.heap[b]?:=RowKit.Below.heap_alloc w o b h
def Gw.push (g:Gw) (o:Obj) (m:Nat):Gw:=⟨g.w.alloc o,fun b=>if b=g.w.heap.size then m else g.F b,fun b hb=>by
 have hb':g.w.heap.size+1≤b:=by
  have:(g.w.heap.push o).size≤b:=hb
  simpa using this
 rw [if_neg (by omega)]
 exact g.ok b (by omega)⟩
def Gw.set (g:Gw) (ad:Addr) (v:Value):Gw:=⟨g.w.setCell ad v,g.F,fun b hb=>g.ok b (by simpa [World.setCell] using hb)⟩
def Gw.draw (g:Gw):Gw:=⟨{ g.w with drawn:=g.w.drawn+1 },g.F,g.ok⟩
def Gw.frz (g:Gw) (b m:Nat) (hb:b<g.w.heap.size):Gw:=⟨g.w,fun k=>if k=b then max m (g.F b) else g.F k,fun k hk=>by
 rw [if_neg (by omega)]
 exact g.ok k hk⟩
def Blk (g:Gw) (b T:Nat) (cs:List Value):Prop:=g.w.heap[b]?=some (.cells cs.toArray T (0,0))∧g.F b=0
section
variable {M:Nat→Prop} {g g':Gw} {b T:Nat} {cs:List Value}
theorem Blk.lt (h:Blk g b T cs):b<g.w.heap.size:=(Array.getElem?_eq_some_iff.1 h.1).1
theorem Blk.cell (h:Blk g b T cs) (i:Nat):g.w.cell? ⟨b,i,none⟩=cs[i]?:=by
 have:=h.1
 simp [World.cell?,this]
theorem Blk.frozen (h:Blk g b T cs) (i:Nat):g.w.frozen? ⟨b,i,none⟩=false:=by
 have:=h.1
 simp [World.frozen?,this]
theorem Blk.ev (h:Blk g b T cs) (he:Ev M g g') (hn:¬ M b):Blk g' b T cs:=⟨(he.keep b h.lt hn).1.trans h.1,(he.keep b h.lt hn).2.trans h.2⟩
theorem Blk.new (g:Gw) (T:Nat) (cs:List Value):Blk (g.push (.cells cs.toArray T) 0) g.w.heap.size T cs:=⟨heap_alloc_new g.w _,by simp [Gw.push]⟩
end
-- a slice that reads as a list, for good
structure FSl (g:Gw) (a:Option Addr) (n cap sz:Nat) (cs:List Value):Prop where
 len:cs.length=n*sz
 nc:n≤cap
 cm:cap≤9223372036854775807
 pos:0<n→∃ b o,a=some ⟨b,o,none⟩∧o+n*sz≤g.F b∧∀ j v,cs[j]?=some v→g.w.cell? ⟨b,o+j,none⟩=some v
section
variable {M:Nat→Prop} {g g':Gw} {a:Option Addr} {n cap sz:Nat} {cs:List Value}
theorem FSl.ev (h:FSl g a n cap sz cs) (he:Ev M g g'):FSl g' a n cap sz cs :=
 ⟨h.len,h.nc,h.cm,fun hp=>by
  obtain ⟨b,o,h1,h2,h3⟩:=h.pos hp
  refine ⟨b,o,h1,Nat.le_trans h2 (he.mono b),fun j v hj=>?_⟩
  have hl:j<n*sz:=by rw [← h.len];exact (c9d.1 hj).1
  rw [he.cell b (o+j) (by omega)]
  exact h3 j v hj⟩
theorem FSl.nil (g:Gw) (a:Option Addr) (cap sz:Nat) (hc:cap≤9223372036854775807):FSl g a 0 cap sz []:=⟨by simp,Nat.zero_le _,hc,fun h=>absurd h (by omega)⟩
theorem FSl.cell {b o:Nat} (h:FSl g (some ⟨b,o,none⟩) n cap sz cs) {j:Nat} {v:Value} (hj:cs[j]?=some v):g.w.cell? ⟨b,o+j,none⟩=some v:=by
 have hl:j<n*sz:=by rw [← h.len];exact (c9d.1 hj).1
 have hp:0<n:=by
  rcases Nat.eq_zero_or_pos n with h0 | h0
  ·subst h0;simp at hl
  ·exact h0
 obtain ⟨b',o',h1,_,h3⟩:=h.pos hp
 injection h1 with h1
 injection h1 with h1 h2
 subst h1;subst h2
 exact h3 j v hj
theorem FSl.cut (h:FSl g a n cap sz cs) {l m:Nat} (hl:l≤m) (hm:m≤n) (c:Nat) (hc:m - l≤c) (hcc:c≤9223372036854775807) (a':Option Addr) (ha:∀ b o,l<m→a=some ⟨b,o,none⟩→a'=some ⟨b,o+l*sz,none⟩) :
  FSl g a' (m - l) c sz ((cs.take (m*sz)).drop (l*sz)):=by
 have hms:m*sz≤n*sz:=Nat.mul_le_mul_right sz hm
 refine ⟨?_,hc,hcc,fun hp=>?_⟩
 ·rw [c9g,c9h,h.len,Nat.min_eq_left hms,Nat.sub_mul]
 ·obtain ⟨b,o,h1,h2,h3⟩:=h.pos (by omega)
  refine ⟨b,o+l*sz,ha b o (by omega) h1,?_,fun j v hj=>?_⟩
  ·have:l*sz+(m - l)*sz=m*sz:=by rw [← Nat.add_mul];congr 1;omega
   omega
  ·rw [Nat.add_assoc]
   refine h3 _ v ?_
   rw [List.getElem?_drop] at hj
   rw [List.getElem?_take] at hj
   split at hj
   ·exact hj
   ·cases hj
end
-- elements that are known by a function to their cells
theorem a2P {α:Type} {f:α→List Value} {sz:Nat} (hf:∀ x,(f x).length=sz):∀ (xs:List α) (i j:Nat) (x:α),xs[i]?=some x→j<sz→(xs.flatMap f)[i*sz+j]?=(f x)[j]?
 | [],i,j,x,h,_=>by simp at h
 | y::ys,0,j,x,h,hj=>by
  simp at h
  subst h
  simp only [Nat.zero_mul,Nat.zero_add,List.flatMap_cons]
  rw [c9l (by rw [hf];exact hj)]
 | y::ys,i+1,j,x,h,hj=>by
  simp at h
  simp only [List.flatMap_cons]
  rw [List.getElem?_append_right (by rw [hf,Nat.add_mul];omega),hf,show (i+1)*sz+j - sz=i*sz+j from by rw [Nat.add_mul];omega]
  exact a2P hf ys i j x h hj
structure FSf {α:Type} (g:Gw) (a:Option Addr) (n cap sz:Nat) (f:α→List Value) (xs:List α):Prop where
 sl:FSl g a n cap sz (xs.flatMap f)
 num:xs.length=n
 cells:∀ x,(f x).length=sz
section
variable {α:Type} {M:Nat→Prop} {g g':Gw} {a:Option Addr} {n cap sz:Nat} {f:α→List Value} {xs:List α}
theorem FSf.ev (h:FSf g a n cap sz f xs) (he:Ev M g g'):FSf g' a n cap sz f xs:=⟨h.sl.ev he,h.num,h.cells⟩
theorem FSf.cell {b o:Nat} (h:FSf g (some ⟨b,o,none⟩) n cap sz f xs) {i j:Nat} {x:α} {v:Value} (hx:xs[i]?=some x) (hj:(f x)[j]?=some v):g.w.cell? ⟨b,o+i*sz+j,none⟩=some v:=by
 have hjl:j<sz:=by rw [← h.cells x];exact (c9d.1 hj).1
 rw [Nat.add_assoc]
 exact h.sl.cell (by rw [a2P h.cells xs i j x hx hjl];exact hj)
theorem FSf.nil (g:Gw) (a:Option Addr) (cap sz:Nat) (f:α→List Value) (hf:∀ x,(f x).length=sz) (hc:cap≤9223372036854775807):FSf g a 0 cap sz f []:=⟨FSl.nil g a cap sz hc,rfl,hf⟩
theorem FSf.get (h:FSf g a n cap sz f xs) {i:Nat} (hi:i<n):∃ x,xs[i]?=some x:=⟨xs[i]'(by rw [h.num];exact hi),c9c (by rw [h.num];exact hi)⟩
end
-- a slice of the walk's own, to which may be appended in place
def Own (g:Gw) (base:Nat) (a:Option Addr) (n cap sz T:Nat):Prop :=
 (a=none∧n=0∧cap=0)∨∃ b cur,a=some ⟨b,0,none⟩∧base≤b∧g.w.heap[b]?=some (.cells cur T (0,0))∧n≤cap∧cap≤9223372036854775807∧cur.size=cap*sz∧g.F b=n*sz
def b0Y (a:Option Addr):Nat→Prop:=fun b=>a.map (·.block)=some b
section
variable {M:Nat→Prop} {g g':Gw} {base:Nat} {a:Option Addr} {n cap sz T:Nat}
theorem Own.nil (g:Gw) (base sz T:Nat):Own g base none 0 0 sz T := .inl ⟨rfl,rfl,rfl⟩
theorem Own.ev (h:Own g base a n cap sz T) (he:Ev M g g') (hM:∀ b,b0Y a b→base≤b→¬ M b):Own g' base a n cap sz T:=by
 rcases h with h | ⟨b,cur,h1,h2,h3,h4,h5,h6,h7⟩
 ·exact .inl h
 ·have hb:b<g.w.heap.size:=(Array.getElem?_eq_some_iff.1 h3).1
  obtain ⟨k1,k2⟩:=he.keep b hb (hM b (by simp [b0Y,h1]) h2)
  exact .inr ⟨b,cur,h1,h2,k1.trans h3,h4,h5,h6,k2.trans h7⟩
theorem Own.weaken {base':Nat} (h:Own g base a n cap sz T) (hb:base'≤base):Own g base' a n cap sz T:=by
 rcases h with h | ⟨b,cur,h1,h2,rest⟩
 ·exact .inl h
 ·exact .inr ⟨b,cur,h1,by omega,rest⟩
end
-- operations on memory
section mem
variable {P:Program} {e:Env} {g:Gw} {d:Option Tmp} {ty:TypeId} {pos:String} {af:Array Edge} {gd:Option (Nat × Bool)}
def One (P:Program) (t:TypeId):Prop:=∀ w,(isAgg t).run P w = .ok false w
def Agg (P:Program) (t:TypeId):Prop:=∀ w,(isAgg t).run P w = .ok true w
def Siz (P:Program) (t:TypeId) (n:Nat):Prop:=∀ w,(sizeOf t).run P w = .ok n w
theorem a8y {t:TypeId} (h1:One P t) {ad:Addr} {w:World} {v:Value} (hc:w.cell? ad=some v):(loadVar t ad).run P w = .ok v w:=by
 unfold loadVar
 simp [h1 w,hc]
theorem a8x {t:TypeId} {sz:Nat} (h1:Agg P t) (hs:Siz P t sz) {ad:Addr} {w:World} {vs:List Value} (hl:vs.length=sz) (hc:∀ j v,vs[j]?=some v→w.cell? (ad.add j)=some v):(loadVar t ad).run P w = .ok (.agg vs.toArray) w:=by
 unfold loadVar
 have:=run_loadCells_list (P:=P) (w:=w) ad vs hc
 rw [hl] at this
 simp [h1 w,hs w,this]
end mem
end Go.Eng

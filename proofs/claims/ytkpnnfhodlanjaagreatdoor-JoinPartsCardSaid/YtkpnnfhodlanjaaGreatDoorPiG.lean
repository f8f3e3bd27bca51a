/- Structs and slices written out; new memory that is never written a3H; all operations that leave live objects alone. No program is named here. -/
import Derived.Test.YtkpnnfhodlanjaaGreatDoorPiF
set_option linter.unusedSimpArgs false
set_option linter.unusedVariables false
set_option linter.unnecessarySimpa false
namespace Go.Pi
open Go.Eng
def b0M (P:Program) (ρ:Operand→Value) (o:Oper) (g:Gh) (d:D):Prop:=∃ v w' g',(execOp ρ o).run P g.w = .ok (.value v) w'∧g'.w=w'∧Ext g g'∧g'.ms=g.ms∧g'.L=g.L∧(∀ b,b<g.w.heap.size→g'.w.heap[b]?=g.w.heap[b]?)∧Rep g' v d
theorem DoesV.g {P:Program} {ρ:Operand→Value} {o:Oper} {g:Gh} {d:D} (h:DoesV P ρ o g d):b0M P ρ o g d:=by
 obtain ⟨v,hr,hv⟩:=h
 exact ⟨v,g.w,g,hr,rfl,Ext.refl g,rfl,rfl,fun _ _=>rfl,hv⟩
theorem Inv.same {g g':Gh} {h:Hp} (hi:Inv g h) (he:Ext g g') (hm:g'.ms=g.ms) (hL:g'.L=g.L) (hb:∀ b,b<g.w.heap.size→g'.w.heap[b]?=g.w.heap[b]?):Inv g' h:=by
 refine ⟨by rw [hm];exact hi.len,fun o T sz rows ho=>?_,fun o o' T sz T' sz' rows rows' m m' h1 h2 h3 h4 h5=>hi.inj o o' T sz T' sz' rows rows' m m' h1 h2 (by rw [← hm];exact h3) (by rw [← hm];exact h4) h5,fun b hb'=>?_,fun o m h=>Nat.lt_of_lt_of_le (hi.msb o m (by rw [← hm];exact h)) he.size⟩
 ·obtain ⟨m,cs,h1,hl⟩:=hi.live o T sz rows ho
  refine ⟨m,cs,by rw [hm];exact h1,?_,hl.hsz,hl.pos,by rw [hL];exact hl.hL,hl.len,hl.le,hl.room,hl.row,fun i row h2 j d h3=>?_⟩
  ·rw [hb _ (hi.Llt hl.hL)];exact hl.blk
  ·obtain ⟨v,h4,h5,h6⟩:=hl.cell i row h2 j d h3
   exact ⟨v,h4,h5,h6.ext he⟩
 ·rw [hL] at hb'
  exact Nat.lt_of_lt_of_le (hi.L b hb') he.size
def Gh.alloc (g:Gh) (o:Obj):Gh:=⟨g.w.alloc o,g.ms,g.L⟩
def Gh.draw (g:Gh):Gh:=⟨g.w.drew,g.ms,g.L⟩
theorem Gh.draw_ext (g:Gh):Ext g g.draw := .of_old ⟨rfl,rfl,rfl,Nat.le_refl _,fun _ _ h=>h,fun b hb=>⟨hb,rfl⟩⟩ rfl rfl fun _ _=>rfl
theorem Gh.draw_inv {g:Gh} {h:Hp} (hi:Inv g h):Inv g.draw h:=hi.same g.draw_ext rfl rfl fun _ _=>rfl
theorem a2G (w:World) (o:Obj) {b:Nat} (h:b<w.heap.size):(w.alloc o).heap[b]?=w.heap[b]?:=a6K w o b h
theorem a6J (w:World) (o:Obj):(w.alloc o).heap[w.heap.size]?=some o:=by
 show (w.heap.push o)[w.heap.size]?=_
 simp
theorem a5a (w:World) (o:Obj):(w.alloc o).heap.size=w.heap.size+1:=by
 show (w.heap.push o).size=_
 simp
theorem Gh.alloc_size (g:Gh) (o:Obj):(g.alloc o).w.heap.size=g.w.heap.size+1:=a5a g.w o
theorem Gh.alloc_ext (g:Gh) (o:Obj):Ext g (g.alloc o) := .of_old ⟨rfl,rfl,rfl,by rw [g.alloc_size];omega,fun _ _ h=>h,fun b hb=>⟨⟨by have:=hb.1;rw [g.alloc_size];omega,hb.2⟩,a2G g.w o hb.1⟩⟩ rfl rfl fun b hb=>a2G g.w o hb
theorem Gh.alloc_cell (g:Gh) {cs:Array Value} {T:TypeId} {fr:Nat × Nat} (i:Nat):(g.alloc (.cells cs T fr)).w.cell? ⟨g.w.heap.size,i,none⟩=cs[i]?:=by
 have:(g.alloc (.cells cs T fr)).w.heap[g.w.heap.size]?=some (.cells cs T fr):=a6J g.w _
 simp only [World.cell?,this]
 simp
section ops
variable {P:Program} {T:Tab} {g:Gh} {ρ:Operand→Value} {dst:Option Tmp} {ty:TypeId} {pos:String} {af:Array Edge} {gd:Option (Nat × Bool)}
theorem a4f (hL:∀ b,g.L b→b<g.w.heap.size) {vs:List Value} {cs:List D} {E:TypeId} (hr:RepL g vs cs) (h1:∀ v∈vs,v.oneCell'=true):At (g.alloc (.cells vs.toArray E)) g.w.heap.size 0 vs cs∧(g.alloc (.cells vs.toArray E)).fz g.w.heap.size:=by
 refine ⟨⟨fun j v hj=>?_,h1,hr.ext (g.alloc_ext _)⟩,by rw [g.alloc_size];omega,fun hh=>?_⟩
 ·rw [Nat.zero_add,g.alloc_cell];simpa using hj
 ·have:=hL _ hh;omega
theorem b3Z (hL:∀ b,g.L b→b<g.w.heap.size) {e:TypeId} {x:Operand} {dx:D} (hx:Rep g (ρ x) dx) (hk:dx.okv=true):b0M P ρ ⟨dst,.box e x,ty,pos,af,gd⟩ g (.fptr (a0A dx)):=by
 obtain ⟨vs,hv,hr,h1⟩:=hx.cells hk
 obtain ⟨hat,hf⟩:=a4f hL (E:=e) hr h1
 exact ⟨_,_,g.alloc (.cells vs.toArray e),by simp only [execOp,Instr.box,Sem.run_bind,newVar,newRow,run_newObj,Result.andThen_ok,Sem.run_pure,hv];rfl,rfl,g.alloc_ext _,rfl,rfl,fun b hb=>a2G _ _ hb,hat.fptr fun _=>hf⟩
theorem b0q (hT:TabOK P T) (hL:∀ b,g.L b→b<g.w.heap.size) {e:TypeId} {i:TI} (hi:T e=some i):b0M P ρ ⟨dst,.alloc e,ty,pos,af,gd⟩ g (.fptr i.zero):=by
 obtain ⟨z,hz,hzz,hzs,h1⟩:=hT.zrun hi
 have hr:=a1x g z.cells.toList
 rw [← hzz] at hr
 obtain ⟨hat,hf⟩:=a4f hL (E:=e) hr h1
 exact ⟨_,_,g.alloc (.cells z.cells.toList.toArray e),by simp only [execOp,Instr.alloc,Sem.run_bind,hz g.w,Result.andThen_ok,newVar,newRow,run_newObj,Sem.run_pure,Array.toArray_toList];rfl,by simp [Gh.alloc],g.alloc_ext _,rfl,rfl,fun b hb=>a2G _ _ hb,hat.fptr fun _=>hf⟩
-- cells laid over cells
theorem b3e {vcs:List Value} {cs:List D} {vs:List Value} {ds:List D} (h:RepL g vcs cs) (k:RepL g vs ds) (off:Nat):RepL g (vcs.take off++vs++vcs.drop (off+vs.length)) (spl cs off ds):=by
 unfold spl
 rw [k.length]
 exact ((h.take off).append k).append (h.drop _)
theorem a8q {fs:List (Nat × Nat × Nat)} {place:Nat→Option (Nat × Nat)} (hpl:∀ (i:Nat) u off sz,fs[i]?=some (u,off,sz)→place i=some (off,sz)):∀ (is:List Nat) (vals:List Value) (ds:List D) (vcs:List Value) (cs cs':List D),RepL g vcs cs→(∀ v∈vcs,v.oneCell'=true)→RepL g vals ds→is.length=vals.length→a4t fs cs is ds=some cs' →
  ∃ vcs',Instr.fill place vcs.toArray (is.zip vals)=some vcs'.toArray∧RepL g vcs' cs'∧∀ v∈vcs',v.oneCell'=true
 | [],vals,ds,vcs,cs,cs',h,h1,hr,hl,hd=>by
  have:vals=[]:=List.eq_nil_of_length_eq_zero (by simpa using hl.symm)
  subst this
  cases hr
  simp [a4t] at hd
  subst hd
  exact ⟨vcs,by simp [Instr.fill],h,h1⟩
 | i::is,vals,ds,vcs,cs,cs',h,h1,hr,hl,hd=>by
  cases hr with
  | nil=>simp at hl
  | cons hv hr =>
   rename_i v d vals ds
   simp only [a4t] at hd
   split at hd
   ·rename_i u off sz hf
    split at hd
    ·rename_i hc
     simp only [Bool.and_eq_true] at hc
     obtain ⟨⟨hc1,hc2⟩,hc3⟩:=hc
     have hc1:=Nat.eq_of_beq_eq_true hc1
     have hc2:=Nat.le_of_ble_eq_true hc2
     obtain ⟨us,hus,hur,hu1⟩:=hv.cells hc3
     have hlen:=h.length
     have hul:=hur.length
     have hsp:=b3e h hur off
     obtain ⟨vcs',hfill,hr',h1'⟩:=a8q hpl is vals ds (vcs.take off++us++vcs.drop (off+us.length)) _ cs' hsp (fun x hx=>by
      simp only [c9j] at hx
      rcases hx with (hx | hx) | hx
      ·exact h1 x (List.mem_of_mem_take hx)
      ·exact hu1 x hx
      ·exact h1 x (List.mem_of_mem_drop hx)) hr (by simpa using hl) hd
     refine ⟨vcs',?_,hr',h1'⟩
     simp only [List.zip_cons_cons,Instr.fill,hpl i u off sz hf,hus]
     have hb:(decide (us.toArray.size≠sz)||decide (off+us.toArray.size>vcs.toArray.size))=false:=by
      simp;omega
     simp only [hb,c8O,if_false]
     have hfs:=a7J us (vcs.take off) (vcs.drop off) (by simp;omega)
     have htk:(vcs.take off).length=off:=by simp;omega
     simp only [htk,List.take_append_drop,List.drop_drop] at hfs
     rw [← hfill]
     congr 1
     try (rw [← hfs])
    ·cases hd
   ·cases hd
end ops
end Go.Pi

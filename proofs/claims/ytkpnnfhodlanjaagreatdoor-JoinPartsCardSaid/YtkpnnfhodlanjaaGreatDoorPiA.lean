/- Plain data for values, and when a value in a world is told by a datum: what is never written a3H is told by what it holds, a live object by its number. No program is named here. -/
import Derived.Test.YtkpnnfhodlanjaaGreatDoorEngB
set_option linter.unusedSimpArgs false
set_option linter.unusedVariables false
set_option linter.unnecessarySimpa false
namespace Go.Pi
open Go.Eng
inductive D where
 | any | und
 | bool (b:Bool) | int (k:IntKind) (n:Int) | str (s:List UInt8)
 | nilp | ptr (o i off:Nat) | fptr (cs:List D)
 | nils | sl (sz:Nat) (full:Bool) (rows:List (List D)) | msl (sz o r n:Nat)
 | nilf | fn (f:Fn) (first caps:List D)
 | nili | iface (t:TypeId) (d:D)
 | agg (cs:List D) | tup (ds:List D)
 deriving Inhabited
def D.one:D→Bool
 | .agg _ | .tup _ | .any | .und=>false
 | _=>true
inductive Ob where
 | row (T:TypeId) (sz:Nat) (rows:List (List D))
 | dead
 deriving Inhabited
abbrev Hp:=List Ob
structure Me where
 b:Nat
 sz:Nat
 len:Nat
 cap:Nat
structure Gh where
 w:World
 ms:List Me
 L:Nat→Prop
def Gh.fz (g:Gh) (b:Nat):Prop:=b<g.w.heap.size∧¬ g.L b
structure ExtW (g g':Gh):Prop where
 os:g'.w.os=g.w.os
 tape:g'.w.tape=g.w.tape
 output:g'.w.output=g.w.output
 size:g.w.heap.size≤g'.w.heap.size
 ms:∀ (o:Nat) (m:Me),g.ms[o]?=some m→g'.ms[o]?=some m
 fz:∀ b,g.fz b→g'.fz b∧g'.w.heap[b]?=g.w.heap[b]?
def Gh.lim (g:Gh) (b:Nat):Prop:=b<g.w.heap.size∧g.L b∧∀ (o:Nat) (m:Me),g.ms[o]?=some m→m.b≠b
structure Ext (g g':Gh):Prop extends ExtW g g' where
 lim:∀ b,g.lim b→g'.lim b∧g'.w.heap[b]?=g.w.heap[b]?
theorem Ext.refl (g:Gh):Ext g g:=⟨⟨rfl,rfl,rfl,Nat.le_refl _,fun _ _ h=>h,fun _ h=>⟨h,rfl⟩⟩,fun _ h=>⟨h,rfl⟩⟩
theorem Ext.trans {g g' g'':Gh} (h:Ext g g') (k:Ext g' g''):Ext g g'' :=
 ⟨⟨k.os.trans h.os,k.tape.trans h.tape,k.output.trans h.output,Nat.le_trans h.size k.size,fun o m hm=>k.ms o m (h.ms o m hm),
  fun b hb=>⟨(k.fz b (h.fz b hb).1).1,(k.fz b (h.fz b hb).1).2.trans (h.fz b hb).2⟩⟩,fun b hb=>⟨(k.lim b (h.lim b hb).1).1,(k.lim b (h.lim b hb).1).2.trans (h.lim b hb).2⟩⟩
theorem Ext.of_old {g g':Gh} (h:ExtW g g') (hm:g'.ms=g.ms) (hL:g'.L=g.L) (hb:∀ b,b<g.w.heap.size→g'.w.heap[b]?=g.w.heap[b]?):Ext g g' :=
 ⟨h,fun b hl=>⟨⟨Nat.lt_of_lt_of_le hl.1 h.size,by rw [hL];exact hl.2.1,by rw [hm];exact hl.2.2⟩,hb b hl.1⟩⟩
inductive Rep (g:Gh):Value→D→Prop
 | any (v):Rep g v .any
 | und:Rep g undef .und
 | bool (b):Rep g (.bool b) (.bool b)
 | int (k n):Rep g (.int k n) (.int k n)
 | str (s:List UInt8):Rep g (.string ⟨s.toArray⟩) (.str s)
 | nilp:Rep g (.pointer none) .nilp
 | ptr (o i off:Nat) (m:Me) (hm:g.ms[o]?=some m):Rep g (.pointer (some ⟨m.b,i*m.sz+off,none⟩)) (.ptr o i off)
 | fptr (b o:Nat) (cs:List D) (vs:Nat→Value) (hf:cs≠[]→g.fz b) (hc:∀ (j:Nat) (d:D),cs[j]?=some d→g.w.cell? ⟨b,o+j,none⟩=some (vs j))
   (h1:∀ (j:Nat) (d:D),cs[j]?=some d→(vs j).oneCell'=true) (hr:∀ (j:Nat) (d:D),cs[j]?=some d→Rep g (vs j) d):Rep g (.pointer (some ⟨b,o,none⟩)) (.fptr cs)
 | nils:Rep g (.slice none 0 0) .nils
 | sl (ad:Addr) (n cap sz:Nat) (full:Bool) (rows:List (List D)) (hn:rows.length=n) (hnc:n≤cap) (hcm:cap≤9223372036854775807) (hfull:full=true→cap=n) (hsz:0<sz)
   (hrow:∀ row∈rows,row.length=sz) (had:rows≠[]→ad.spot=none∧g.fz ad.block) (vs:Nat→Nat→Value)
   (hc:∀ (i:Nat) (row:List D),rows[i]?=some row→∀ (j:Nat) (d:D),row[j]?=some d→g.w.cell? ⟨ad.block,ad.off+i*sz+j,none⟩=some (vs i j))
   (h1:∀ (i:Nat) (row:List D),rows[i]?=some row→∀ (j:Nat) (d:D),row[j]?=some d→(vs i j).oneCell'=true)
   (hr:∀ (i:Nat) (row:List D),rows[i]?=some row→∀ (j:Nat) (d:D),row[j]?=some d→Rep g (vs i j) d):Rep g (.slice (some ad) n cap) (.sl sz full rows)
 | msl (o r n cap:Nat) (m:Me) (hm:g.ms[o]?=some m) (hn:r+n≤m.len) (hlo:m.len≤r+cap) (hhi:r+cap≤m.cap) (hcm:cap≤9223372036854775807):Rep g (.slice (some ⟨m.b,r*m.sz,none⟩) n cap) (.msl m.sz o r n)
 | nilf:Rep g .nilFunc .nilf
 | fn (f:Fn) (first caps:List D) (vf vc:List Value) (hf:vf.length=first.length) (hc:vc.length=caps.length)
   (rf:∀ (j:Nat) (v:Value) (d:D),vf[j]?=some v→first[j]?=some d→Rep g v d) (rc:∀ (j:Nat) (v:Value) (d:D),vc[j]?=some v→caps[j]?=some d→Rep g v d):Rep g (.func f vf.toArray vc.toArray) (.fn f first caps)
 | nili:Rep g .nilIface .nili
 | iface (t:TypeId) (v:Value) (d:D) (h:Rep g v d):Rep g (.iface t v) (.iface t d)
 | agg (vs:List Value) (cs:List D) (hl:vs.length=cs.length) (h1:∀ v∈vs,v.oneCell'=true) (hr:∀ (j:Nat) (v:Value) (d:D),vs[j]?=some v→cs[j]?=some d→Rep g v d):Rep g (.agg vs.toArray) (.agg cs)
 | tup (vs:List Value) (ds:List D) (hl:vs.length=ds.length) (hr:∀ (j:Nat) (v:Value) (d:D),vs[j]?=some v→ds[j]?=some d→Rep g v d):Rep g (.tuple vs.toArray) (.tup ds)
theorem ExtW.cell {g g':Gh} (h:ExtW g g') {b i:Nat} (hb:g.fz b):g'.w.cell? ⟨b,i,none⟩=g.w.cell? ⟨b,i,none⟩:=World.cell?_of_block (h.fz b hb).2
theorem Rep.extW {g g':Gh} (he:ExtW g g') {v:Value} {d:D} (h:Rep g v d):Rep g' v d:=by
 induction h with
 | any v=>exact .any v
 | und=>exact .und
 | bool b=>exact .bool b
 | int k n=>exact .int k n
 | str s=>exact .str s
 | nilp=>exact .nilp
 | ptr o i off m hm=>exact .ptr o i off m (he.ms _ _ hm)
 | fptr b o cs vs hf hc h1 hr ih =>
  refine .fptr b o cs vs (fun hn=>(he.fz _ (hf hn)).1) (fun j d hj=>?_) h1 ih
  have hn:cs≠[]:=fun hh=>by subst hh;cases hj
  rw [he.cell (hf hn)];exact hc j d hj
 | nils=>exact .nils
 | sl ad n cap sz full rows hn hnc hcm hfull hsz hrow had vs hc h1 hr ih =>
  refine .sl ad n cap sz full rows hn hnc hcm hfull hsz hrow (fun hne=>⟨(had hne).1,(he.fz _ (had hne).2).1⟩) vs (fun i row hi j d hj=>?_) h1 ih
  have hne:rows≠[]:=fun hh=>by subst hh;cases hi
  rw [he.cell (had hne).2];exact hc i row hi j d hj
 | msl o r n cap m hm hn hlo hhi hcm=>exact .msl o r n cap m (he.ms _ _ hm) hn hlo hhi hcm
 | nilf=>exact .nilf
 | fn f first caps vf vc hf hc rf rc ihf ihc=>exact .fn f first caps vf vc hf hc ihf ihc
 | nili=>exact .nili
 | iface t v d h ih=>exact .iface t v d ih
 | agg vs cs hl h1 hr ih=>exact .agg vs cs hl h1 ih
 | tup vs ds hl hr ih=>exact .tup vs ds hl ih
theorem Rep.ext {g g':Gh} (he:Ext g g') {v:Value} {d:D} (h:Rep g v d):Rep g' v d:=h.extW he.toExtW
theorem Ext.cell {g g':Gh} (h:Ext g g') {b i:Nat} (hb:g.fz b):g'.w.cell? ⟨b,i,none⟩=g.w.cell? ⟨b,i,none⟩:=h.toExtW.cell hb
theorem Rep.one {g:Gh} {v:Value} {d:D} (h:Rep g v d) (h1:d.one=true):v.oneCell'=true:=by
 cases h <;> first | rfl | (simp [D.one] at h1)
inductive RepL (g:Gh):List Value→List D→Prop
 | nil:RepL g [] []
 | cons {v d vs ds} (h:Rep g v d) (r:RepL g vs ds):RepL g (v::vs) (d::ds)
theorem RepL.ext {g g':Gh} (he:Ext g g') {vs:List Value} {ds:List D} (h:RepL g vs ds):RepL g' vs ds:=by
 induction h with
 | nil=>exact .nil
 | cons h _ ih=>exact .cons (h.ext he) ih
theorem RepL.length {g:Gh} {vs:List Value} {ds:List D} (h:RepL g vs ds):vs.length=ds.length:=by
 induction h with
 | nil=>rfl
 | cons _ _ ih=>simp [ih]
theorem RepL.get {g:Gh} {vs:List Value} {ds:List D} (h:RepL g vs ds):∀ (j:Nat) (v:Value) (d:D),vs[j]?=some v→ds[j]?=some d→Rep g v d:=by
 induction h with
 | nil=>intro j v d h;cases h
 | cons h _ ih =>
  intro j v d h1 h2
  cases j with
  | zero=>simp at h1 h2;subst h1;subst h2;exact h
  | succ j=>exact ih j v d (by simpa using h1) (by simpa using h2)
theorem RepL.of {g:Gh}:∀ {vs:List Value} {ds:List D},vs.length=ds.length→(∀ (j:Nat) (v:Value) (d:D),vs[j]?=some v→ds[j]?=some d→Rep g v d)→RepL g vs ds
 | [],[],_,_ => .nil
 | [],_::_,h,_=>by simp at h
 | _::_,[],h,_=>by simp at h
 | v::vs,d::ds,h,k => .cons (k 0 v d rfl rfl) (RepL.of (by simpa using h) fun j v d h1 h2=>k (j+1) v d (by simpa using h1) (by simpa using h2))
theorem RepL.append {g:Gh} {vs us:List Value} {ds es:List D} (h:RepL g vs ds) (k:RepL g us es):RepL g (vs++us) (ds++es):=by
 induction h with
 | nil=>exact k
 | cons h _ ih=>exact .cons h ih
theorem RepL.drop {g:Gh} {vs:List Value} {ds:List D} (h:RepL g vs ds) (n:Nat):RepL g (vs.drop n) (ds.drop n):=by
 refine .of (by simp [h.length]) fun j v d h1 h2=>h.get (n+j) v d (by simpa [List.getElem?_drop] using h1) (by simpa [List.getElem?_drop] using h2)
theorem RepL.take {g:Gh} {vs:List Value} {ds:List D} (h:RepL g vs ds) (n:Nat):RepL g (vs.take n) (ds.take n):=by
 refine .of (by simp [h.length]) fun j v d h1 h2=>?_
 rw [List.getElem?_take] at h1 h2
 split at h1
 ·rename_i hj
  rw [if_pos hj] at h2
  exact h.get j v d h1 h2
 ·cases h1
def Fr0 (fr:Nat × Nat) (n:Nat):Prop:=fr=(0,0)∨n≤fr.1
def Fr (fr:Nat × Nat) (n sz:Nat):Prop:=fr=(0,0)∨(n≤fr.1∧sz=1)
theorem Fr.weak {fr:Nat × Nat} {n sz:Nat} (h:Fr fr n sz):Fr0 fr n:=h.imp id And.left
structure Live (g:Gh) (m:Me) (T sz:Nat) (rows:List (List D)) (cs:Array Value):Prop where
 blk:∃ fr,g.w.heap[m.b]?=some (.cells cs T fr)∧Fr fr cs.size sz
 hsz:m.sz=sz
 pos:0<sz
 hL:g.L m.b
 len:rows.length=m.len
 le:m.len≤m.cap
 room:m.cap*sz≤cs.size
 row:∀ row∈rows,row.length=sz
 cell:∀ (i:Nat) (row:List D),rows[i]?=some row→∀ (j:Nat) (d:D),row[j]?=some d→∃ v,cs[i*sz+j]?=some v∧v.oneCell'=true∧Rep g v d
structure Inv (g:Gh) (h:Hp):Prop where
 len:g.ms.length=h.length
 live:∀ (o T sz:Nat) (rows:List (List D)),h[o]?=some (.row T sz rows)→∃ m cs,g.ms[o]?=some m∧Live g m T sz rows cs
 inj:∀ (o o':Nat) (T sz T' sz':Nat) (rows rows':List (List D)) (m m':Me),h[o]?=some (.row T sz rows)→h[o']?=some (.row T' sz' rows')→g.ms[o]?=some m→g.ms[o']?=some m'→m.b=m'.b→o=o'
 L:∀ b,g.L b→b<g.w.heap.size
 msb:∀ (o:Nat) (m:Me),g.ms[o]?=some m→m.b<g.w.heap.size
theorem Inv.Llt {g:Gh} {h:Hp} (hi:Inv g h) {b:Nat} (hb:g.L b):b<g.w.heap.size:=hi.L b hb
-- lists of slots
abbrev DE:=List (Nat × D)
def lkD:DE→Nat→Option D
 | [],_=>none
 | (k,v)::r,t=>match Nat.beq k t with
  | true=>some v
  | false=>lkD r t
theorem a1v (k:Nat) (v:D) (r:DE) (t:Nat):lkD ((k,v)::r) t=if k=t then some v else lkD r t:=by
 simp only [lkD]
 by_cases h:k=t
 ·subst h;simp
 ·have:Nat.beq k t=false:=by
    cases hb:Nat.beq k t with
    | true=>exact absurd (Nat.eq_of_beq_eq_true hb) h
    | false=>rfl
  rw [this,if_neg h]
structure SatD (n:Nat) (g:Gh) (e:DE) (a:Act):Prop where
 size:a.tmps.size=n
 defers:a.defers=[]
 get:∀ t d,lkD e t=some d→Rep g (a.tmps.getD t undef) d
theorem SatD.ext {n:Nat} {g g':Gh} {e:DE} {a:Act} (h:SatD n g e a) (he:Ext g g'):SatD n g' e a:=⟨h.size,h.defers,fun t d hd=>(h.get t d hd).ext he⟩
theorem SatD.put {n:Nat} {g:Gh} {e:DE} {a:Act} (h:SatD n g e a) {t:Nat} (ht:t<n) {v:Value} {d:D} (hr:Rep g v d):SatD n g ((t,d)::e) (a.put (some t) v):=by
 refine ⟨by simp [Act.put,h.size],by simp [Act.put,h.defers],fun u x hu=>?_⟩
 rw [a1v] at hu
 by_cases htu:t=u
 ·subst htu
  rw [if_pos rfl] at hu
  injection hu with hu
  subst hu
  have:(a.put (some t) v).tmps.getD t undef=v:=by simp [Act.put,Array.getD,h.size,ht]
  rw [this];exact hr
 ·rw [if_neg htu] at hu
  have:=h.get u x hu
  have hx:(a.put (some t) v).tmps.getD u undef=a.tmps.getD u undef:=by
   simp only [Act.put,Array.getD_eq_getD_getElem?]
   rw [Array.getElem?_setIfInBounds_ne (by omega)]
  rw [hx];exact this
def SubD (e' e:DE):Prop:=∀ t v,lkD e' t=some v→lkD e t=some v
theorem SubD.sat {n:Nat} {g:Gh} {e e':DE} {a:Act} (h:SubD e' e) (hs:SatD n g e a):SatD n g e' a:=⟨hs.size,hs.defers,fun t v x=>hs.get t v (h t v x)⟩
end Go.Pi

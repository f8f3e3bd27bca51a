/- Operations on memory that is never written a3H, and by value: fields, elements, parts, structs. No program is named here. -/
import Derived.Test.YtkpnnfhodlanjaaGreatDoorPiC
set_option linter.unusedSimpArgs false
set_option linter.unusedVariables false
set_option linter.unnecessarySimpa false
namespace Go.Pi
open Go.Eng
section inv
variable {g:Gh}
theorem Rep.agg_inv {v:Value} {cs:List D} (h:Rep g v (.agg cs)):∃ vs,v = .agg vs.toArray∧RepL g vs cs∧∀ u∈vs,u.oneCell'=true:=by
 cases h with
 | agg vs cs hl h1 hr=>exact ⟨vs,rfl,.of hl hr,h1⟩
theorem Rep.mk_agg {vs:List Value} {cs:List D} (h:RepL g vs cs) (h1:∀ u∈vs,u.oneCell'=true):Rep g (.agg vs.toArray) (.agg cs) := .agg vs cs h.length h1 h.get
theorem Rep.tup_inv {v:Value} {cs:List D} (h:Rep g v (.tup cs)):∃ vs,v = .tuple vs.toArray∧RepL g vs cs:=by
 cases h with
 | tup vs cs hl hr=>exact ⟨vs,rfl,.of hl hr⟩
theorem Rep.mk_tup {vs:List Value} {cs:List D} (h:RepL g vs cs):Rep g (.tuple vs.toArray) (.tup cs) := .tup vs cs h.length h.get
theorem Rep.cells {v:Value} {d:D} (h:Rep g v d) (hk:d.okv=true):∃ vs,v.cells=vs.toArray∧RepL g vs (a0A d)∧∀ u∈vs,u.oneCell'=true:=by
 by_cases h1:d.one=true
 ·have ho:=h.one h1
  refine ⟨[v],?_,?_,?_⟩
  ·cases h <;> first | rfl | (simp [D.one] at h1)
  ·have:a0A d=[d]:=by cases d <;> first | rfl | (simp [D.one] at h1)
   rw [this];exact .cons h .nil
  ·intro u hu;simp at hu;subst hu;exact ho
 ·cases d <;> simp [D.okv,D.one] at hk h1
  obtain ⟨vs,rfl,hr,h2⟩:=h.agg_inv
  exact ⟨vs,rfl,hr,h2⟩
def At (g:Gh) (b o:Nat) (vs:List Value) (cs:List D):Prop:=(∀ (j:Nat) (v:Value),vs[j]?=some v→g.w.cell? ⟨b,o+j,none⟩=some v)∧(∀ v∈vs,v.oneCell'=true)∧RepL g vs cs
theorem At.drop {b o:Nat} {vs:List Value} {cs:List D} (h:At g b o vs cs) (k:Nat):At g b (o+k) (vs.drop k) (cs.drop k) :=
 ⟨(fun j v hj=>by
  rw [List.getElem?_drop] at hj
  have:=h.1 _ v hj
  rwa [← Nat.add_assoc] at this),(fun v hv=>h.2.1 v (List.mem_of_mem_drop hv)),h.2.2.drop k⟩
theorem At.take {b o:Nat} {vs:List Value} {cs:List D} (h:At g b o vs cs) (k:Nat):At g b o (vs.take k) (cs.take k) :=
 ⟨(fun j v hj=>by
  rw [List.getElem?_take] at hj
  split at hj
  ·exact h.1 _ v hj
  ·cases hj),(fun v hv=>h.2.1 v (List.mem_of_mem_take hv)),h.2.2.take k⟩
theorem At.of {b o:Nat} {cs:List D} (vs:Nat→Value) (hc:∀ (j:Nat) (d:D),cs[j]?=some d→g.w.cell? ⟨b,o+j,none⟩=some (vs j)) (h1:∀ (j:Nat) (d:D),cs[j]?=some d→(vs j).oneCell'=true)
  (hr:∀ (j:Nat) (d:D),cs[j]?=some d→Rep g (vs j) d):At g b o ((List.range cs.length).map vs) cs:=by
 have key:∀ (j:Nat) (v:Value),((List.range cs.length).map vs)[j]?=some v→∃ d,cs[j]?=some d∧v=vs j:=fun j v hj=>by
  rw [c9a] at hj
  cases hx:(List.range cs.length)[j]? with
  | none=>rw [hx] at hj;cases hj
  | some k =>
   rw [hx] at hj
   have hk:=c9d.1 hx
   obtain ⟨hk1,hk2⟩:=hk
   simp at hk1 hk2
   subst hk2
   injection hj with hj
   exact ⟨cs[j],c9c hk1,hj.symm⟩
 refine ⟨fun j v hj=>?_,fun v hv=>?_,.of (by simp) fun j v d hj hd=>?_⟩
 ·obtain ⟨d,hd,rfl⟩:=key j v hj
  exact hc j d hd
 ·obtain ⟨j,hj⟩:=List.getElem?_of_mem hv
  obtain ⟨d,hd,rfl⟩:=key j v hj
  exact h1 j d hd
 ·obtain ⟨d',hd',rfl⟩:=key j v hj
  exact hr j d hd
theorem At.fptr {b o:Nat} {vs:List Value} {cs:List D} (h:At g b o vs cs) (hf:cs≠[]→g.fz b):Rep g (.pointer (some ⟨b,o,none⟩)) (.fptr cs):=by
 have hl:=h.2.2.length
 have key:∀ (j:Nat) (d:D),cs[j]?=some d→vs[j]?=some (vs.getD j undef):=fun j d hj=>by
  have:=(c9d.1 hj).1
  rw [List.getD_eq_getElem?_getD,c9c (by omega)]
  rfl
 exact .fptr b o cs (fun j=>vs.getD j undef) hf (fun j d hj=>h.1 j _ (key j d hj)) (fun j d hj=>h.2.1 _ (c9b (key j d hj))) (fun j d hj=>h.2.2.get j _ d (key j d hj) hj)
theorem Rep.fptr_inv {v:Value} {cs:List D} (h:Rep g v (.fptr cs)):∃ b o vs,v = .pointer (some ⟨b,o,none⟩)∧(cs≠[]→g.fz b)∧At g b o vs cs:=by
 cases h with
 | fptr b o cs vs hf hc h1 hr=>exact ⟨b,o,_,rfl,hf,At.of vs hc h1 hr⟩
theorem Rep.sl_row {v:Value} {sz:Nat} {full:Bool} {rows:List (List D)} (h:Rep g v (.sl sz full rows)) {i:Nat} {row:List D} (hi:rows[i]?=some row) :
  ∃ b o n cap vs,v = .slice (some ⟨b,o,none⟩) n cap∧n=rows.length∧g.fz b∧At g b (o+i*sz) vs row∧row.length=sz:=by
 cases h with
 | sl ad n cap sz full rows hn hnc hcm hfull hsz hrow had vs hc h1 hr =>
  have hne:rows≠[]:=fun hh=>by subst hh;cases hi
  obtain ⟨hs,hf⟩:=had hne
  obtain ⟨b,o,s⟩:=ad
  simp only at hs hf hc
  subst hs
  exact ⟨b,o,n,cap,_,rfl,hn.symm,hf,At.of (vs i) (hc i row hi) (h1 i row hi) (hr i row hi),hrow row (c9b hi)⟩
end inv
section ops
variable {P:Program} {T:Tab} (hT:TabOK P T) {g:Gh} {ρ:Operand→Value} {dst:Option Tmp} {ty:TypeId} {pos:String} {af:Array Edge} {gd:Option (Nat × Bool)}
theorem b2u {t:Nat} {i:TI} (hT:TabOK P T) (ht:T t=some i) {b o:Nat} {vs:List Value} {cs:List D} (h:At g b o vs cs) {d:D} (hd:a7s i cs=some d):∃ v,(loadVar t ⟨b,o,none⟩).run P g.w = .ok v g.w∧Rep g v d:=by
 unfold a7s at hd
 have ha:=hT.aggs ht
 split at hd
 ·rename_i hag
  split at hd
  ·rename_i hle
   injection hd with hd
   subst hd
   have h':=h.take i.sz
   have hl:(vs.take i.sz).length=i.sz:=by
    have:=Nat.le_of_ble_eq_true hle
    simp [h.2.2.length];omega
   exact ⟨_,a8x (fun w=>by rw [ha w,hag]) (fun w=>hT.size ht w) hl (fun j v hj=>by rw [Addr.add_lit];exact h'.1 j v hj),.mk_agg h'.2.2 h'.2.1⟩
  ·cases hd
 ·rename_i hag
  have hl:=h.2.2.length
  cases cs with
  | nil=>cases hd
  | cons c r =>
   simp at hd
   subst hd
   cases vs with
   | nil=>simp at hl
   | cons v vs=>exact ⟨v,a8y (fun w=>by rw [ha w,hag]) (by simpa using h.1 0 v rfl),h.2.2.get 0 v _ rfl rfl⟩
theorem b2J {t:Nat} {i:TI} (hT:TabOK P T) (ht:T t=some i) {vs:List Value} {cs:List D} (h:RepL g vs cs) (h1:∀ v∈vs,v.oneCell'=true) {off:Nat} {d:D} (hd:a7s i (cs.drop off)=some d):∃ v,(part t vs.toArray off).run P g.w = .ok v g.w∧Rep g v d:=by
 unfold a7s at hd
 have ha:=hT.aggs ht
 have hd0:=h.drop off
 split at hd
 ·rename_i hag
  split at hd
  ·rename_i hle
   injection hd with hd
   subst hd
   refine ⟨.agg ((vs.drop off).take i.sz).toArray,?_,.mk_agg (hd0.take _) (fun u hu=>h1 u (List.mem_of_mem_drop (List.mem_of_mem_take hu)))⟩
   simp [part,ha,hag,hT.size ht]
  ·cases hd
 ·rename_i hag
  have hl:=hd0.length
  cases hc:cs.drop off with
  | nil=>rw [hc] at hd;cases hd
  | cons c r =>
   rw [hc] at hd
   simp at hd
   subst hd
   cases hv:vs.drop off with
   | nil=>rw [hv,hc] at hl;simp at hl
   | cons v r' =>
    rw [hv,hc] at hd0
    have hget:vs[off]?=some v:=by
     have:=List.getElem?_drop (xs:=vs) (i:=off) (j:=0)
     rw [hv] at this
     simpa using this.symm
    exact ⟨v,by simp [part,ha,hag,hget],hd0.get 0 v _ rfl rfl⟩
include hT in
theorem a4P {t f:Nat} {off:Nat} {j:TI} (h:a9u T t f=some (off,j)):∃ fields fd,P.underlying t=some (.struct fields)∧fields[f]?=some fd∧fd.offset=off∧T fd.type=some j:=by
 unfold a9u at h
 split at h
 ·rename_i i hi
  split at h
  ·rename_i fs hfs
   split at h
   ·rename_i u o s hf
    split at h
    ·rename_i j' hj
     injection h with h
     injection h with h1 h2
     subst h1;subst h2
     obtain ⟨fields,hu,rfl,_⟩:=hT.st hi hfs
     unfold b7V at hf
     rw [c9a] at hf
     cases hx:fields.toList[f]? with
     | none=>rw [hx] at hf;cases hf
     | some fd =>
      rw [hx] at hf
      injection hf with hf
      injection hf with hf1 hf2
      injection hf2 with hf2 hf3
      subst hf1;subst hf2
      exact ⟨fields,fd,hu,by simpa using hx,rfl,hj⟩
    ·cases h
   ·cases h
  ·cases h
 ·cases h
include hT in
theorem a5p {t f:Nat} {x:Operand} {dx d:D} (hx:Rep g (ρ x) dx) (h:a0b T t f dx=some d):DoesV P ρ ⟨dst,.fieldAddr t x f,ty,pos,af,gd⟩ g d:=by
 unfold a0b at h
 split at h
 ·rename_i off j hf
  obtain ⟨fields,fd,hu,hfd,rfl,hj⟩:=a4P hT hf
  split at h
  ·rename_i cs hlt
   split at h
   ·rename_i hoff
    injection h with h
    subst h
    have hz:j.sz≠0:=by have:=Nat.le_of_ble_eq_true hlt;omega
    obtain ⟨b,o,vs,hv,hfz,hat⟩:=hx.fptr_inv
    refine ⟨.pointer (some ⟨b,o+fd.offset,none⟩),?_,(hat.drop fd.offset).fptr fun hne=>hfz fun hh=>hne (by rw [hh];simp)⟩
    simp [execOp,Instr.fieldAt,Instr.sureAddr,run_underlying hu,hfd,hv,fieldPlace,Addr.add_lit,hT.size hj,hz]
   ·cases h
  ·rename_i o i k hlt
   injection h with h
   subst h
   have hz:j.sz≠0:=by have:=Nat.le_of_ble_eq_true hlt;omega
   generalize hv:ρ x=v at hx
   cases hx with
   | ptr o i off m hm =>
    refine ⟨.pointer (some ⟨m.b,i*m.sz+(k+fd.offset),none⟩),?_,.ptr _ _ _ m hm⟩
    simp [execOp,Instr.fieldAt,Instr.sureAddr,run_underlying hu,hfd,hv,fieldPlace,Addr.add_lit,hT.size hj,hz,Nat.add_assoc]
  ·cases h
 ·cases h
include hT in
theorem b0s {t f:Nat} {x:Operand} {dx d:D} (hx:Rep g (ρ x) dx) (h:a6A T t f dx=some d):DoesV P ρ ⟨dst,.field t x f,ty,pos,af,gd⟩ g d:=by
 unfold a6A at h
 split at h
 ·rename_i off j hf
  obtain ⟨fields,fd,hu,hfd,rfl,hj⟩:=a4P hT hf
  split at h
  ·obtain ⟨vs,hv,hr,h1⟩:=hx.agg_inv
   obtain ⟨v,hp,hrv⟩:=b2J hT hj hr h1 h
   exact ⟨v,by simp [execOp,Instr.field,run_underlying hu,hfd,hv,asAgg,hp],hrv⟩
  ·cases h
 ·cases h
include hT in
theorem b6u {t:Nat} {j:TI} (h:b0p T t=some (j,none)):∃ e,P.underlying t=some (.slice e)∧T e=some j:=by
 unfold b0p at h
 split at h
 ·rename_i i hi
  split at h
  ·rename_i e he
   split at h
   ·rename_i j' hj
    injection h with h;injection h with h1 h2;subst h1
    exact ⟨e,hT.sl hi he,hj⟩
   ·cases h
  ·split at h
   ·injection h with h;injection h with h1 h2;cases h2
   ·cases h
  ·cases h
 ·cases h
include hT in
theorem a9z {t n:Nat} {j:TI} (h:b0p T t=some (j,some n)):∃ e,P.underlying t=some (.array n e)∧T e=some j:=by
 unfold b0p at h
 split at h
 ·rename_i i hi
  split at h
  ·split at h
   ·injection h with h;injection h with h1 h2;cases h2
   ·cases h
  ·rename_i n' e he
   split at h
   ·rename_i j' hj
    injection h with h;injection h with h1 h2;subst h1
    injection h2 with h2;subst h2
    exact ⟨e,hT.arr hi he,hj⟩
   ·cases h
  ·cases h
 ·cases h
include hT in
theorem a5q {t:Nat} {x y:Operand} {dx dy d:D} (hx:Rep g (ρ x) dx) (hy:Rep g (ρ y) dy) (h:a0a T t dx dy=some d):DoesV P ρ ⟨dst,.indexAddr t x y,ty,pos,af,gd⟩ g d:=by
 unfold a0a at h
 split at h
 ·rename_i j k i he
  obtain ⟨e,hu,hj⟩:=b6u hT he
  have hyv:ρ y = .int k i:=by generalize hv:ρ y=v at hy;cases hy;rfl
  split at h
  ·rename_i sz full rows
   split at h
   ·rename_i hc
    obtain ⟨rfl,h0⟩:=hc
    split at h
    ·rename_i row hrow
     injection h with h
     subst h
     obtain ⟨b,o,n,cap,vs,hv,hn,hf,hat,_⟩:=hx.sl_row hrow
     have hlt:i<n:=by
      have:=(c9d.1 hrow).1
      omega
     refine ⟨.pointer (some ⟨b,o+i.toNat*j.sz,none⟩),?_,hat.fptr fun _=>hf⟩
     simp [execOp,Instr.indexAt,asIntOf,run_underlying hu,hT.size hj,hv,hyv,h0,hlt,Addr.add_lit]
    ·cases h
   ·cases h
  ·rename_i sz o r n
   split at h
   ·rename_i hc
    obtain ⟨rfl,h0,hlt⟩:=hc
    injection h with h
    subst h
    generalize hv:ρ x=v at hx
    generalize hz:j.sz=z at hx
    cases hx with
    | msl o r n cap m hm hn hlo hhi hcm =>
     refine ⟨.pointer (some ⟨m.b,(r+i.toNat)*m.sz+0,none⟩),?_,.ptr _ _ _ m hm⟩
     simp [execOp,Instr.indexAt,asIntOf,run_underlying hu,hT.size hj,hv,hyv,h0,hlt,Addr.add_lit,hz,Nat.add_mul]
   ·cases h
  ·cases h
 ·rename_i j n k i he
  obtain ⟨e,hu,hj⟩:=a9z hT he
  have hyv:ρ y = .int k i:=by generalize hv:ρ y=v at hy;cases hy;rfl
  split at h
  ·rename_i hc
   obtain ⟨h0,hlt,hz⟩:=hc
   split at h
   ·rename_i cs
    split at h
    ·rename_i hoff
     injection h with h
     subst h
     obtain ⟨b,o,vs,hv,hfz,hat⟩:=hx.fptr_inv
     refine ⟨.pointer (some ⟨b,o+i.toNat*j.sz,none⟩),?_,(hat.drop _).fptr fun hne=>hfz fun hh=>hne (by rw [hh];simp)⟩
     simp [execOp,Instr.indexAt,Instr.sureAddr,asIntOf,run_underlying hu,hT.size hj,hv,hyv,h0,hlt,Addr.add_lit]
    ·cases h
   ·rename_i o q f
    injection h with h
    subst h
    generalize hv:ρ x=v at hx
    cases hx with
    | ptr o q f m hm =>
     refine ⟨.pointer (some ⟨m.b,q*m.sz+(f+i.toNat*j.sz),none⟩),?_,.ptr _ _ _ m hm⟩
     simp [execOp,Instr.indexAt,Instr.sureAddr,asIntOf,run_underlying hu,hT.size hj,hv,hyv,h0,hlt,Addr.add_lit,Nat.add_assoc]
   ·cases h
  ·cases h
 ·cases h
include hT in
theorem b0t {t:Nat} {x y:Operand} {dx dy d:D} (hx:Rep g (ρ x) dx) (hy:Rep g (ρ y) dy) (h:a2N T t dx dy=some d):DoesV P ρ ⟨dst,.index t x y,ty,pos,af,gd⟩ g d:=by
 unfold a2N at h
 split at h
 ·rename_i s k i
  have hyv:ρ y = .int k i:=by generalize hv:ρ y=v at hy;cases hy;rfl
  have hxv:ρ x = .string ⟨s.toArray⟩:=by generalize hv:ρ x=v at hx;cases hx;rfl
  split at h
  ·rename_i ti hti
   split at h
   ·rename_i hs
    split at h
    ·rename_i h0
     split at h
     ·rename_i c hc
      injection h with h
      subst h
      have hb:(ByteArray.mk s.toArray)[i.toNat]?=some c:=by
       have hlt:=(c9d.1 hc).1
       have hl:i.toNat<(ByteArray.mk s.toArray).size:=by rw [a2I];exact hlt
       rw [getElem?_pos (ByteArray.mk s.toArray) i.toNat hl]
       have:=(c9d.1 hc).2
       rw [← this]
       rfl
      exact ⟨.int .u8 c.toNat,by simp [execOp,Instr.index,asIntOf,run_underlying (hT.str hti hs),hxv,hyv,h0,hb],.int _ _⟩
     ·cases h
    ·cases h
   ·cases h
  ·cases h
 ·rename_i cs k i
  have hyv:ρ y = .int k i:=by generalize hv:ρ y=v at hy;cases hy;rfl
  split at h
  ·rename_i j n he
   split at h
   ·rename_i hc
    obtain ⟨h0,hlt⟩:=hc
    obtain ⟨e,hu,hj⟩:=a9z hT he
    obtain ⟨vs,hv,hr,h1⟩:=hx.agg_inv
    obtain ⟨v,hp,hrv⟩:=b2J hT hj hr h1 h
    exact ⟨v,by simp [execOp,Instr.index,asIntOf,run_underlying hu,hv,hyv,h0,hlt,hT.size hj,hp],hrv⟩
   ·cases h
  ·cases h
 ·cases h
theorem a7t {x:Operand} {i:Nat} {dx d:D} (hx:Rep g (ρ x) dx) (h:a0r i dx=some d):DoesV P ρ ⟨dst,.extract x i,ty,pos,af,gd⟩ g d:=by
 unfold a0r at h
 split at h
 ·obtain ⟨vs,hv,hr⟩:=hx.tup_inv
  have hl:=hr.length
  have hlt:=(c9d.1 h).1
  have hg:vs[i]?=some vs[i]:=c9c (by omega)
  exact ⟨_,by simp only [execOp,Instr.extract,hv];simp [hg],hr.get i _ d hg h⟩
 ·cases h
include hT in
theorem b1l {s t:Nat} {x:Operand} {dx d:D} (hx:Rep g (ρ x) dx) (h:a2e T s t dx=some d):DoesV P ρ ⟨dst,.convert s t x,ty,pos,af,gd⟩ g d:=by
 unfold a2e at h
 split at h
 ·rename_i i j hi hj
  obtain ⟨_,u,_,_,hu,_⟩:=hT.get hi
  split at h
  ·rename_i k k' n hk
   injection h with h
   subst h
   have hxv:ρ x = .int k' n:=by generalize hv:ρ x=v at hx;cases hx;rfl
   refine ⟨.int k (k.wrap n),?_,.int _ _⟩
   simp [execOp,convert,run_underlying hu,run_underlying (hT.int hj hk),hxv,Conv.intToInt]
  ·rename_i s' hk
   split at h
   ·rename_i hk'
    injection h with h
    subst h
    have hxv:ρ x = .string ⟨s'.toArray⟩:=by generalize hv:ρ x=v at hx;cases hx;rfl
    refine ⟨.string ⟨s'.toArray⟩,?_,.str _⟩
    simp [execOp,convert,run_underlying (hT.str hi hk'),run_underlying (hT.str hj hk),hxv]
   ·cases h
  ·cases h
 ·cases h
end ops
end Go.Pi

/- Operators; parts of slices; structs and slices written out; new memory that is never written a3H. No program is named here. -/
import Derived.Test.YtkpnnfhodlanjaaGreatDoorPiE
set_option linter.unusedSimpArgs false
set_option linter.unusedVariables false
set_option linter.unnecessarySimpa false
namespace Go.Pi
open Go.Eng
section ops
variable {P:Program} {T:Tab} {g:Gh} {ρ:Operand→Value} {dst:Option Tmp} {ty:TypeId} {pos:String} {af:Array Edge} {gd:Option (Nat × Bool)}
theorem b3Y (hT:TabOK P T) {op:BinOp} {tx ty':TypeId} {x y:Operand} {dx dy d:D} (hx:Rep g (ρ x) dx) (hy:Rep g (ρ y) dy) (h:a0f T op tx dx dy=some d):DoesV P ρ ⟨dst,.binOp op tx x y ty',ty,pos,af,gd⟩ g d:=by
 unfold a0f at h
 split at h
 ·rename_i k a k' b
  have hxv:ρ x = .int k a:=by generalize hv:ρ x=v at hx;cases hx;rfl
  have hyv:ρ y = .int k' b:=by generalize hv:ρ y=v at hy;cases hy;rfl
  split at h
  ·split at h
   ·cases h
   ·rename_i hb
    injection h with h
    subst h
    have:¬ b<0:=by omega
    exact ⟨.int k (k.wrap (a*2 ^ (min b.toNat k.bits))),by simp [execOp,hxv,hyv,eqGuard,binOp,Op.shift,this],.int _ _⟩
  ·split at h
   ·cases h
   ·rename_i hb
    injection h with h
    subst h
    have:¬ b<0:=by omega
    exact ⟨.int k (a.fdiv (2 ^ (min b.toNat k.bits))),by simp [execOp,hxv,hyv,eqGuard,binOp,Op.shift,this],.int _ _⟩
  ·rename_i h1 h2
   split at h
   ·rename_i hk
    subst hk
    exact a8n hxv hyv ⟨fun hh=>h1 hh,fun hh=>h2 hh⟩ h
   ·cases h
 ·rename_i a b
  have hxv:ρ x = .string ⟨a.toArray⟩:=by generalize hv:ρ x=v at hx;cases hx;rfl
  have hyv:ρ y = .string ⟨b.toArray⟩:=by generalize hv:ρ y=v at hy;cases hy;rfl
  exact a8o hxv hyv h
 ·split at h
  ·cases he:b7S T tx dx dy with
   | none=>rw [he] at h;cases h
   | some b =>
    rw [he] at h
    injection h with h
    subst h
    have:=b1m (dst:=dst) (ty:=ty) (pos:=pos) (af:=af) (gd:=gd) (ty':=ty') hT hx hy he (.inl rfl)
    simpa using this
  ·cases he:b7S T tx dx dy with
   | none=>rw [he] at h;cases h
   | some b =>
    rw [he] at h
    injection h with h
    subst h
    have:=b1m (dst:=dst) (ty:=ty) (pos:=pos) (af:=af) (gd:=gd) (ty':=ty') hT hx hy he (.inr rfl)
    simpa using this
  ·cases h
-- parts
def b7X (v:Option Value) (n:Option Int):Prop:=match v,n with
 | none,none=>True
 | some u,some i=>∃ k,u = .int k i
 | _,_=>False
theorem a2F {k:IntKind} {i:Int} {y:Nat} {c:BoundsCode} {w:World} (h0:0≤i) (hy:i≤y):(Instr.sliceBound (.int k i) y c).run P w = .ok i.toNat w:=by
 simp [Instr.sliceBound,asIntOf,h0,hy]
theorem a5S {lo hi mx:Option Value} {l h m:Option Int} (hlo:b7X lo l) (hhi:b7X hi h) (hmx:b7X mx m) {n cap:Nat} {b:Bool} (hm:mx.isSome=true→hi.isSome=true) (h0:0≤l.getD 0) (h1:l.getD 0≤h.getD n) (h2:h.getD n≤m.getD cap) (h3:m.getD cap≤cap) (w:World) :
  (Instr.sliceBounds b n cap lo hi mx).run P w = .ok ((l.getD 0).toNat,(h.getD n).toNat,(m.getD cap).toNat) w:=by
 cases mx with
 | none =>
  cases m with
  | some m=>exact hmx.elim
  | none =>
   cases hi with
   | none =>
    cases h with
    | some h=>exact hhi.elim
    | none =>
     cases lo with
     | none =>
      cases l with
      | some l=>exact hlo.elim
      | none=>simp [Instr.sliceBounds]
     | some lo =>
      cases l with
      | none=>exact hlo.elim
      | some l =>
       obtain ⟨k,rfl⟩:=hlo
       simp at h0 h1
       simp [Instr.sliceBounds,a2F (P:=P) (k:=k) (c := .sliceB) (w:=w) h0 h1]
   | some hi =>
    cases h with
    | none=>exact hhi.elim
    | some h =>
     obtain ⟨k2,rfl⟩:=hhi
     simp at h1 h2
     have hb:=fun c=>a2F (P:=P) (k:=k2) (c:=c) (w:=w) (i:=h) (y:=cap) (by cases l <;> simp at h0 h1 <;> omega) h2
     cases lo with
     | none =>
      cases l with
      | some l=>exact hlo.elim
      | none=>cases b <;> simp [Instr.sliceBounds,hb]
     | some lo =>
      cases l with
      | none=>exact hlo.elim
      | some l =>
       obtain ⟨k,rfl⟩:=hlo
       simp at h0 h1
       have hb2:=a2F (P:=P) (k:=k) (c := .sliceB) (w:=w) (y:=h.toNat) h0 (by omega)
       cases b <;> simp [Instr.sliceBounds,hb,hb2]
 | some mx =>
  cases m with
  | none=>exact hmx.elim
  | some m =>
   obtain ⟨k3,rfl⟩:=hmx
   cases hi with
   | none=>exact absurd (hm rfl) (by simp)
   | some hi =>
    cases h with
    | none=>exact hhi.elim
    | some h =>
     obtain ⟨k2,rfl⟩:=hhi
     simp at h1 h2 h3
     have hh0:0≤h:=by cases l <;> simp at h0 h1 <;> omega
     have hbm:=fun c=>a2F (P:=P) (k:=k3) (c:=c) (w:=w) (i:=m) (y:=cap) (by omega) h3
     have hb:=fun c=>a2F (P:=P) (k:=k2) (c:=c) (w:=w) (i:=h) (y:=m.toNat) hh0 (by omega)
     cases lo with
     | none =>
      cases l with
      | some l=>exact hlo.elim
      | none=>cases b <;> simp [Instr.sliceBounds,hb,hbm]
     | some lo =>
      cases l with
      | none=>exact hlo.elim
      | some l =>
       obtain ⟨k,rfl⟩:=hlo
       simp at h0 h1
       have hb2:=fun c=>a2F (P:=P) (k:=k) (c:=c) (w:=w) (i:=l) (y:=h.toNat) h0 (by omega)
       cases b <;> simp [Instr.sliceBounds,hb,hbm,hb2]
theorem a1P (hT:TabOK P T) {t:TypeId} {x:Operand} {lo hi mx:Option Operand} {l h m:Option Int} {dx d:D} (hx:Rep g (ρ x) dx) (hlo:b7X (lo.map ρ) l) (hhi:b7X (hi.map ρ) h) (hmx:b7X (mx.map ρ) m)
  (hm:mx.isSome=true→hi.isSome=true) (hd:a1t T t dx l h m=some d):DoesV P ρ ⟨dst,.slice t x lo hi mx,ty,pos,af,gd⟩ g d:=by
 have hmm:(mx.map ρ).isSome=true→(hi.map ρ).isSome=true:=by simpa using hm
 unfold a1t at hd
 split at hd
 ·rename_i ti hti
  split at hd
  ·rename_i s hs
   have hxv:ρ x = .string ⟨s.toArray⟩:=by generalize hv:ρ x=v at hx;cases hx;rfl
   simp only at hd
   split at hd
   ·rename_i hc
    obtain ⟨rfl,h0,h1,h2⟩:=hc
    injection hd with hd
    subst hd
    have hmx0:mx.map ρ=none:=by
     cases hq:mx.map ρ with
     | none=>rfl
     | some u=>rw [hq] at hmx;exact hmx.elim
    have hb:=a5S (P:=P) (b:=false) (n:=s.length) (cap:=s.length) hlo hhi (mx:=none) (m:=none) trivial (by simp) h0 h1 (by simpa using h2) (by simp) g.w
    refine ⟨.string ⟨((s.take (h.getD s.length).toNat).drop (l.getD 0).toNat).toArray⟩,?_,.str _⟩
    simp only [execOp,Instr.sliceAt,hmx0,hxv,Sem.run_bind,run_underlying (hT.str hti hs),Result.andThen_ok]
    simp only [Instr.slice,Sem.run_bind,run_underlying (hT.str hti hs),Result.andThen_ok,Option.isSome_none,c8O,if_false,Sem.run_pure,a2I,hb]
    have he:(ByteArray.mk s.toArray).extract (l.getD 0).toNat (h.getD s.length).toNat=⟨((s.take (h.getD s.length).toNat).drop (l.getD 0).toNat).toArray⟩:=by
     apply ByteArray.ext
     simp [List.extract_eq_take_drop,List.drop_take]
    rw [he]
   ·cases hd
  ·rename_i e x' hs
   split at hd
   ·rename_i j hj
    have hu:=hT.sl hti hs
    have run:∀ (a:Option Addr) (n cap:Nat),ρ x = .slice a n cap→0≤l.getD 0→l.getD 0≤h.getD n→h.getD n≤m.getD cap→m.getD cap≤cap→(execOp ρ ⟨dst,.slice t x lo hi mx,ty,pos,af,gd⟩).run P g.w =
      .ok (.value (.slice (if (m.getD cap).toNat=(l.getD 0).toNat then a else a.map (·.add ((l.getD 0).toNat*j.sz))) ((h.getD n).toNat - (l.getD 0).toNat) ((m.getD cap).toNat - (l.getD 0).toNat))) g.w:=fun a n cap hxv h0 h1 h2 h3=>by
     have hb:=a5S (P:=P) (b:=true) (n:=n) (cap:=cap) hlo hhi hmx hmm h0 h1 h2 h3 g.w
     simp only [execOp,Instr.sliceAt,hxv,Sem.run_bind,run_underlying hu,Result.andThen_ok]
     simp only [Instr.slice,Sem.run_bind,run_underlying hu,Result.andThen_ok,hb,hT.size hj,Sem.run_pure]
    split at hd
    ·split at hd
     ·rename_i hc
      obtain ⟨h0,h1,h2⟩:=hc
      injection hd with hd
      subst hd
      have hxv:ρ x = .slice none 0 0:=by generalize hv:ρ x=v at hx;cases hx;rfl
      have:=run none 0 0 hxv (by omega) (by simp;omega) (by simp;omega) (by simp;omega)
      refine ⟨.slice none 0 0,?_,.nils⟩
      rw [this]
      simp
      have e1:(h.getD 0).toNat=0:=by omega
      have e2:(m.getD 0).toNat=0:=by omega
      simp [e1,e2]
     ·cases hd
    ·rename_i sz full rows
     simp only at hd
     split at hd
     ·rename_i hc
      obtain ⟨rfl,h0,h1⟩:=hc
      generalize hv:ρ x=v at hx
      generalize hz:j.sz=z at hx hd
      cases hx with
      | sl ad n cap sz full rows hn hnc hcm hfull hsz hrow had vs hcc h1' hr =>
       -- the part's own datum
       have mk:∀ (H M:Nat) (f:Bool),(l.getD 0).toNat≤H→H≤rows.length→H≤M→M≤cap→(f=true→M=H)→Rep g (.slice (if M=(l.getD 0).toNat then some ad else (some ad).map (·.add ((l.getD 0).toNat*z))) (H - (l.getD 0).toNat) (M - (l.getD 0).toNat)) (.sl z f ((rows.take H).drop (l.getD 0).toNat)):=by
        intro H M f hlH hHr hHM hMc hf
        generalize hL:(l.getD 0).toNat=L at hlH
        have hadr:∃ ad',(if M=L then some ad else (some ad).map (·.add (L*z)))=some ad'∧ad'.block=ad.block∧(L<H→ad'.off=ad.off+L*z∧(ad.spot=none→ad'.spot=none)):=by
         split
         ·exact ⟨ad,rfl,rfl,fun hh=>by omega⟩
         ·refine ⟨ad.add (L*z),rfl,?_,fun _=>?_⟩
          ·unfold Addr.add;split <;> rfl
          ·unfold Addr.add
           split
           ·rename_i hz0;simp [hz0]
           ·simp
        obtain ⟨ad',ha',hblk,hoff⟩:=hadr
        rw [ha']
        have hidx:∀ (i:Nat) (row:List D),((rows.take H).drop L)[i]?=some row→rows[L+i]?=some row∧L+i<H:=fun i row hi=>by
         rw [List.getElem?_drop,List.getElem?_take] at hi
         split at hi
         ·rename_i hlt;exact ⟨hi,hlt⟩
         ·cases hi
        refine .sl ad' (H - L) (M - L) z f _ (by simp;omega) (by omega) (by omega) (fun hh=>by have:=hf hh;omega) hsz (fun row hrw=>hrow row (List.mem_of_mem_take (List.mem_of_mem_drop hrw))) (fun hne=>?_) (fun i jj=>vs (L+i) jj) (fun i row hi jj dd hjj=>?_) (fun i row hi jj dd hjj=>?_) (fun i row hi jj dd hjj=>?_)
        ·have hlt:L<H:=by
           rcases Nat.lt_or_ge L H with hh | hh
           ·exact hh
           ·exfalso;apply hne;apply List.drop_eq_nil_of_le;simp;omega
         have hne0:rows≠[]:=fun hh=>by subst hh;simp at hHr;omega
         obtain ⟨q1,q2⟩:=had hne0
         exact ⟨(hoff hlt).2 q1,by rw [hblk];exact q2⟩
        ·obtain ⟨k1,k2⟩:=hidx i row hi
         have:=hcc _ row k1 jj dd hjj
         rw [hblk,(hoff (by omega)).1]
         rw [Nat.add_mul] at this
         rw [← this]
         congr 2
         omega
        ·obtain ⟨k1,k2⟩:=hidx i row hi
         exact h1' _ row k1 jj dd hjj
        ·obtain ⟨k1,k2⟩:=hidx i row hi
         exact hr _ row k1 jj dd hjj
       split at hd
       ·split at hd
        ·rename_i h2
         injection hd with hd
         subst hd
         have:=run (some ad) n cap hv h0 (by rw [← hn];exact h1) (by simp;rw [← hn];omega) (by simp)
         simp only [Option.getD_none,hz] at this
         rw [← hn] at this
         refine ⟨_,this,?_⟩
         have:=mk (h.getD rows.length).toNat cap (full&&decide (h.getD rows.length=rows.length)) (by omega) (by omega) (by omega) (Nat.le_refl _) (fun hh=>by
          simp at hh
          have:=hfull hh.1
          omega)
         simpa using this
        ·cases hd
       ·rename_i mm
        split at hd
        ·rename_i h2
         obtain ⟨h2,h3⟩:=h2
         injection hd with hd
         subst hd
         have:=run (some ad) n cap hv h0 (by rw [← hn];exact h1) (by simp;rw [← hn];omega) (by simp;omega)
         simp only [Option.getD_some,hz] at this
         rw [← hn] at this
         refine ⟨_,this,?_⟩
         exact mk (h.getD rows.length).toNat mm.toNat (decide (h.getD rows.length=mm)) (by omega) (by omega) (by omega) (by omega) (fun hh=>by
          simp at hh
          omega)
        ·cases hd
     ·cases hd
    ·rename_i sz o r n
     simp only at hd
     split at hd
     ·rename_i hc
      obtain ⟨rfl,hpos,h0,h1,h2⟩:=hc
      generalize hv:ρ x=v at hx
      generalize hz:j.sz=z at hx hd hpos
      cases hx with
      | msl o r n cap me hme hn hlo' hhi' hcm =>
       split at hd
       ·have hr1:=run (some ⟨me.b,r*me.sz,none⟩) n cap hv h0 h1 (by simp;omega) (by simp)
        simp only [Option.getD_none,hz] at hr1
        refine ⟨_,hr1,?_⟩
        split at hd
        ·rename_i hlh
         injection hd with hd
         subst hd
         have ha:(if ((cap:Int)).toNat=(l.getD 0).toNat then (some ⟨me.b,r*me.sz,none⟩:Option Addr) else (some (⟨me.b,r*me.sz,none⟩:Addr)).map (·.add ((l.getD 0).toNat*me.sz)))=some ⟨me.b,(r+(l.getD 0).toNat)*me.sz,none⟩:=by
          split
          ·rename_i hcl
           rcases hlh with hlh | hlh
           ·exfalso;omega
           ·simp [hlh]
          ·simp [Addr.add_lit,Nat.add_mul]
         rw [ha]
         have e1:((h.getD n).toNat - (l.getD 0).toNat)=(h.getD n - l.getD 0).toNat:=by omega
         rw [e1]
         exact .msl o _ _ _ me hme (by omega) (by omega) (by omega) (by omega)
        ·rename_i hlh
         injection hd with hd
         subst hd
         have e1:((h.getD n).toNat - (l.getD 0).toNat)=0:=by omega
         rw [e1]
         have emp:∀ (ad:Addr) (c:Nat),c≤9223372036854775807→Rep g (.slice (some ad) 0 c) (.sl me.sz false []):=fun ad c hc => .sl ad 0 c _ false [] rfl (Nat.zero_le _) hc (by simp) hpos (by simp) (by simp) (fun _ _=>undef) (by simp) (by simp) (by simp)
         split
         ·exact emp _ _ (by omega)
         ·exact emp _ _ (by omega)
       ·rename_i mm
        split at hd
        ·rename_i hh
         obtain ⟨hl0,hh0,hm0⟩:=hh
         injection hd with hd
         subst hd
         have hr1:=run (some ⟨me.b,r*me.sz,none⟩) n cap hv h0 h1 (by simp;omega) (by simp;omega)
         simp only [Option.getD_some,hz,hm0,hh0,hl0] at hr1
         refine ⟨_,hr1,?_⟩
         exact .sl _ 0 0 _ true [] rfl (Nat.zero_le _) (by omega) (by simp) hpos (by simp) (by simp) (fun _ _=>undef) (by simp) (by simp) (by simp)
        ·cases hd
     ·cases hd
    ·cases hd
   ·cases hd
  ·cases hd
 ·cases hd
end ops
end Go.Pi

/- Operations in a frame: what the code does, told by what it does to data. No program is named here. -/
import Derived.Test.YtkpnnfhodlanjaaGreatDoorPiO
set_option linter.unusedSimpArgs false
set_option linter.unusedVariables false
set_option linter.unnecessarySimpa false
namespace Go.Pi
open Go.Eng
def opR (X:Cx) (call:a0Z) (fz bor:List Nat) (l:List Oper) (o:Oper) (e:DE) (h:Hp):Option (D × Hp) :=
 match b0x X e o.op.operands.toList with
 | none=>none
 | some ds=>match o.guard with
  | none=>match a0W X.T fz o with
   | .pure=>(a2E X.T o.op ds).bind fun d=>some (d,h)
   | .read=>(a2Z X.T h o.op ds).bind fun d=>some (d,h)
   | .write=>b7O (a3x o.dst bor) X.T h o.op ds
   | .call=>a2t X.T call (a3x o.dst bor) o.op ds h
   | .limbo=>(b2q X.T o.op).bind fun d=>some (d,h)
  | some (j,b)=>match (l[j]?).bind (·.dst) with
   | none=>none
   | some t=>match lkD e t with
    | none=>none
    | some g=>match a0W X.T fz o with
     | .pure=>(gd g b (a2E X.T o.op ds)).bind fun d=>some (d,h)
     | .read=>(gd g b (a2Z X.T h o.op ds)).bind fun d=>some (d,h)
     | .write=>gdW g b h (b7O (a3x o.dst bor) X.T h o.op ds)
     | .call=>gdW g b h (a2t X.T call (a3x o.dst bor) o.op ds h)
     | .limbo=>none
theorem b2D {T:Tab} {fz:List Nat} {o:Oper} {ds:List D} {d:D} (h:c1Q o.op ds=some d):a0W T fz o = .pure∧a2E T o.op ds=some d:=by
 unfold c1Q at h
 split at h
 ·rename_i ho
  injection h with h
  subst h
  simp only [a0W,a2E,ho,and_self]
 ·rename_i ho
  injection h with h
  subst h
  simp only [a0W,a2E,ho,and_self]
 ·cases h
theorem a9U {R:Type} (X:Cx) (call:a0Z) (nt:Nat) (fz bor:List Nat) (l:List Oper) (o:Oper) (e:DE) (h:Hp) (K:DE→Hp→Option R) :
  opK X call nt fz bor l o e h K=(opR X call fz bor l o e h).bind fun p=>a5P nt o.dst p.1 e p.2 K:=by
 unfold opK opR
 cases b0x X e o.op.operands.toList with
 | none=>rfl
 | some ds =>
  simp only []
  cases o.guard with
  | none =>
   simp only []
   cases hm:c1Q o.op ds with
   | some d =>
    obtain ⟨h1,h2⟩:=b2D (T:=X.T) (fz:=fz) hm
    simp only [h1,h2,Option.bind_some]
   | none =>
    simp only []
    cases a0W X.T fz o <;> simp only [c8N,Option.bind_some,Option.bind_none]
  | some q =>
   obtain ⟨j,b⟩:=q
   simp only []
   cases (l[j]?).bind (·.dst) with
   | none=>rfl
   | some t =>
    simp only []
    cases lkD e t with
    | none=>rfl
    | some g =>
     simp only []
     cases a0W X.T fz o <;> simp only [c8N,Option.bind_some,Option.bind_none]
section
variable {P:Program} {X:Cx}
def GlOK (g:Gh) (gl:Nat→Option D):Prop:=∀ i d,gl i=some d→Rep g (.pointer (some ⟨i,0,none⟩)) d
theorem GlOK.ext {g g':Gh} {gl:Nat→Option D} (h:GlOK g gl) (he:Ext g g'):GlOK g' gl:=fun i d hd=>(h i d hd).ext he
theorem GlOK.extW {g g':Gh} {gl:Nat→Option D} (h:GlOK g gl) (he:ExtW g g'):GlOK g' gl:=fun i d hd=>(h i d hd).extW he
def a4G (P:Program) (f:FuncId) (vs:List Value) (g:Gh) (h':Hp) (d:D):Prop :=
 ((callFunc f vs.toArray).run P g.w = .ok (.enter f vs.toArray) g.w∧CallsV P f vs.toArray g.w fun v w'=>∃ g',g'.w=w'∧Ext g g'∧Inv g' h'∧Rep g' v d) ∨
 ∃ v g',(callFunc f vs.toArray).run P g.w = .ok (.value v) g'.w∧Ext g g'∧Inv g' h'∧Rep g' v d
def a1I (P:Program) (X:Cx) (call:a0Z):Prop:=∀ f args h d h',call f args h=some (d,h')→∀ g vs,Inv g h→GlOK g X.gl→RepL g vs args→a4G P f vs g h' d
theorem b1s {g:Gh} {e:DE} {a:Act} (hgl:GlOK g X.gl) {x:Operand} {d:D} (hs:∀ t d,x = .tmp t→lkD e t=some d→Rep g (a.tmps.getD t undef) d) (h:evD X e x=some d):Rep g (a.eval x) d:=by
 cases x with
 | tmp t=>exact hs t d rfl h
 | const v =>
  simp only [evD,Option.some.injEq] at h
  subst h
  exact a8D g v
 | global i=>exact hgl i d h
 | func f =>
  simp only [evD,Option.some.injEq] at h
  subst h
  have:=Rep.fn (g:=g) (.func f) [] [] [] [] rfl rfl (by simp) (by simp)
  simpa [Act.eval] using this
theorem b1w {g:Gh} {e:DE} {a:Act} (hgl:GlOK g X.gl):∀ {xs:List Operand} {ds:List D},(∀ t d,.tmp t∈xs→lkD e t=some d→Rep g (a.tmps.getD t undef) d)→b0x X e xs=some ds→RepL g (xs.map a.eval) ds
 | [],ds,_,h=>by
  simp only [b0x,Option.some.injEq] at h
  subst h
  exact .nil
 | x::r,ds,hs,h=>by
  simp only [b0x] at h
  split at h
  ·rename_i d hx
   split at h
   ·rename_i ds' hr
    injection h with h
    subst h
    exact .cons (b1s hgl (fun t d ht=>hs t d (ht▸List.mem_cons_self ..)) hx) (b1w hgl (fun t d ht=>hs t d (List.mem_cons_of_mem _ ht)) hr)
   ·cases h
  ·cases h
theorem b7y {g:Gh} {h:Hp} (hi:Inv g h) {g1:Gh} (hw:g1.w=g.w) (hms:g1.ms=g.ms) (hL:∀ b,¬ g1.L b):∀ (n:Nat) (v:Value) (d:D),Rep g v d→Rep g1 v (b4P h n d):=by
 have he:ExtW g g1:=⟨by rw [hw],by rw [hw],by rw [hw],by rw [hw];exact Nat.le_refl _,fun o m hm=>by rw [hms];exact hm,fun b hb=>⟨⟨by rw [hw];exact hb.1,hL b⟩,by rw [hw]⟩⟩
 intro n
 induction n with
 | zero=>intro v d hv;exact hv.extW he
 | succ n ih =>
  intro v d hv
  unfold b4P
  split
  ·rename_i sz o r k
   split
   ·rename_i U z rows ho
    obtain ⟨m,cap,rfl,hmsz,hm,hn,hlo,hhi,hcm⟩:=hv.msl_inv
    obtain ⟨m',cs,hm',hl⟩:=hi.live o U z rows ho
    rw [hm] at hm'
    injection hm' with hm'
    subst hm'
    have hz:=hl.hsz
    have hlen:=hl.len
    obtain ⟨fr,hb,_⟩:=hl.blk
    have hcell:∀ i,g1.w.cell? ⟨m.b,i,none⟩=cs[i]?:=fun i=>by rw [hw];simp only [World.cell?,hb];simp
    have hidx:∀ (i:Nat) (row:List D),(((rows.drop r).take k).map fun row=>row.map (b4P h n))[i]?=some row→∃ row0,rows[r+i]?=some row0∧row=row0.map (b4P h n):=fun i row hi'=>by
     rw [c9a] at hi'
     cases hq:((rows.drop r).take k)[i]? with
     | none=>rw [hq] at hi';cases hi'
     | some row0 =>
      rw [hq] at hi'
      injection hi' with hi'
      rw [List.getElem?_take] at hq
      split at hq
      ·rw [List.getElem?_drop] at hq
       exact ⟨row0,hq,hi'.symm⟩
      ·cases hq
    have hcd:∀ (i:Nat) (row:List D),(((rows.drop r).take k).map fun row=>row.map (b4P h n))[i]?=some row→∀ (j:Nat) (d:D),row[j]?=some d→∃ v,cs[(r+i)*z+j]?=some v∧v.oneCell'=true∧Rep g1 v d:=fun i row hi' j d hj=>by
     obtain ⟨row0,h1,rfl⟩:=hidx i row hi'
     rw [c9a] at hj
     cases hq:row0[j]? with
     | none=>rw [hq] at hj;cases hj
     | some d0 =>
      rw [hq] at hj
      injection hj with hj
      subst hj
      obtain ⟨v,h2,h3,h4⟩:=hl.cell _ row0 h1 j d0 hq
      exact ⟨v,h2,h3,ih v d0 h4⟩
    have hgd:∀ {q:Nat} {v:Value},cs[q]?=some v→cs.getD q undef=v:=fun {q v} hq=>by rw [Array.getD_eq_getD_getElem?,hq];rfl
    have hbl:m.b<g1.w.heap.size:=by rw [hw];exact (Array.getElem?_eq_some_iff.1 hb).1
    refine .sl ⟨m.b,r*m.sz,none⟩ k cap sz false _ (by simp;omega) (by omega) hcm (by simp) (by have:=hl.pos;omega) (fun row hrow=>?_) (fun _=>⟨rfl,hbl,hL _⟩) (fun i j=>cs.getD ((r+i)*z+j) undef) (fun i row hi' j d hj=>?_) (fun i row hi' j d hj=>?_) (fun i row hi' j d hj=>?_)
    ·obtain ⟨row0,h1,rfl⟩:=c9k.1 hrow
     rw [c8T,hl.row row0 (List.mem_of_mem_drop (List.mem_of_mem_take h1))]
     omega
    ·obtain ⟨v,h2,h3,h4⟩:=hcd i row hi' j d hj
     rw [hgd h2,hcell]
     rw [← h2]
     congr 1
     rw [← hmsz,hz,Nat.add_mul]
    ·obtain ⟨v,h2,h3,h4⟩:=hcd i row hi' j d hj
     rw [hgd h2];exact h3
    ·obtain ⟨v,h2,h3,h4⟩:=hcd i row hi' j d hj
     rw [hgd h2];exact h4
   ·exact hv.extW he
  ·rename_i cs
   obtain ⟨vs,rfl,hr,h1⟩:=hv.agg_inv
   refine .mk_agg (.of (by simp [hr.length]) fun j v d hv' hd=>?_) h1
   rw [c9a] at hd
   cases hq:cs[j]? with
   | none=>rw [hq] at hd;cases hd
   | some d0 =>
    rw [hq] at hd
    injection hd with hd
    subst hd
    exact ih v d0 (hr.get j v d0 hv' hq)
  ·exact hv.extW he
theorem scal1 {g g':Gh} {v:Value} {d:D} (h:Rep g v d) (hs:d.scal1=true):Rep g' v d:=by
 cases h <;> first | exact .bool _ | exact .int _ _ | exact .str _ | exact .nilp | exact .nils | exact .und | (cases hs)
theorem b4M {g g':Gh} {v:Value} {d:D} (h:Rep g v d) (hs:d.scal=true):Rep g' v d:=by
 unfold D.scal at hs
 split at hs
 ·rename_i ds
  obtain ⟨vs,rfl,hr⟩:=h.tup_inv
  exact .mk_tup (.of hr.length fun j v d h1 h2=>scal1 (hr.get j v d h1 h2) ((List.all_eq_true.1 hs) d (c9b h2)))
 ·exact scal1 h hs
theorem b1V {g:Gh} {h:Hp} (hi:Inv g h) {n0:Nat} {g1:Gh} (hw:g1.w=g.w) (hms:g1.ms=g.ms) (hL:∀ b,g1.L b→g.L b∧((∃ (o:Nat) (m:Me),o<n0∧g.ms[o]?=some m∧m.b=b∧∃ T sz rows,h[o]?=some (.row T sz rows))∨∀ (o:Nat) (m:Me),g.ms[o]?=some m→m.b≠b)):∀ (n:Nat) (v:Value) (d:D),Rep g v d→Rep g1 v (frz n0 h n d):=by
 have he:ExtW g g1:=⟨by rw [hw],by rw [hw],by rw [hw],by rw [hw];exact Nat.le_refl _,fun o m hm=>by rw [hms];exact hm,fun b hb=>⟨⟨by rw [hw];exact hb.1,fun hh=>hb.2 (hL b hh).1⟩,by rw [hw]⟩⟩
 intro n
 induction n with
 | zero=>intro v d hv;exact hv.extW he
 | succ n ih =>
  intro v d hv
  unfold frz
  split
  ·rename_i sz o r k
   split
   ·rename_i hble
    split
    ·rename_i U z rows ho
     have hno:=Nat.le_of_ble_eq_true hble
     obtain ⟨m,cap,rfl,hmsz,hm,hn,hlo,hhi,hcm⟩:=hv.msl_inv
     obtain ⟨m',cs,hm',hl⟩:=hi.live o U z rows ho
     rw [hm] at hm'
     injection hm' with hm'
     subst hm'
     have hz:=hl.hsz
     have hlen:=hl.len
     obtain ⟨fr,hb,_⟩:=hl.blk
     have hfzb:¬ g1.L m.b:=fun hh=>by
      rcases (hL m.b hh).2 with ⟨q,mq,hq1,hq2,hq3,T',s',r',hq4⟩ | hno'
      ·have:=hi.inj q o T' s' U z r' rows mq m hq4 ho hq2 hm hq3
       omega
      ·exact hno' o m hm rfl
     have hcell:∀ i,g1.w.cell? ⟨m.b,i,none⟩=cs[i]?:=fun i=>by rw [hw];simp only [World.cell?,hb];simp
     have hidx:∀ (i:Nat) (row:List D),(((rows.drop r).take k).map fun row=>row.map (frz n0 h n))[i]?=some row→∃ row0,rows[r+i]?=some row0∧row=row0.map (frz n0 h n):=fun i row hi'=>by
      rw [c9a] at hi'
      cases hq:((rows.drop r).take k)[i]? with
      | none=>rw [hq] at hi';cases hi'
      | some row0 =>
       rw [hq] at hi'
       injection hi' with hi'
       rw [List.getElem?_take] at hq
       split at hq
       ·rw [List.getElem?_drop] at hq
        exact ⟨row0,hq,hi'.symm⟩
       ·cases hq
     have hcd:∀ (i:Nat) (row:List D),(((rows.drop r).take k).map fun row=>row.map (frz n0 h n))[i]?=some row→∀ (j:Nat) (d:D),row[j]?=some d→∃ v,cs[(r+i)*z+j]?=some v∧v.oneCell'=true∧Rep g1 v d:=fun i row hi' j d hj=>by
      obtain ⟨row0,h1,rfl⟩:=hidx i row hi'
      rw [c9a] at hj
      cases hq:row0[j]? with
      | none=>rw [hq] at hj;cases hj
      | some d0 =>
       rw [hq] at hj
       injection hj with hj
       subst hj
       obtain ⟨v,h2,h3,h4⟩:=hl.cell _ row0 h1 j d0 hq
       exact ⟨v,h2,h3,ih v d0 h4⟩
     have hgd:∀ {q:Nat} {v:Value},cs[q]?=some v→cs.getD q undef=v:=fun {q v} hq=>by rw [Array.getD_eq_getD_getElem?,hq];rfl
     have hbl:m.b<g1.w.heap.size:=by rw [hw];exact (Array.getElem?_eq_some_iff.1 hb).1
     refine .sl ⟨m.b,r*m.sz,none⟩ k cap sz false _ (by simp;omega) (by omega) hcm (by simp) (by have:=hl.pos;omega) (fun row hrow=>?_) (fun _=>⟨rfl,hbl,hfzb⟩) (fun i j=>cs.getD ((r+i)*z+j) undef) (fun i row hi' j d hj=>?_) (fun i row hi' j d hj=>?_) (fun i row hi' j d hj=>?_)
     ·obtain ⟨row0,h1,rfl⟩:=c9k.1 hrow
      rw [c8T,hl.row row0 (List.mem_of_mem_drop (List.mem_of_mem_take h1))]
      omega
     ·obtain ⟨v,h2,h3,h4⟩:=hcd i row hi' j d hj
      rw [hgd h2,hcell]
      rw [← h2]
      congr 1
      rw [← hmsz,hz,Nat.add_mul]
     ·obtain ⟨v,h2,h3,h4⟩:=hcd i row hi' j d hj
      rw [hgd h2];exact h3
     ·obtain ⟨v,h2,h3,h4⟩:=hcd i row hi' j d hj
      rw [hgd h2];exact h4
    ·exact hv.extW he
   ·exact hv.extW he
  ·rename_i cs
   obtain ⟨vs,rfl,hr,h1⟩:=hv.agg_inv
   refine .mk_agg (.of (by simp [hr.length]) fun j v d hv' hd=>?_) h1
   rw [c9a] at hd
   cases hq:cs[j]? with
   | none=>rw [hq] at hd;cases hd
   | some d0 =>
    rw [hq] at hd
    injection hd with hd
    subst hd
    exact ih v d0 (hr.get j v d0 hv' hq)
  ·rename_i cs
   obtain ⟨vs,rfl,hr⟩:=hv.tup_inv
   refine .mk_tup (.of (by simp [hr.length]) fun j v d hv' hd=>?_)
   rw [c9a] at hd
   cases hq:cs[j]? with
   | none=>rw [hq] at hd;cases hd
   | some d0 =>
    rw [hq] at hd
    injection hd with hd
    subst hd
    exact ih v d0 (hr.get j v d0 hv' hq)
  ·rename_i sz f rows
   cases hv with
   | sl ad nn cap sz full rows hn hnc hcm hfull hsz hrow had vs hc h1 hr =>
    have hidx:∀ (i:Nat) (row:List D),(rows.map fun row=>row.map (frz n0 h n))[i]?=some row→∃ row0,rows[i]?=some row0∧row=row0.map (frz n0 h n):=fun i row hi'=>by
     rw [c9a] at hi'
     cases hq:rows[i]? with
     | none=>rw [hq] at hi';cases hi'
     | some row0 =>
      rw [hq] at hi'
      injection hi' with hi'
      exact ⟨row0,rfl,hi'.symm⟩
    have hcd:∀ (i:Nat) (row:List D),(rows.map fun row=>row.map (frz n0 h n))[i]?=some row→∀ (j:Nat) (d:D),row[j]?=some d→∃ row0 d0,rows[i]?=some row0∧row0[j]?=some d0∧d=frz n0 h n d0:=fun i row hi' j d hj=>by
     obtain ⟨row0,h1,rfl⟩:=hidx i row hi'
     rw [c9a] at hj
     cases hq:row0[j]? with
     | none=>rw [hq] at hj;cases hj
     | some d0 =>
      rw [hq] at hj
      injection hj with hj
      exact ⟨row0,d0,h1,hq,hj.symm⟩
    refine .sl ad nn cap sz f _ (by simpa using hn) hnc hcm hfull hsz (fun row hrw=>?_) (fun hne=>?_) vs (fun i row hi' j d hj=>?_) (fun i row hi' j d hj=>?_) (fun i row hi' j d hj=>?_)
    ·obtain ⟨row0,h1,rfl⟩:=c9k.1 hrw
     rw [c8T];exact hrow row0 h1
    ·have hne':rows≠[]:=fun hh=>hne (by rw [hh];rfl)
     exact ⟨(had hne').1,(he.fz _ (had hne').2).1⟩
    ·obtain ⟨row0,d0,k1,k2,rfl⟩:=hcd i row hi' j d hj
     rw [hw];exact hc i row0 k1 j d0 k2
    ·obtain ⟨row0,d0,k1,k2,rfl⟩:=hcd i row hi' j d hj
     exact h1 i row0 k1 j d0 k2
    ·obtain ⟨row0,d0,k1,k2,rfl⟩:=hcd i row hi' j d hj
     exact ih _ d0 (hr i row0 k1 j d0 k2)
  ·exact hv.extW he
theorem b3R {call:a0Z} (hc:a1I P X call) {f:FuncId} {args:List D} {h h':Hp} {d:D} (hd:a4J call f args h=some (d,h')):∀ g vs,Inv g h→GlOK g X.gl→RepL g vs args→a4G P f vs g h' d:=by
 unfold a4J at hd
 split at hd
 ·rename_i d' h2 hcall
  split at hd
  ·rename_i hs
   injection hd with hd
   injection hd with hd1 hd2
   subst hd1;subst hd2
   intro g vs hi hgl hr
   let g1:Gh:=⟨g.w,g.ms,fun _=>False⟩
   have he:ExtW g g1:=⟨rfl,rfl,rfl,Nat.le_refl _,fun o m hm=>hm,fun b hb=>⟨⟨hb.1,fun hh=>hh⟩,rfl⟩⟩
   have hdead:∀ (o T1 s1:Nat) (r1:List (List D)),(h.map fun _=>Ob.dead)[o]?≠some (.row T1 s1 r1):=fun o T1 s1 r1 hq=>by
    rw [c9a] at hq
    cases hx:h[o]? with
    | none=>rw [hx] at hq;cases hq
    | some x=>rw [hx] at hq;injection hq with hq;cases hq
   have hi1:Inv g1 (h.map fun _ => .dead):=⟨by show g.ms.length=_;simp [hi.len],fun o T1 s1 r1 hq=>absurd hq (hdead o T1 s1 r1),fun o o' T1 s1 T2 s2 r1 r2 m1 m2 h1=>absurd h1 (hdead o T1 s1 r1),fun b hb=>hb.elim,hi.msb⟩
   have hr1:RepL g1 vs (args.map (b4P h 3)) := .of (by simp [hr.length]) fun j v x h1 h2=>by
    rw [c9a] at h2
    cases hq:args[j]? with
    | none=>rw [hq] at h2;cases h2
    | some d0 =>
     rw [hq] at h2
     injection h2 with h2
     subst h2
     exact b7y (g1:=g1) hi rfl rfl (fun _ hh=>hh) 3 v d0 (hr.get j v d0 h1 hq)
   have fin:∀ (v:Value) (w':World),(∃ g2:Gh,g2.w=w'∧Ext g1 g2∧Inv g2 h2∧Rep g2 v d')→∃ g3:Gh,g3.w=w'∧Ext g g3∧Inv g3 h∧Rep g3 v d':=by
    intro v w' ⟨g2,hw2,he2,hi2,hrep⟩
    have hold:∀ b,b<g.w.heap.size→w'.heap[b]?=g.w.heap[b]?:=fun b hb=>by
     rw [← hw2]
     exact (he2.fz b ⟨hb,fun hh=>hh⟩).2
    let g3:Gh:=⟨w',g.ms,g.L⟩
    have he3:Ext g g3 := .of_old ⟨by show w'.os=_;rw [← hw2];exact he2.os,by show w'.tape=_;rw [← hw2];exact he2.tape,by show w'.output=_;rw [← hw2];exact he2.output,by show _≤w'.heap.size;rw [← hw2];exact he2.size,fun _ _ hm=>hm,fun b hb=>⟨⟨by show b<w'.heap.size;rw [← hw2];exact Nat.lt_of_lt_of_le hb.1 he2.size,hb.2⟩,hold b hb.1⟩⟩ rfl rfl hold
    exact ⟨g3,rfl,he3,hi.same he3 rfl rfl hold,b4M hrep hs⟩
   rcases hc _ _ _ _ _ hcall g1 vs hi1 (hgl.extW he) hr1 with ⟨k1,k2⟩ | ⟨v,g2,k1,k2,k3,k4⟩
   ·exact .inl ⟨k1,k2.mono fin⟩
   ·obtain ⟨g3,q1,q2,q3,q4⟩:=fin v g2.w ⟨g2,rfl,k2,k3,k4⟩
    exact .inr ⟨v,g3,by rw [q1];exact k1,q2,q3,q4⟩
  ·cases hd
 ·cases hd
theorem b2K {g:Gh} {h:Hp} (hi:Inv g h):∃ g1:Gh,g1.w=g.w∧Ext g g1∧Inv g1 (h.map fun _ => .dead)∧∀ n v d,Rep g v d→Rep g1 v (frz 0 h n d):=by
 let g1:Gh:=⟨g.w,g.ms,fun b=>g.L b∧∀ (o:Nat) (m:Me),g.ms[o]?=some m→m.b≠b⟩
 have hdead:∀ (o T1 s1:Nat) (r1:List (List D)),(h.map fun _=>Ob.dead)[o]?≠some (.row T1 s1 r1):=fun o T1 s1 r1 hq=>by
  rw [c9a] at hq
  cases hx:h[o]? with
  | none=>rw [hx] at hq;cases hq
  | some x=>rw [hx] at hq;injection hq with hq;cases hq
 refine ⟨g1,rfl,⟨⟨rfl,rfl,rfl,Nat.le_refl _,fun _ _ hm=>hm,fun b hb=>⟨⟨hb.1,fun hh=>hb.2 hh.1⟩,rfl⟩⟩,fun b hb=>⟨⟨hb.1,⟨hb.2.1,hb.2.2⟩,hb.2.2⟩,rfl⟩⟩,
  ⟨by show g.ms.length=_;simp [hi.len],fun o T1 s1 r1 hq=>absurd hq (hdead o T1 s1 r1),fun o o' T1 s1 T2 s2 r1 r2 m1 m2 h1=>absurd h1 (hdead o T1 s1 r1),fun b hb=>hi.L b hb.1,hi.msb⟩,fun n v d hv=>?_⟩
 exact b1V (g1:=g1) hi rfl rfl (fun b hb=>⟨hb.1,.inr hb.2⟩) n v d hv
theorem a8A {n0:Nat} {h:Hp} {o T sz:Nat} {rows:List (List D)} (hq:(a3B n0 h)[o]?=some (.row T sz rows)):o<n0∧h[o]?=some (.row T sz rows):=by
 unfold a3B at hq
 by_cases ho:o<(h.take n0).length
 ·rw [c9l ho,List.getElem?_take] at hq
  split at hq
  ·rename_i h1;exact ⟨h1,hq⟩
  ·cases hq
 ·rw [List.getElem?_append_right (by omega),c9a] at hq
  cases hx:(h.drop n0)[o - (h.take n0).length]? with
  | none=>rw [hx] at hq;cases hq
  | some x=>rw [hx] at hq;injection hq with hq;cases hq
theorem b5H {g:Gh} {h:Hp} (hi:Inv g h) (n0:Nat):∃ g1:Gh,g1.w=g.w∧Ext g g1∧Inv g1 (a3B n0 h)∧∀ n v d,Rep g v d→Rep g1 v (frz n0 h n d):=by
 let g1:Gh:=⟨g.w,g.ms,fun b=>g.L b∧((∃ (o:Nat) (m:Me),o<n0∧g.ms[o]?=some m∧m.b=b∧∃ T sz rows,h[o]?=some (.row T sz rows))∨∀ (o:Nat) (m:Me),g.ms[o]?=some m→m.b≠b)⟩
 have hlen:(a3B n0 h).length=h.length:=by simp [a3B];omega
 have hE:Ext g g1:=⟨⟨rfl,rfl,rfl,Nat.le_refl _,fun _ _ hm=>hm,fun b hb=>⟨⟨hb.1,fun hh=>hb.2 hh.1⟩,rfl⟩⟩,fun b hb=>⟨⟨hb.1,⟨hb.2.1,.inr hb.2.2⟩,hb.2.2⟩,rfl⟩⟩
 refine ⟨g1,rfl,hE,
  ⟨by show g.ms.length=_;rw [hlen];exact hi.len,fun o T1 s1 r1 hq=>?_,fun o o' T1 s1 T2 s2 r1 r2 m1 m2 h1 h2=>hi.inj o o' T1 s1 T2 s2 r1 r2 m1 m2 (a8A h1).2 (a8A h2).2,fun b hb=>hi.L b hb.1,hi.msb⟩,fun n v d hv=>?_⟩
 ·obtain ⟨ho,hq⟩:=a8A hq
  obtain ⟨m,cs,hm,hl⟩:=hi.live o T1 s1 r1 hq
  refine ⟨m,cs,hm,hl.blk,hl.hsz,hl.pos,⟨hl.hL,.inl ⟨o,m,ho,hm,rfl,_,_,_,hq⟩⟩,hl.len,hl.le,hl.room,hl.row,fun i row h2 j d h3=>?_⟩
  obtain ⟨v,h4,h5,h6⟩:=hl.cell i row h2 j d h3
  exact ⟨v,h4,h5,h6.ext hE⟩
 ·exact b1V (g1:=g1) hi rfl rfl (fun b hb=>hb) n v d hv
theorem a9Y {g g1:Gh} {h:Hp} (hz:∀ n v d,Rep g v d→Rep g1 v (frz 0 h n d)) {vs:List Value} {ds:List D} (hr:RepL g vs ds):RepL g1 vs (ds.map (frz 0 h 3)):=by
 induction hr with
 | nil=>exact .nil
 | cons h1 _ ih=>exact .cons (hz 3 _ _ h1) ih
theorem b3T {call:a0Z} (hc:a1I P X call) {f:FuncId} {args:List D} {h h':Hp} {d:D} (hd:b9m call f args h=some (d,h')):∀ g vs,Inv g h→GlOK g X.gl→RepL g vs args→a4G P f vs g h' d:=by
 intro g vs hi hgl hr
 obtain ⟨g1,hw,he,hi1,hz⟩:=b2K hi
 have:=hc _ _ _ _ _ hd g1 vs hi1 (hgl.ext he) (a9Y hz hr)
 unfold a4G at this ⊢
 rw [hw] at this
 rcases this with ⟨k1,k2⟩ | ⟨v,g',k1,k2,k3,k4⟩
 ·exact .inl ⟨k1,k2.mono fun v w' ⟨g',q1,q2,q3,q4⟩=>⟨g',q1,he.trans q2,q3,q4⟩⟩
 ·exact .inr ⟨v,g',k1,he.trans k2,k3,k4⟩
theorem b3V {call:a0Z} (hc:a1I P X call) {md:Nat} {f:FuncId} {args:List D} {h h':Hp} {d:D} (hd:calls md call f args h=some (d,h')):∀ g vs,Inv g h→GlOK g X.gl→RepL g vs args→a4G P f vs g h' d:=by
 unfold calls at hd
 split at hd
 ·exact hc _ _ _ _ _ hd
 ·exact b3R hc hd
 ·exact b3T hc hd
theorem b7P (hT:TabOK P X.T) {g:Gh} {h h':Hp} (hi:Inv g h) {ρ:Operand→Value} {md:Nat} (o:Oper) {ds:List D} {d:D} (hr:RepL g (o.op.operands.toList.map ρ) ds) (hp:b7O md X.T h o.op ds=some (d,h')):a5o P ρ o g h' d:=by
 unfold b7O at hp
 split at hp
 ·obtain ⟨g1,hw,he,hi1,hz⟩:=b2K hi
  obtain ⟨nx,w',g',hrun,hw',he',hi',hv⟩:=a3p hT hi1 o (a9Y hz hr) hp
  rw [hw] at hrun
  exact ⟨nx,w',g',hrun,hw',he.trans he',hi',hv⟩
 ·cases hq:a3i X.T h o.op ds with
  | none=>rw [hq] at hp;cases hp
  | some q =>
   rw [hq] at hp
   obtain ⟨d1,h1⟩:=q
   simp only [Option.bind_some,Option.some.injEq] at hp
   obtain ⟨nx,w',g',hrun,hw',he',hi',hv⟩:=a3p hT hi o hr hq
   unfold c5p at hp
   split at hp
   ·rename_i z ob r1 n1 hd1
    simp only [Prod.mk.injEq] at hp
    obtain ⟨rfl,rfl⟩:=hp
    obtain ⟨g1,hw,he,hi1,hz⟩:=b5H hi' ob
    refine ⟨nx,w',g1,hrun,by rw [hw];exact hw',he'.trans he,hi1,?_⟩
    rcases hv with ⟨v,k1,k2⟩ | ⟨k1,hu⟩
    ·exact .inl ⟨v,k1,hz 3 _ _ k2⟩
    ·simp only at hd1
     rw [hd1] at hu;cases hu
   ·simp only [Prod.mk.injEq] at hp
    obtain ⟨rfl,rfl⟩:=hp
    exact ⟨nx,w',g',hrun,hw',he',hi',hv⟩
 ·rename_i n0
  cases hq:a3i X.T h o.op ds with
  | none=>rw [hq] at hp;cases hp
  | some q =>
   rw [hq] at hp
   obtain ⟨d1,h1⟩:=q
   simp only [Option.bind_some,Option.some.injEq] at hp
   obtain ⟨nx,w',g',hrun,hw',he',hi',hv⟩:=a3p hT hi o hr hq
   unfold c5o at hp
   split at hp
   ·rename_i z ob r1 n1 hd1
    simp only [Prod.mk.injEq] at hp
    obtain ⟨rfl,rfl⟩:=hp
    obtain ⟨g1,hw,he,hi1,hz⟩:=b5H hi' n0
    refine ⟨nx,w',g1,hrun,by rw [hw];exact hw',he'.trans he,hi1,?_⟩
    simp only at hd1
    subst hd1
    rcases hv with ⟨v,k1,k2⟩ | ⟨k1,hu⟩
    ·exact .inl ⟨v,k1,hz 3 _ _ k2⟩
    ·cases hu
   ·simp only [Prod.mk.injEq] at hp
    obtain ⟨rfl,rfl⟩:=hp
    exact ⟨nx,w',g',hrun,hw',he',hi',hv⟩
 ·exact a3p hT hi o hr hp
theorem b7k (hT:TabOK P X.T) {t:Nat} {m:String} {f:FuncId} (hm:b2C X.T t m=some f) {v:Value} {w:World}:(method (P.types.size+Made.depth) t v m).run P w = .ok (f,v) w:=by
 obtain ⟨inf,mr,e,h1,hf,q2,q3,hu⟩:=a9S hT hm
 obtain ⟨k,hk⟩:=a7Q P
 simp only [Sem.run_bind,run_program,Result.andThen_ok,hk,method,typeInfo,h1,Option.map_some,hf,q2,follow,Sem.run_pure,q3,receiverAt,run_underlying hu,Place.get]
theorem a3E {o:Oper} {y:Nat→Option Bool} (h:o.guard=none):Region.wanted o y=true:=by simp [Region.wanted,h]
theorem a8f {ops:Array Oper} {tmps:Array Value} {j t:Nat} {c:Bool} (hj:(ops[j]?).bind (·.dst)=some t) (h:tmps.getD t undef = .bool c):yielded ops tmps j=some c:=by
 simp only [yielded,hj,Option.bind_some]
 rw [Array.getD_eq_getD_getElem?] at h
 cases hx:tmps[t]? with
 | none=>rw [hx] at h;cases h
 | some u=>rw [hx] at h;simp at h;subst h;rfl
theorem a8K {ops:Array Oper} {tmps:Array Value} {j t:Nat} (hj:(ops[j]?).bind (·.dst)=some t) (h:tmps.getD t undef=undef):yielded ops tmps j=none:=by
 simp only [yielded,hj,Option.bind_some]
 rw [Array.getD_eq_getD_getElem?] at h
 cases hx:tmps[t]? with
 | none=>rfl
 | some u=>rw [hx] at h;simp at h;subst h;rfl
def b9e (P:Program) (ops:Array Oper) (Q:Exit→Act→World→Prop) (o:Oper) (a:Act) (g:Gh) (next:Act→World→Prop):Prop :=
 (Region.wanted o (yielded ops a.tmps)=true∧o.wp P a g.w next Q)∨(Region.wanted o (yielded ops a.tmps)=false∧next (a.put o.dst undef) g.w)
def Zb (g:Gh) (b:Nat) (E:TypeId) (i:TI):Prop:=∃ cs:Array Value,g.w.heap[b]?=some (.cells cs E (0,0))∧cs.size=i.sz∧∀ (j:Nat) (d:D),i.zero[j]?=some d→∃ v,cs[j]?=some v∧v.oneCell'=true∧∀ g,Rep g v d
def Pend (T:Tab) (g0 g':Gh) (o:Oper) (v:Value):Prop:=∃ E i b,o.op = .alloc E∧T E=some i∧0<i.sz∧v = .pointer (some ⟨b,0,none⟩)∧g0.w.heap.size≤b∧g'.lim b∧Zb g' b E i
theorem Pend.ext {T:Tab} {g0 g g':Gh} {o:Oper} {v:Value} (h:Pend T g0 g o v) (he:Ext g g'):Pend T g0 g' o v:=by
 obtain ⟨E,i,b,h1,h2,h3,h4,h5,h6,cs,h7,h8,h9⟩:=h
 exact ⟨E,i,b,h1,h2,h3,h4,h5,(he.lim b h6).1,cs,(he.lim b h6).2.trans h7,h8,h9⟩
theorem Pend.old {T:Tab} {g0 g g':Gh} {o:Oper} {v:Value} (h:Pend T g g' o v) (hs:g0.w.heap.size≤g.w.heap.size):Pend T g0 g' o v:=by
 obtain ⟨E,i,b,h1,h2,h3,h4,h5,h6⟩:=h
 exact ⟨E,i,b,h1,h2,h3,h4,Nat.le_trans hs h5,h6⟩
theorem b4B (hT:TabOK P X.T) {g:Gh} {h:Hp} (hi:Inv g h) {o:Oper} {d:D} (hl:b2q X.T o.op=some d) (ρ:Operand→Value):d = .any∧∃ v w' g',(execOp ρ o).run P g.w = .ok (.value v) w'∧g'.w=w'∧Ext g g'∧Inv g' h∧Pend X.T g g' o v:=by
 unfold b2q at hl
 split at hl
 case h_2=>cases hl
 rename_i E hop
 split at hl
 case h_2=>cases hl
 rename_i i hE
 split at hl
 case h_2=>cases hl
 rename_i hb
 injection hl with hl
 have hpos:0<i.sz:=Nat.le_of_ble_eq_true hb
 obtain ⟨z,hz,hzz,hzs,h1⟩:=hT.zrun hE
 obtain ⟨dst,op,ty,pos,af,gd⟩:=o
 simp only at hop
 subst hop
 let g':Gh:=⟨g.w.alloc (.cells z.cells E),g.ms,fun b=>g.L b∨b=g.w.heap.size⟩
 have hsz:g'.w.heap.size=g.w.heap.size+1:=a5a g.w _
 have hold:∀ b,b<g.w.heap.size→g'.w.heap[b]?=g.w.heap[b]?:=fun b hb=>a2G _ _ hb
 have heW:ExtW g g':=⟨rfl,rfl,rfl,by rw [hsz];omega,fun _ _ hm=>hm,fun b hb=>⟨⟨by rw [hsz];have:=hb.1;omega,fun hh=>by
  rcases hh with hh | hh
  ·exact hb.2 hh
  ·have:=hb.1;omega⟩,hold b hb.1⟩⟩
 have he:Ext g g':=⟨heW,fun b hb=>⟨⟨by rw [hsz];have:=hb.1;omega,.inl hb.2.1,hb.2.2⟩,hold b hb.1⟩⟩
 have hmlt:∀ (q:Nat) (T1 s1:Nat) (r1:List (List D)) (m:Me) (cs:Array Value),Live g m T1 s1 r1 cs→m.b<g.w.heap.size:=fun q T1 s1 r1 m cs hl=>hi.Llt hl.hL
 refine ⟨hl.symm,_,_,g',by simp only [execOp,Instr.alloc,Sem.run_bind,hz g.w,Result.andThen_ok,newVar,newRow,run_newObj,Sem.run_pure];rfl,rfl,he,⟨hi.len,fun q T1 s1 r1 hq=>?_,hi.inj,fun b hb=>?_,fun q mq hq=>by rw [hsz];have:=hi.msb q mq hq;omega⟩,?_⟩
 ·obtain ⟨m,cs,hm,hl⟩:=hi.live q T1 s1 r1 hq
  refine ⟨m,cs,hm,?_,hl.hsz,hl.pos,.inl hl.hL,hl.len,hl.le,hl.room,hl.row,fun i row h2 j d h3=>?_⟩
  ·rw [hold m.b (hi.Llt hl.hL)];exact hl.blk
  ·obtain ⟨v,h4,h5,h6⟩:=hl.cell i row h2 j d h3
   exact ⟨v,h4,h5,h6.ext he⟩
 ·rw [hsz]
  rcases hb with hb | hb
  ·have:=hi.L b hb;omega
  ·omega
 ·refine ⟨E,i,g.w.heap.size,rfl,hE,hpos,rfl,Nat.le_refl _,⟨by rw [hsz];omega,.inr rfl,fun q mq hq=>by have:=hi.msb q mq hq;omega⟩,z.cells,a6J g.w _,hzs,fun j d hj=>?_⟩
  rw [hzz,c9a] at hj
  cases hq:z.cells.toList[j]? with
  | none=>rw [hq] at hj;cases hj
  | some v =>
   rw [hq] at hj
   injection hj with hj
   refine ⟨v,by simpa using hq,h1 v (c9b hq),fun g''=>?_⟩
   exact (a1x g'' z.cells.toList).get j v d hq (by rw [c9a,hq,← hj];rfl)
theorem a9W (hT:TabOK P X.T) {call:a0Z} (hc:a1I P X call) {fz bor:List Nat} {l:List Oper} {o:Oper} {e:DE} {h h':Hp} {d:D} (hd:opR X call fz bor l o e h=some (d,h')) {g:Gh} {a:Act} (hi:Inv g h) (hgl:GlOK g X.gl)
  (hs:∀ t d,t∈looks l o→lkD e t=some d→Rep g (a.tmps.getD t undef) d) {Q:Exit→Act→World→Prop} {next:Act→World→Prop}
  (hn:∀ g' v,Ext g g'→Inv g' h'→Rep g' v d→(a0W X.T fz o = .limbo→Pend X.T g g' o v)→next (a.put o.dst v) g'.w):b9e P l.toArray Q o a g next:=by
 unfold opR at hd
 split at hd
 ·cases hd
 rename_i ds hds
 have hvs:RepL g (o.op.operands.toList.map a.eval) ds:=b1w hgl (fun t d ht hd=>hs t d (List.mem_append_left _ (List.mem_filterMap.2 ⟨.tmp t,ht,rfl⟩)) hd) hds
 -- the operation itself
 have doP:a0W X.T fz o ≠ .limbo→a2E X.T o.op ds=some d→h'=h→o.wp P a g.w next Q:=fun hk hp hh=>by
  subst hh
  obtain ⟨v,w',g',hrun,hw,he,hm,hL,hold,hrep⟩:=a7V hT (fun b hb=>hi.Llt hb) o hvs hp
  unfold Oper.wp
  rw [hrun,Oper.upon_value]
  rw [← hw]
  exact hn g' v he (hi.same he hm hL hold) hrep (fun h=>absurd h hk)
 have doR:a0W X.T fz o ≠ .limbo→a2Z X.T h o.op ds=some d→h'=h→o.wp P a g.w next Q:=fun hk hp hh=>by
  subst hh
  obtain ⟨v,hrun,hrep⟩:=b2P hT hi o hvs hp
  unfold Oper.wp
  rw [hrun,Oper.upon_value]
  exact hn g v (Ext.refl g) hi hrep (fun h=>absurd h hk)
 have doW:a0W X.T fz o ≠ .limbo→b7O (a3x o.dst bor) X.T h o.op ds=some (d,h')→o.wp P a g.w next Q:=fun hk hp=>by
  obtain ⟨nx,w',g',hrun,hw,he,hi',hv⟩:=b7P hT hi o hvs hp
  unfold Oper.wp
  rw [hrun]
  rcases hv with ⟨v,rfl,hrep⟩ | ⟨rfl,rfl⟩
  ·rw [Oper.upon_value,← hw]
   exact hn g' v he hi' hrep (fun h=>absurd h hk)
  ·rw [Oper.upon_skip,← hw]
   exact hn g' undef he hi' .und (fun h=>absurd h hk)
 have callGo:a0W X.T fz o ≠ .limbo→∀ (f:FuncId) (vs:List Value),(execOp a.eval o).run P g.w=(callFunc f vs.toArray).run P g.w→a4G P f vs g h' d→o.wp P a g.w next Q:=fun hk f vs hrun hcall=>by
  unfold Oper.wp
  rcases hcall with ⟨k1,k2⟩ | ⟨v,g',k1,he,hi',hrep⟩
  ·rw [hrun,k1,Oper.upon_enter]
   refine Calls.mono k2 ?_
   rintro _ w' ⟨v,rfl,g',hw,he,hi',hrep⟩
   show next (a.put o.dst v) w'
   rw [← hw]
   exact hn g' v he hi' hrep (fun h=>absurd h hk)
  ·rw [hrun,k1,Oper.upon_value]
   exact hn g' v he hi' hrep (fun h=>absurd h hk)
 have doC:a0W X.T fz o ≠ .limbo→a2t X.T call (a3x o.dst bor) o.op ds h=some (d,h')→o.wp P a g.w next Q:=fun hk hp=>by
  obtain ⟨dst,op,ty,pos,af,gd⟩:=o
  unfold a2t at hp
  rw [b6K] at hp
  split at hp
  case h_2=>cases hp
  rename_i c hop
  subst hop
  obtain ⟨callee,args,ts⟩:=c
  split at hp
  case h_3=>cases hp
  ·rename_i fo hcal
   split at hp
   case h_2=>cases hp
   rename_i f first caps as
   simp only at hcal
   subst hcal
   have hvs':RepL g (a.eval fo::args.toList.map a.eval) (.fn (.func f) first caps::as):=by simpa [Op.operands,Call.operands] using hvs
   cases hvs' with
   | cons hf ha =>
    generalize hv:a.eval fo=vf at hf
    cases hf with
    | fn f' first caps vf vc h1 h2 rf rc =>
     have hrl:RepL g (vf++args.toList.map a.eval++vc) (first++as++caps):=((RepL.of h1 rf).append ha).append (.of h2 rc)
     refine callGo hk f _ ?_ (b3V hc hp g _ hi hgl hrl)
     have har:vf.toArray++(Array.map a.eval args++vc.toArray)=(vf++args.toList.map a.eval++vc).toArray:=by simp
     simp only [execOp,resolve,invoke,hv,Deferred.ofValue,Sem.run_bind,Sem.run_pure,Result.andThen_ok,Array.append_assoc]
     rw [har]
  ·rename_i recv m hcal
   simp only at hcal
   subst hcal
   unfold a7m at hp
   split at hp
   case h_2=>cases hp
   rename_i t x as
   split at hp
   case h_2=>cases hp
   rename_i f hm
   have hvs':RepL g (a.eval recv::args.toList.map a.eval) (.iface t x::as):=by simpa [Op.operands,Call.operands] using hvs
   cases hvs' with
   | cons hf ha =>
    generalize hv:a.eval recv=vf at hf
    cases hf with
    | iface t v x hx =>
     refine callGo hk f (v::args.toList.map a.eval) ?_ (hc _ _ _ _ _ hp g _ hi hgl (.cons hx ha))
     have har : #[v]++Array.map a.eval args=(v::args.toList.map a.eval).toArray:=by simp
     have hmr:=b7k hT hm (v:=v) (w:=g.w)
     simp only [execOp,resolve,invoke,hv,Sem.run_bind,Sem.run_pure,Result.andThen_ok]
     simp only [Array.getElem?_append,List.size_toArray,List.length_singleton,Nat.lt_one_iff,if_true,Nat.zero_lt_one,List.getElem?_toArray,c8Q,callMethod,Sem.run_bind]
     have hex:(#[Value.iface t v]++Array.map a.eval args).extract 1 (#[Value.iface t v]++Array.map a.eval args).size=Array.map a.eval args:=by
      apply Array.ext'
      simp
      exact List.take_of_length_le (by simp)
     simp only [run_program,Result.andThen_ok,hmr,hex,har]
 have skip:a0W X.T fz o ≠ .limbo→d = .und→h'=h→next (a.put o.dst undef) g.w:=fun hk h1 h2=>by
  subst h1;subst h2
  exact hn g undef (Ext.refl g) hi .und (fun h=>absurd h hk)
 split at hd
 ·rename_i hg
  refine .inl ⟨a3E hg,?_⟩
  split at hd
  ·rename_i hkk
   cases hp:a2E X.T o.op ds with
   | none=>rw [hp] at hd;cases hd
   | some d' =>
    rw [hp] at hd
    injection hd with hd
    injection hd with h1 h2
    subst h1
    exact doP (by rw [hkk];intro h;cases h) hp h2.symm
  ·rename_i hkk
   cases hp:a2Z X.T h o.op ds with
   | none=>rw [hp] at hd;cases hd
   | some d' =>
    rw [hp] at hd
    injection hd with hd
    injection hd with h1 h2
    subst h1
    exact doR (by rw [hkk];intro h;cases h) hp h2.symm
  ·rename_i hkk;exact doW (by rw [hkk];intro h;cases h) hd
  ·rename_i hkk;exact doC (by rw [hkk];intro h;cases h) hd
  ·cases hp:b2q X.T o.op with
   | none=>rw [hp] at hd;cases hd
   | some d' =>
    rw [hp] at hd
    injection hd with hd
    injection hd with h1 h2
    subst h1
    obtain ⟨rfl,v,w',g',hrun,hw,he,hi',hpd⟩:=b4B hT hi hp a.eval
    unfold Oper.wp
    rw [hrun,Oper.upon_value,← hw]
    subst h2
    exact hn g' v he hi' (.any v) (fun _=>hpd)
 ·rename_i j b hg
  split at hd
  ·cases hd
  rename_i t ht
  split at hd
  ·cases hd
  rename_i dg hdg
  have htl:t∈looks l o:=by
   unfold looks
   rw [hg]
   exact List.mem_append_right _ (by simp [ht])
  have hrg:=hs t dg htl hdg
  have htA:(l.toArray[j]?).bind (·.dst)=some t:=by simpa using ht
  -- the guard
  have cases3:∀ {x:Option (D × Hp)},gdW dg b h x=some (d,h')→(Region.wanted o (yielded l.toArray a.tmps)=true∧x=some (d,h'))∨(Region.wanted o (yielded l.toArray a.tmps)=false∧d = .und∧h'=h):=fun {x} hx=>by
   unfold gdW at hx
   split at hx
   ·rename_i c
    have hb:a.tmps.getD t undef = .bool c:=by
     generalize hv:a.tmps.getD t undef=v at hrg
     cases hrg;rfl
    have hy:=a8f htA hb
    split at hx
    ·rename_i hcb
     exact .inl ⟨by simpa [Region.wanted,hg,hy] using hcb,hx⟩
    ·rename_i hcb
     injection hx with hx
     injection hx with h1 h2
     exact .inr ⟨by simpa [Region.wanted,hg,hy] using hcb,h1.symm,h2.symm⟩
   ·have hb:a.tmps.getD t undef=undef:=by
      generalize hv:a.tmps.getD t undef=v at hrg
      cases hrg;rfl
    have hy:=a8K htA hb
    injection hx with hx
    injection hx with h1 h2
    exact .inr ⟨by simp [Region.wanted,hg,hy],h1.symm,h2.symm⟩
   ·cases hx
  have conv:∀ {x:Option D},((gd dg b x).bind fun d=>some (d,h))=gdW dg b h (x.bind fun d=>some (d,h)):=fun {x}=>by
   unfold gd gdW
   split
   ·split <;> rfl
   ·rfl
   ·rfl
  split at hd
  ·rename_i hkk
   have hk:a0W X.T fz o ≠ .limbo:=by rw [hkk];intro h;cases h
   rw [conv] at hd
   rcases cases3 hd with ⟨hw,hx⟩ | ⟨hw,h1,h2⟩
   ·cases hp:a2E X.T o.op ds with
    | none=>rw [hp] at hx;cases hx
    | some d' =>
     rw [hp] at hx
     injection hx with hx
     injection hx with h1 h2
     subst h1
     exact .inl ⟨hw,doP hk hp h2.symm⟩
   ·exact .inr ⟨hw,skip hk h1 h2⟩
  ·rename_i hkk
   have hk:a0W X.T fz o ≠ .limbo:=by rw [hkk];intro h;cases h
   rw [conv] at hd
   rcases cases3 hd with ⟨hw,hx⟩ | ⟨hw,h1,h2⟩
   ·cases hp:a2Z X.T h o.op ds with
    | none=>rw [hp] at hx;cases hx
    | some d' =>
     rw [hp] at hx
     injection hx with hx
     injection hx with h1 h2
     subst h1
     exact .inl ⟨hw,doR hk hp h2.symm⟩
   ·exact .inr ⟨hw,skip hk h1 h2⟩
  ·rename_i hkk
   have hk:a0W X.T fz o ≠ .limbo:=by rw [hkk];intro h;cases h
   rcases cases3 hd with ⟨hw,hx⟩ | ⟨hw,h1,h2⟩
   ·exact .inl ⟨hw,doW hk hx⟩
   ·exact .inr ⟨hw,skip hk h1 h2⟩
  ·rename_i hkk
   have hk:a0W X.T fz o ≠ .limbo:=by rw [hkk];intro h;cases h
   rcases cases3 hd with ⟨hw,hx⟩ | ⟨hw,h1,h2⟩
   ·exact .inl ⟨hw,doC hk hx⟩
   ·exact .inr ⟨hw,skip hk h1 h2⟩
  ·cases hd
end
end Go.Pi

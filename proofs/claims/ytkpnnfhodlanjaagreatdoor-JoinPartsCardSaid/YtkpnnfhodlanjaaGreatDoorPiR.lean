/- A statement whose order is open does what its operations do one after the other. No program is named here. -/
import Derived.Test.YtkpnnfhodlanjaaGreatDoorPiQ
set_option linter.unusedSimpArgs false
set_option linter.unusedVariables false
set_option linter.unnecessarySimpa false
namespace Go.Pi
open Go.Eng
theorem a2O (p:Nat→Bool):∀ (m i:Nat),i<m→p i=true→((List.range m).filter p)[((List.range i).filter p).length]?=some i
 | 0,i,h,_=>by omega
 | m+1,i,h,hp=>by
  rw [List.range_succ,List.filter_append]
  rcases Nat.lt_or_ge i m with hlt | hge
  ·have:=a2O p m i hlt hp
   rw [c9l (c9d.1 this).1];exact this
  ·have:i=m:=by omega
   subst this
   rw [List.getElem?_append_right (Nat.le_refl _),Nat.sub_self]
   simp [hp]
theorem a1U (p:Nat→Bool):∀ (m i:Nat),i≤m→(((List.range m).filter p).filter fun w=>Nat.blt w i).length=((List.range i).filter p).length
 | 0,i,h=>by
  have:i=0:=by omega
  subst this;rfl
 | m+1,i,h=>by
  rw [List.range_succ,List.filter_append,List.filter_append,c8S]
  rcases Nat.lt_or_ge m i with hlt | hge
  ·have:i=m+1:=by omega
   subst this
   rw [List.range_succ,List.filter_append,c8S]
   have h1:∀ (q:Nat),q≤m+1→((List.range q).filter p).filter (fun w=>Nat.blt w (m+1))=(List.range q).filter p:=fun q hq=>by
    rw [List.filter_eq_self]
    intro w hw
    have:=(List.mem_filter.1 hw).1
    simp at this
    exact Nat.ble_eq_true_of_le (by omega)
   rw [h1 m (by omega)]
   congr 1
   by_cases hpm:p m=true
   ·simp [hpm,Nat.blt]
   ·simp [hpm]
  ·rw [a1U p m i hge]
   have:(([m].filter p).filter fun w=>Nat.blt w i)=[]:=by
    rw [List.filter_eq_nil_iff]
    intro w hw
    have:=(List.mem_filter.1 hw).1
    simp at this
    subst this
    intro hh
    have:=Nat.le_of_ble_eq_true hh
    omega
   rw [this];rfl
theorem a3M {p q:Nat→Bool} (l:List Nat) (h:∀ x∈l,p x=true→q x=true):(l.filter p).length≤(l.filter q).length:=by
 induction l with
 | nil=>simp
 | cons x r ih =>
  have:=ih fun y hy=>h y (List.mem_cons_of_mem _ hy)
  rw [List.filter_cons,List.filter_cons]
  by_cases hp:p x=true
  ·have hq:=h x (List.mem_cons_self ..) hp
   rw [if_pos hp,if_pos hq];simpa using this
  ·rw [if_neg hp]
   split
   ·simp;omega
   ·exact this
section
variable {P:Program} {X:Cx} {R:Type}
theorem a7p {l:List Oper} {e:DE} {hs:List Hp}:∀ {ps:List (Nat × Nat)} {x:Option R} {r:R},b1c X l e hs ps x=some r→(∀ q∈ps,∃ o,l[q.1]?=some o∧a3H X l o e (hs.getD q.2 []))∧x=some r
 | [],x,r,h=>⟨by simp,h⟩
 | (i, k)::ps,x,r,h=>by
  simp only [b1c] at h
  split at h
  ·rename_i o ho
   unfold chk at h
   split at h
   ·rename_i hc
    obtain ⟨h1,h2⟩:=a7p h
    refine ⟨fun q hq=>?_,h2⟩
    rcases c9i.1 hq with rfl | hq
    ·exact ⟨o,ho,hc⟩
    ·exact h1 q hq
   ·cases h
  ·cases h
theorem a7S {call:a0Z} {fz bor:List Nat} {l:List Oper} {o:Oper} {e:DE} {h h':Hp} {d:D} (hk:isW X.T fz o=false) (hr:opR X call fz bor l o e h=some (d,h')):h'=h:=by
 unfold opR at hr
 unfold isW at hk
 split at hr
 ·cases hr
 have fin:∀ {x:Option D},(x.bind fun d=>some (d,h))=some (d,h')→h'=h:=fun {x} hx=>by
  obtain ⟨y,_,hy⟩:=c9n.1 hx
  injection hy with hy
  injection hy with _ hy
  exact hy.symm
 split at hr
 ·split at hr
  ·exact fin hr
  ·exact fin hr
  ·rename_i hkk;rw [hkk] at hk;cases hk
  ·rename_i hkk;rw [hkk] at hk;cases hk
  ·exact fin hr
 ·split at hr
  ·cases hr
  split at hr
  ·cases hr
  split at hr
  ·exact fin hr
  ·exact fin hr
  ·rename_i hkk;rw [hkk] at hk;cases hk
  ·rename_i hkk;rw [hkk] at hk;cases hk
  ·cases hr
theorem a5A {e e':DE}:∀ {xs:List Operand},(∀ t,.tmp t∈xs→lkD e t=lkD e' t)→b0x X e xs=b0x X e' xs
 | [],_=>rfl
 | x::r,h=>by
  have hx:evD X e x=evD X e' x:=by
   cases x with
   | tmp t=>exact h t (List.mem_cons_self ..)
   | const v=>rfl
   | global i=>rfl
   | func f=>rfl
  simp only [b0x,hx,a5A fun t ht=>h t (List.mem_cons_of_mem _ ht)]
theorem b2G {call:a0Z} {fz bor:List Nat} {l:List Oper} {o:Oper} {e e':DE} {h:Hp} (hl:∀ t,t∈looks l o→lkD e t=lkD e' t):opR X call fz bor l o e h=opR X call fz bor l o e' h:=by
 unfold opR
 rw [a5A fun t ht=>hl t (List.mem_append_left _ (List.mem_filterMap.2 ⟨.tmp t,ht,rfl⟩))]
 cases b0x X e' o.op.operands.toList with
 | none=>rfl
 | some ds =>
  simp only []
  cases hg:o.guard with
  | none=>rfl
  | some q =>
   obtain ⟨j,b⟩:=q
   simp only []
   cases ht:(l[j]?).bind (·.dst) with
   | none=>rfl
   | some t =>
    simp only []
    rw [hl t (by unfold looks;rw [hg];exact List.mem_append_right _ (by simp [ht]))]
theorem a9V {call:a0Z} {fz bor:List Nat} {l:List Oper} {o:Oper} {e:DE} {h h' h2:Hp} {d:D} (hk:isW X.T fz o=false) (hr:opR X call fz bor l o e h=some (d,h')) (ha:isR X.T fz o=true→a3H X l o e h2∧∀ t,o.dst=some t→lkD e t=some d):opR X call fz bor l o e h2=some (d,h2):=by
 unfold opR at hr ⊢
 have fin:∀ {x:Option D},(x.bind fun d=>some (d,h))=some (d,h')→(x.bind fun d=>some (d,h2))=some (d,h2):=fun {x} hx=>by
  obtain ⟨y,hy0,hy⟩:=c9n.1 hx
  injection hy with hy
  injection hy with hy _
  subst hy
  rw [hy0];rfl
 have dstR:isR X.T fz o=true→∃ t,o.dst=some t:=fun hr'=>by
  have:=(ha hr').1
  unfold a3H at this
  split at this
  ·rename_i t _ ht;exact ⟨t,ht⟩
  ·exact this.elim
 cases hds:b0x X e o.op.operands.toList with
 | none=>rw [hds] at hr;cases hr
 | some ds =>
  rw [hds] at hr
  simp only [] at hr ⊢
  cases hg:o.guard with
  | none =>
   rw [hg] at hr
   simp only [] at hr ⊢
   cases hkk:a0W X.T fz o with
   | pure=>rw [hkk] at hr;exact fin hr
   | read =>
    have hR:isR X.T fz o=true:=by unfold isR;rw [hkk]
    obtain ⟨t,ht⟩:=dstR hR
    obtain ⟨h1,h3⟩:=ha hR
    unfold a3H at h1
    rw [hds,ht,hg] at h1
    simp only [] at h1 ⊢
    rw [h1,h3 t ht];rfl
   | write=>unfold isW at hk;rw [hkk] at hk;cases hk
   | call=>unfold isW at hk;rw [hkk] at hk;cases hk
   | limbo=>rw [hkk] at hr;exact fin hr
  | some q =>
   obtain ⟨j,b⟩:=q
   rw [hg] at hr
   simp only [] at hr ⊢
   cases hj:(l[j]?).bind (·.dst) with
   | none=>rw [hj] at hr;cases hr
   | some u =>
    rw [hj] at hr
    simp only [] at hr ⊢
    cases hu:lkD e u with
    | none=>rw [hu] at hr;cases hr
    | some g =>
     rw [hu] at hr
     simp only [] at hr ⊢
     cases hkk:a0W X.T fz o with
     | pure=>rw [hkk] at hr;exact fin hr
     | read =>
      have hR:isR X.T fz o=true:=by unfold isR;rw [hkk]
      obtain ⟨t,ht⟩:=dstR hR
      obtain ⟨h1,h3⟩:=ha hR
      unfold a3H at h1
      rw [hds,ht,hg] at h1
      simp only [hj,hu] at h1 ⊢
      rw [h1,h3 t ht];rfl
     | write=>unfold isW at hk;rw [hkk] at hk;cases hk
     | call=>unfold isW at hk;rw [hkk] at hk;cases hk
     | limbo=>rw [hkk] at hr;cases hr
structure Tr (X:Cx) (call:a0Z) (nt:Nat) (fz bor:List Nat) (l:List Oper) (m:Nat) (e:DE) (h:Hp) (en:Nat→DE) (hp:Nat→Hp) (va:Nat→D) (HK:Nat→Hp):Prop where
 e0:en 0=e
 mM:m≤a0X l
 Ml:a0X l≤l.length
 reg:b5J nt l=true
 tail:b7B (a0X l) l=true
 step:∀ (i:Nat) (o:Oper),i<m→l[i]?=some o→opR X call fz bor l o (en i) (hp i)=some (va i,hp (i+1))∧(o.dst=none→en (i+1)=en i)∧(∀ t,o.dst=some t→t<nt∧en (i+1)=(t,va i)::en i)
 lookM:∀ (i j:Nat) (o p:Oper) (t:Nat),i<a0X l→j<m→l[i]?=some o→l[j]?=some p→t∈looks l o→p.dst=some t→a1V (a2b l) i j=true
 hk0:HK 0=h
 hp0:hp 0=h
 hkW:∀ (i:Nat) (o:Oper),i<m→l[i]?=some o→isW X.T fz o=true→HK (((List.range i).filter (a1g X.T fz l)).length+1)=hp (i+1)
 chain:∀ (i j:Nat) (o p:Oper),i<j→j<m→l[i]?=some o→l[j]?=some p→isW X.T fz o=true→isW X.T fz p=true→a1V (a2b l) j i=true
 win:∀ (i k:Nat) (o:Oper),(i,k)∈a7c X.T fz m l→l[i]?=some o→a3H X l o (en m) (HK k)
 late:m=a0X l∨a7O X.T fz m l=true
theorem b4h {call:a0Z} {nt:Nat} {fz bor:List Nat} {m:Nat} {l:List Oper} {e:DE} {h:Hp} {K:DE→Hp→Option R} {r:R} (hd:a5r X call nt fz bor m l e h K=some r) :
  ∃ en hp va HK,Tr X call nt fz bor l m e h en hp va HK∧(a1X X fz (l.take m) (en m) (hp m) fun e h=>a5i X call nt fz bor l (l.drop m) e h K)=some r:=by
 unfold a5r at hd
 split at hd
 ·cases hd
 rename_i hok
 unfold b5q at hok
 simp only [Bool.and_eq_true] at hok
 obtain ⟨⟨⟨⟨⟨⟨hmM,hMl⟩,hreg⟩,htail⟩,hlook⟩,hchain⟩,hlate⟩:=hok
 have hmM:=Nat.le_of_ble_eq_true hmM
 have hMl:=Nat.le_of_ble_eq_true hMl
 have hm:m≤l.length:=Nat.le_trans hmM hMl
 obtain ⟨en,hp,va,q1,q2,q3,q4⟩:=b2Z _ e h [h] _ hd
 have hlen:(l.take m).length=m:=by simp;omega
 rw [hlen] at q4
 obtain ⟨hch,hk⟩:=a7p q4
 have hget:∀ i,i<m→(l.take m)[i]?=l[i]?:=fun i hi=>by rw [List.getElem?_take,if_pos hi]
 have hW:(List.range m).filter (a1g X.T fz (l.take m))=(List.range m).filter (a1g X.T fz l):=by
  apply List.filter_congr
  intro i hi
  simp at hi
  unfold a1g
  rw [hget i hi]
 rw [hW] at hch
 refine ⟨en,hp,va,fun k=>(h::((List.range m).filter (a1g X.T fz l)).map fun i=>hp (i+1)).getD k [],⟨q1,hmM,hMl,hreg,htail,fun i o hi ho=>q3 i o (by rw [hget i hi];exact ho),fun i j o p t hi hj ho hp' ht hpd=>?_,by simp,q2,fun i o hi ho hw=>?_,fun i j o p hij hj ho hp' hwo hwp=>?_,fun i k o hik ho=>?_,by simpa using hlate⟩,hk⟩
 ·have h1:=(List.all_eq_true.1 hlook) i (by simp [hi])
  rw [ho] at h1
  have h2:=(List.all_eq_true.1 h1) t ht
  have h3:=(List.all_eq_true.1 h2) j (by simp [hj])
  rw [hp'] at h3
  simp only [hpd] at h3
  simpa using h3
 ·have:=a2O (a1g X.T fz l) m i hi (by unfold a1g;rw [ho];exact hw)
  simp only [List.getD_cons_succ]
  rw [List.getD_eq_getElem?_getD,c9a,this]
  rfl
 ·have hiW:i∈(List.range m).filter (a1g X.T fz l):=List.mem_filter.2 ⟨by simp;omega,by unfold a1g;rw [ho];exact hwo⟩
  have hjW:j∈(List.range m).filter (a1g X.T fz l):=List.mem_filter.2 ⟨by simp;omega,by unfold a1g;rw [hp'];exact hwp⟩
  have h1:=(List.all_eq_true.1 hchain) j hjW
  have h2:=(List.all_eq_true.1 h1) i hiW
  have:Nat.blt i j=true:=Nat.ble_eq_true_of_le (by omega)
  simpa [this] using h2
 ·obtain ⟨o',ho',ha⟩:=hch (i,k) hik
  simp only at ho' ha
  rw [ho] at ho'
  injection ho' with ho'
  subst ho'
  simpa using ha
section tr
variable {call:a0Z} {nt:Nat} {fz bor:List Nat} {l:List Oper} {m:Nat} {e:DE} {h:Hp} {en:Nat→DE} {hp:Nat→Hp} {va:Nat→D} {HK:Nat→Hp} (tr:Tr X call nt fz bor l m e h en hp va HK)
include tr
theorem Tr.ml:m≤l.length:=Nat.le_trans tr.mM tr.Ml
theorem Tr.look (i j:Nat) (o p:Oper) (t:Nat) (hi:i<m) (hj:j<m) (ho:l[i]?=some o) (hp:l[j]?=some p) (ht:t∈looks l o) (hd:p.dst=some t):a1V (a2b l) i j=true:=tr.lookM i j o p t (Nat.lt_of_lt_of_le hi tr.mM) hj ho hp ht hd
theorem Tr.get {i:Nat} (hi:i<m):∃ o,l[i]?=some o:=⟨_,c9c (Nat.lt_of_lt_of_le hi tr.ml)⟩
theorem Tr.keep {t:Nat}:∀ (i j:Nat),i≤j→j≤m→(∀ q o,i≤q→q<j→l[q]?=some o→o.dst≠some t)→lkD (en j) t=lkD (en i) t
 | i,0,hij,hj,_=>by
  have:i=0:=by omega
  subst this;rfl
 | i,j+1,hij,hj,hn=>by
  rcases Nat.lt_or_ge j i with hlt | hge
  ·have:i=j+1:=by omega
   subst this;rfl
  ·obtain ⟨o,ho⟩:=tr.get (i:=j) (by omega)
   obtain ⟨_,h1,h2⟩:=tr.step j o (by omega) ho
   have ih:=Tr.keep i j hge (by omega) fun q o h1 h2=>hn q o h1 (by omega)
   cases hd:o.dst with
   | none=>rw [h1 hd];exact ih
   | some u =>
    rw [(h2 u hd).2,a1v,if_neg]
    ·exact ih
    ·intro hh
     exact hn j o hge (by omega) ho (by rw [hd,hh])
theorem Tr.dist {i j:Nat} {o p:Oper} {t:Nat} (ho:l[i]?=some o) (hp':l[j]?=some p) (h1:o.dst=some t) (h2:p.dst=some t):i=j:=by
 have:=tr.reg
 simp only [b5J,Bool.and_eq_true] at this
 exact a3L this.1.1 ho hp' h1 h2
theorem Tr.val {i:Nat} {o:Oper} {t:Nat} (hi:i<m) (ho:l[i]?=some o) (hd:o.dst=some t) {j:Nat} (hij:i<j) (hj:j≤m):lkD (en j) t=some (va i):=by
 have:=tr.keep (t:=t) (i+1) j hij hj fun q p h1 h2 hq hpd=>by
  have:=tr.dist ho hq hd hpd
  omega
 rw [this,((tr.step i o hi ho).2.2 t hd).2,a1v,if_pos rfl]
theorem Tr.lookE {i:Nat} {o:Oper} (hi:i<m) (ho:l[i]?=some o) {t:Nat} (ht:t∈looks l o):lkD (en m) t=lkD (en i) t :=
 tr.keep i m (by omega) (Nat.le_refl _) fun q p h1 h2 hq hpd=>by
  have:=a8l tr.reg ho (tr.look i q o p t hi h2 ho hq ht hpd)
  omega
theorem Tr.hkc:∀ (i:Nat),i≤m→HK ((List.range i).filter (a1g X.T fz l)).length=hp i
 | 0,_=>by simp [tr.hk0,tr.hp0]
 | i+1,hi=>by
  obtain ⟨o,ho⟩:=tr.get (i:=i) (by omega)
  have ih:=Tr.hkc i (by omega)
  rw [List.range_succ,List.filter_append,c8S]
  cases hw:isW X.T fz o with
  | true =>
   have h1:a1g X.T fz l i=true:=by unfold a1g;rw [ho];exact hw
   have:=tr.hkW i o (by omega) ho hw
   simpa [h1] using this
  | false =>
   have h1:a1g X.T fz l i=false:=by unfold a1g;rw [ho];exact hw
   have:=a7S hw (tr.step i o (by omega) ho).1
   rw [this]
   simpa [h1] using ih
structure Far (P:Program) (X:Cx) (nt:Nat) (fz:List Nat) (l:List Oper) (m:Nat) (e:DE) (va:Nat→D) (HK:Nat→Hp) (g0:Gh) (L:Array Bool) (c:Nat) (a:Act) (g:Gh):Prop where
 size:a.tmps.size=nt
 defers:a.defers=[]
 Lsz:L.size=l.length
 cl:∀ (i:Nat) (o:Oper),L[i]?=some true→l[i]?=some o→∀ x∈o.after.toList,Region.binds .any x=true→L[x.on]?=some true
 main:∀ i,L[i]?=some true→i<m
 cnt:((List.range m).filter fun i=>L.getD i false).length=c
 ext:Ext g0 g
 inv:Inv g (HK (((List.range m).filter (a1g X.T fz l)).filter fun i=>L.getD i false).length)
 base:∀ t d,t∉a3X (l.take m)→lkD e t=some d→Rep g (a.tmps.getD t undef) d
 done:∀ (i:Nat) (o:Oper) (t:Nat),L[i]?=some true→l[i]?=some o→o.dst=some t→Rep g (a.tmps.getD t undef) (va i)
 pend:∀ (i:Nat) (o:Oper) (t:Nat),L[i]?=some true→l[i]?=some o→a0W X.T fz o = .limbo→o.dst=some t→Pend X.T g0 g o (a.tmps.getD t undef)
 dis:∀ (i j:Nat) (o p:Oper) (t u:Nat),L[i]?=some true→L[j]?=some true→l[i]?=some o→l[j]?=some p→a0W X.T fz o = .limbo→a0W X.T fz p = .limbo→o.dst=some t→p.dst=some u→i≠j→a.tmps.getD t undef≠a.tmps.getD u undef
theorem Far.step (hT:TabOK P X.T) (hc:a1I P X call) {g0:Gh} (hgl:GlOK g0 X.gl) {L:Array Bool} {c:Nat} {a:Act} {g:Gh} (hf:Far P X nt fz l m e va HK g0 L c a g) {i:Nat} {o:Oper} (hi:i<m) (ho:l[i]?=some o) (hLi:L[i]?=some false)
  (hready:∀ x∈o.after.toList,Region.binds .any x=true→L[x.on]?=some true) {Q:Exit→Act→World→Prop} {next:Act→World→Prop}
  (hn:∀ a' g',Far P X nt fz l m e va HK g0 (L.setIfInBounds i true) (c+1) a' g'→next a' g'.w):b9e P l.toArray Q o a g next:=by
 have hiL:i<L.size:=by rw [hf.Lsz];exact Nat.lt_of_lt_of_le hi tr.ml
 have gd:∀ q,L.getD q false=true↔L[q]?=some true:=fun q=>by
  rw [Array.getD_eq_getD_getElem?]
  cases L[q]? with
  | none=>simp
  | some b=>simp
 have gdi:L.getD i false=false:=by rw [Array.getD_eq_getD_getElem?,hLi];rfl
 have hex:∀ k,L[k]?=some true→∃ p,l[k]?=some p:=fun k hk=>tr.get (hf.main k hk)
 have closed:∀ j,a1V (a2b l) i j=true→L[j]?=some true:=fun j hj=>a2c (S:=fun k=>L[k]?=some true) hf.cl (i+1) i j o (by omega) ho hready hex hj
 have notyet:∀ w p,l[w]?=some p→L[w]?=some true→a1V (a2b l) w i=false:=fun w p hw hLw=>by
  cases hb:a1V (a2b l) w i with
  | false=>rfl
  | true =>
   exfalso
   have:=a2c (S:=fun k=>L[k]?=some true) hf.cl (w+1) w i p (by omega) hw (hf.cl w p hLw hw) hex hb
   rw [hLi] at this
   cases this
 obtain ⟨hrun,hd0,hd1⟩:=tr.step i o hi ho
 -- the slots that it looks at
 have hslots:∀ t d,t∈looks l o→lkD (en i) t=some d→Rep g (a.tmps.getD t undef) d:=fun t d ht hd=>by
  by_cases htm:t∈a3X (l.take m)
  ·unfold a3X at htm
   rw [List.mem_filterMap] at htm
   obtain ⟨p,hp1,hp2⟩:=htm
   obtain ⟨j,hj⟩:=List.getElem?_of_mem hp1
   rw [List.getElem?_take] at hj
   split at hj
   ·rename_i hjm
    have hb:=tr.look i j o p t hi hjm ho hj ht hp2
    have hji:=a8l tr.reg ho hb
    have hv:=tr.val hjm hj hp2 hji (Nat.le_of_lt hi)
    rw [hd] at hv
    injection hv with hv
    rw [hv]
    exact hf.done j p t (closed j hb) hj hp2
   ·cases hj
  ·have:=tr.keep (t:=t) 0 i (Nat.zero_le _) (by omega) fun q p h1 h2 hq hpd=>htm (by
     unfold a3X
     rw [List.mem_filterMap]
     exact ⟨p,c9b (by rw [List.getElem?_take,if_pos (show q<m by omega)];exact hq),hpd⟩)
   rw [this,tr.e0] at hd
   exact hf.base t d htm hd
 -- how many have turned memory
 have hmem:∀ w,w∈(List.range m).filter (a1g X.T fz l)↔w<m∧a1g X.T fz l w=true:=fun w=>by simp [List.mem_filter]
 obtain ⟨h',hrun',hH⟩:∃ h',opR X call fz bor l o (en i) (HK (((List.range m).filter (a1g X.T fz l)).filter fun w=>L.getD w false).length)=some (va i,h')∧h'=HK (((List.range m).filter (a1g X.T fz l)).filter fun w=>(L.setIfInBounds i true).getD w false).length:=by
  have setd:∀ w,(L.setIfInBounds i true).getD w false=(L.getD w false||Nat.beq w i):=fun w=>by
   by_cases hwi:i=w
   ·subst hwi
    rw [Array.getD_eq_getD_getElem?,Array.getElem?_setIfInBounds_self_of_lt hiL]
    simp
   ·rw [Array.getD_eq_getD_getElem?,Array.getElem?_setIfInBounds_ne hwi,← Array.getD_eq_getD_getElem?]
    have:Nat.beq w i=false:=by
     cases hb:Nat.beq w i with
     | false=>rfl
     | true=>exact absurd (Nat.eq_of_beq_eq_true hb).symm hwi
    rw [this,Bool.or_false]
  cases hw:isW X.T fz o with
  | true =>
   have hwi:a1g X.T fz l i=true:=by unfold a1g;rw [ho];exact hw
   have hiff:∀ w,w∈(List.range m).filter (a1g X.T fz l)→(L.getD w false=Nat.blt w i):=fun w hwm=>by
    obtain ⟨h1,h2⟩:=(hmem w).1 hwm
    obtain ⟨p,hp'⟩:=tr.get h1
    have hwp:isW X.T fz p=true:=by unfold a1g at h2;rw [hp'] at h2;exact h2
    rcases Nat.lt_trichotomy w i with hlt | heq | hgt
    ·have:=closed w (tr.chain w i p o hlt hi hp' ho hwp hw)
     rw [(gd w).2 this]
     exact (Nat.ble_eq_true_of_le (by omega)).symm
    ·subst heq
     rw [gdi]
     cases hb:Nat.blt w w with
     | false=>rfl
     | true=>have:=Nat.le_of_ble_eq_true hb;omega
    ·have hbit:=tr.chain i w o p hgt h1 ho hp' hw hwp
     cases hL:L.getD w false with
     | false =>
      cases hb:Nat.blt w i with
      | false=>rfl
      | true=>have:=Nat.le_of_ble_eq_true hb;omega
     | true =>
      have:=notyet w p hp' ((gd w).1 hL)
      rw [this] at hbit
      cases hbit
   have e1:(((List.range m).filter (a1g X.T fz l)).filter fun w=>L.getD w false)=(((List.range m).filter (a1g X.T fz l)).filter fun w=>Nat.blt w i):=List.filter_congr hiff
   have e2:(((List.range m).filter (a1g X.T fz l)).filter fun w=>(L.setIfInBounds i true).getD w false)=(((List.range m).filter (a1g X.T fz l)).filter fun w=>Nat.blt w (i+1)):=List.filter_congr fun w hwm=>by
    rw [setd,hiff w hwm]
    rcases Nat.lt_trichotomy w i with hlt | heq | hgt
    ·have h1:Nat.blt w i=true:=Nat.ble_eq_true_of_le (by omega)
     have h2:Nat.blt w (i+1)=true:=Nat.ble_eq_true_of_le (by omega)
     rw [h1,h2];rfl
    ·subst heq
     have h2:Nat.blt w (w+1)=true:=Nat.ble_eq_true_of_le (by omega)
     rw [h2];simp
    ·have h1:Nat.blt w i=false:=by
       cases hb:Nat.blt w i with
       | false=>rfl
       | true=>have:=Nat.le_of_ble_eq_true hb;omega
     have h2:Nat.blt w (i+1)=false:=by
      cases hb:Nat.blt w (i+1) with
      | false=>rfl
      | true=>have:=Nat.le_of_ble_eq_true hb;omega
     have h3:Nat.beq w i=false:=by
      cases hb:Nat.beq w i with
      | false=>rfl
      | true=>have:=Nat.eq_of_beq_eq_true hb;omega
     rw [h1,h2,h3];rfl
   rw [e1,e2,a1U _ m i (by omega),a1U _ m (i+1) (by omega),tr.hkc i (by omega),tr.hkc (i+1) (by omega)]
   exact ⟨_,hrun,rfl⟩
  | false =>
   have hwi:a1g X.T fz l i=false:=by unfold a1g;rw [ho];exact hw
   have e2:(((List.range m).filter (a1g X.T fz l)).filter fun w=>(L.setIfInBounds i true).getD w false)=(((List.range m).filter (a1g X.T fz l)).filter fun w=>L.getD w false):=List.filter_congr fun w hwm=>by
    rw [setd]
    have:Nat.beq w i=false:=by
     cases hb:Nat.beq w i with
     | false=>rfl
     | true =>
      have:=Nat.eq_of_beq_eq_true hb
      subst this
      rw [((hmem w).1 hwm).2] at hwi
      cases hwi
    rw [this,Bool.or_false]
   rw [e2]
   refine ⟨_,?_,rfl⟩
   have hcongr:∀ h2,opR X call fz bor l o (en i) h2=opR X call fz bor l o (en m) h2:=fun h2=>b2G fun t ht=>(tr.lookE hi ho ht).symm
   rw [hcongr] at hrun ⊢
   by_cases hown:(((List.range m).filter (a1g X.T fz l)).filter fun w=>L.getD w false).length=((List.range i).filter (a1g X.T fz l)).length
   ·rw [hown,tr.hkc i (by omega)]
    have:=a7S hw hrun
    rw [this] at hrun
    exact hrun
   ·refine a9V hw hrun fun hR=>⟨tr.win i _ o ?_ ho,fun t ht=>tr.val hi ho ht (by omega) (Nat.le_refl _)⟩
    unfold a7c
    rw [List.mem_flatMap]
    refine ⟨i,by simp [hi],?_⟩
    rw [ho]
    simp only [hR]
    rw [c9k]
    refine ⟨_,List.mem_filter.2 ⟨List.mem_range.2 (Nat.lt_succ_of_le (a3M _ fun w hwm hLw=>?_)),?_⟩,rfl⟩
    ·obtain ⟨p,hp'⟩:=tr.get ((hmem w).1 hwm).1
     rw [notyet w p hp' ((gd w).1 hLw)];rfl
    ·simp only [Bool.and_eq_true,Bool.not_eq_true']
     refine ⟨Nat.ble_eq_true_of_le (a3M _ fun w hwm hb=>(gd w).2 (closed w hb)),?_⟩
     have hown':(((List.range m).filter (a1g X.T fz l)).filter fun w=>Nat.blt w i).length=((List.range i).filter (a1g X.T fz l)).length:=a1U _ m i (by omega)
     rw [hown']
     cases hb:Nat.beq _ _ with
     | false=>rfl
     | true=>exact absurd (Nat.eq_of_beq_eq_true hb) hown
 refine a9W hT hc hrun' hf.inv (hgl.ext hf.ext) hslots fun g' v he hinv hrep hpd=>hn _ g' ?_
 have hLset:∀ q,(L.setIfInBounds i true)[q]?=some true→q=i∨L[q]?=some true:=fun q hq=>by
  by_cases hqi:i=q
  ·exact .inl hqi.symm
  ·rw [Array.getElem?_setIfInBounds_ne hqi] at hq;exact .inr hq
 have hLmono:∀ q,L[q]?=some true→(L.setIfInBounds i true)[q]?=some true:=fun q hq=>by
  by_cases hqi:i=q
  ·subst hqi;rw [hLi] at hq;cases hq
  ·rw [Array.getElem?_setIfInBounds_ne hqi];exact hq
 have hkeep:∀ t,o.dst≠some t→(a.put o.dst v).tmps.getD t undef=a.tmps.getD t undef:=fun t ht=>by
  cases hdst:o.dst with
  | none=>rfl
  | some u =>
   have hut:u≠t:=fun hh=>ht (by rw [hdst,hh])
   simp only [Act.put,Array.getD_eq_getD_getElem?]
   rw [Array.getElem?_setIfInBounds_ne hut]
 have hnew:∀ t,o.dst=some t→(a.put o.dst v).tmps.getD t undef=v:=fun t ht=>by
  have hlt:=(hd1 t ht).1
  rw [ht]
  simp [Act.put,Array.getD,hf.size,hlt]
 have hvs:∀ (q:Nat) (p:Oper) (u:Nat),L[q]?=some true→l[q]?=some p→a0W X.T fz p = .limbo→p.dst=some u→a0W X.T fz o = .limbo→v≠a.tmps.getD u undef:=fun q p u hq hp' hk hpd' hko hh=>by
  obtain ⟨_,_,b,_,_,_,h4,h5,_,_⟩:=hpd hko
  obtain ⟨_,_,b',_,_,_,k4,_,k6,_⟩:=hf.pend q p u hq hp' hk hpd'
  rw [h4,k4] at hh
  injection hh with hh
  injection hh with hh
  injection hh with hh
  have:=k6.1
  omega
 have hsl:∀ t,o.dst≠some t→∀ d,Rep g (a.tmps.getD t undef) d→Rep g' ((a.put o.dst v).tmps.getD t undef) d:=fun t ht d hd=>by
  cases hdst:o.dst with
  | none=>exact hd.ext he
  | some u =>
   have hut:u≠t:=fun hh=>ht (by rw [hdst,hh])
   have:(a.put (some u) v).tmps.getD t undef=a.tmps.getD t undef:=by
    simp only [Act.put,Array.getD_eq_getD_getElem?]
    rw [Array.getElem?_setIfInBounds_ne hut]
   rw [this];exact hd.ext he
 refine ⟨by cases hdst:o.dst <;> simp [Act.put,hf.size],by cases hdst:o.dst <;> simp [Act.put,hf.defers],by simp [hf.Lsz],fun q p hq hp' x hx hb=>?_,fun q hq=>?_,?_,hf.ext.trans he,by rw [← hH];exact hinv,fun t d ht hd=>?_,fun q p t hq hp' hpd=>?_,fun q p t hq hp' hk hpd'=>?_,fun q q2 p p2 t u hq hq2 hp' hp2 hk hk2 hdt hdu hne=>?_⟩
 ·rcases hLset q hq with rfl | hq
  ·rw [ho] at hp'
   injection hp' with hp'
   subst hp'
   exact hLmono _ (hready x hx hb)
  ·exact hLmono _ (hf.cl q p hq hp' x hx hb)
 ·rcases hLset q hq with rfl | hq
  ·exact hi
  ·exact hf.main q hq
 ·have key:∀ (n:Nat),((List.range n).filter fun q=>(L.setIfInBounds i true).getD q false).length=((List.range n).filter fun q=>L.getD q false).length+(if i<n then 1 else 0):=by
    intro n
    induction n with
    | zero=>simp
    | succ n ih =>
     rw [List.range_succ,List.filter_append,List.filter_append,c8S,c8S,ih]
     by_cases hin:i=n
     ·subst hin
      have h1:(L.setIfInBounds i true).getD i false=true:=by
       rw [Array.getD_eq_getD_getElem?,Array.getElem?_setIfInBounds_self_of_lt hiL];rfl
      have e1:([i].filter fun q=>(L.setIfInBounds i true).getD q false)=[i]:=by rw [List.filter_cons,h1];rfl
      have e2:([i].filter fun q=>L.getD q false)=[]:=by rw [List.filter_cons,gdi];rfl
      rw [e1,e2,if_neg (Nat.lt_irrefl _),if_pos (Nat.lt_succ_self _)]
      simp
     ·have h1:(L.setIfInBounds i true).getD n false=L.getD n false:=by
        rw [Array.getD_eq_getD_getElem?,Array.getElem?_setIfInBounds_ne hin,← Array.getD_eq_getD_getElem?]
      have h2:(i<n+1)↔(i<n):=by omega
      simp only [h2]
      have h3:([n].filter fun q=>(L.setIfInBounds i true).getD q false)=([n].filter fun q=>L.getD q false):=by
       rw [List.filter_cons,List.filter_cons,h1];rfl
      rw [h3]
      omega
  rw [key m,if_pos hi,hf.cnt]
 ·refine hsl t (fun hh=>ht ?_) d (hf.base t d ht hd)
  unfold a3X
  rw [List.mem_filterMap]
  exact ⟨o,c9b (by rw [List.getElem?_take,if_pos hi];exact ho),hh⟩
 ·by_cases hqi:q=i
  ·subst hqi
   rw [ho] at hp'
   injection hp' with hp'
   subst hp'
   have hlt:=(hd1 t hpd).1
   rw [hpd]
   have:(a.put (some t) v).tmps.getD t undef=v:=by simp [Act.put,Array.getD,hf.size,hlt]
   rw [this];exact hrep
  ·rcases hLset q hq with h1 | h1
   ·exact absurd h1 hqi
   ·exact hsl t (fun hh=>hqi (tr.dist hp' ho hpd hh)) _ (hf.done q p t h1 hp' hpd)
 ·by_cases hqi:q=i
  ·subst hqi
   rw [ho] at hp'
   injection hp' with hp'
   subst hp'
   rw [hnew t hpd']
   exact (hpd hk).old hf.ext.size
  ·rcases hLset q hq with h1 | h1
   ·exact absurd h1 hqi
   ·rw [hkeep t fun hh=>hqi (tr.dist hp' ho hpd' hh)]
    exact (hf.pend q p t h1 hp' hk hpd').ext he
 ·by_cases hqi:q=i
  ·subst hqi
   rw [ho] at hp'
   injection hp' with hp'
   subst hp'
   rcases hLset q2 hq2 with h1 | h1
   ·exact absurd h1.symm hne
   ·rw [hnew t hdt,hkeep u fun hh=>hne (tr.dist ho hp2 hh hdu)]
    exact hvs q2 p2 u h1 hp2 hk2 hdu hk
  ·rcases hLset q hq with h1 | h1
   ·exact absurd h1 hqi
   ·rw [hkeep t fun hh=>hqi (tr.dist hp' ho hdt hh)]
    by_cases hqi2:q2=i
    ·subst hqi2
     rw [ho] at hp2
     injection hp2 with hp2
     subst hp2
     rw [hnew u hdu]
     exact fun hh=>hvs q p t h1 hp' hk hdt hk2 hh.symm
    ·rcases hLset q2 hq2 with h2 | h2
     ·exact absurd h2 hqi2
     ·rw [hkeep u fun hh=>hqi2 (tr.dist hp2 ho hdu hh)]
      exact hf.dis q q2 p p2 t u h1 h2 hp' hp2 hk hk2 hdt hdu hne
end tr
end
end Go.Pi

/- A statement whose order is open, whole. No program is named here. -/
import Derived.Test.YthaajlepgblimaaGreatDoorPiR
set_option linter.unusedSimpArgs false
set_option linter.unusedVariables false
set_option linter.unnecessarySimpa false
namespace Go.Pi
open Go.Eng
theorem b0D (p:Nat→Bool):∀ (m:Nat),((List.range m).filter p).length=m→∀ i,i<m→p i=true:=fun m h i hi=>by
 have h1:(List.range m).filter p=List.range m:=by
  apply List.filter_eq_self.2
  intro a ha
  rcases Nat.lt_or_ge ((List.range m).filter p).length (List.range m).length with hlt | hge
  ·simp at hlt;omega
  ·cases hp:p a with
   | true=>rfl
   | false =>
    exfalso
    have:((List.range m).filter p).length<(List.range m).length:=by
     apply List.length_filter_lt_length_iff_exists.2
     exact ⟨a,ha,by simp [hp]⟩
    omega
 exact List.filter_eq_self.1 h1 i (by simp [hi])
def PendAll (T:Tab) (fz:List Nat) (g0 g:Gh) (a:Act) (ops:List Oper):Prop :=
 (∀ (i:Nat) (o:Oper) (t:Nat),ops[i]?=some o→a1q T fz o = .limbo→o.dst=some t→Pend T g0 g o (a.tmps.getD t undef)) ∧
 ∀ (i j:Nat) (o p:Oper) (t u:Nat),ops[i]?=some o→ops[j]?=some p→a1q T fz o = .limbo→a1q T fz p = .limbo→o.dst=some t→p.dst=some u→i≠j→a.tmps.getD t undef≠a.tmps.getD u undef
structure SatP (pr:Nat→Prop) (n:Nat) (g:Gh) (e:DE) (a:Act):Prop where
 size:a.tmps.size=n
 defers:a.defers=[]
 get:∀ t d,pr t→lkD e t=some d→Rep g (a.tmps.getD t undef) d
theorem PendAll.tail {T:Tab} {fz:List Nat} {g0 g:Gh} {a:Act} {o:Oper} {ops:List Oper} (h:PendAll T fz g0 g a (o::ops)):PendAll T fz g0 g a ops :=
 ⟨fun i p t hp=>h.1 (i+1) p t (by simpa using hp),fun i j p q t u hp hq h1 h2 h3 h4 hne=>h.2 (i+1) (j+1) p q t u (by simpa using hp) (by simpa using hq) h1 h2 h3 h4 (by omega)⟩
section
variable {P:Program} {X:Cx} {R:Type}
theorem a8f (hT:TabOK P X.T) {fz:List Nat} {nt:Nat} {r:R} {g0:Gh} {a:Act} {pr:Nat→Prop}:∀ (ops:List Oper) (e:DE) (h:Hp) (g:Gh) (K:DE→Hp→Option R),a2N X fz ops e h K=some r→Ext g0 g→Inv g h→SatP pr nt g e a→PendAll X.T fz g0 g a ops →
  ∃ e' h' g',K e' h'=some r∧g'.w=g.w∧Ext g0 g'∧Inv g' h'∧SatP pr nt g' e' a∧(∀ v d,Rep g v d→Rep g' v d)∧∀ t,(∀ o∈ops,a1q X.T fz o = .limbo→o.dst≠some t)→lkD e' t=lkD e t
 | [],e,h,g,K,hk,he,hi,hs,_=>⟨e,h,g,hk,rfl,he,hi,hs,fun _ _ hr=>hr,fun _ _=>rfl⟩
 | o :: ops, e,h,g,K,hk,he,hi,hs,hp=>by
  have skip:a2N X fz ops e h K=some r→∃ e' h' g',K e' h'=some r∧g'.w=g.w∧Ext g0 g'∧Inv g' h'∧SatP pr nt g' e' a∧(∀ v d,Rep g v d→Rep g' v d)∧∀ t,(∀ q∈o::ops,a1q X.T fz q = .limbo→q.dst≠some t)→lkD e' t=lkD e t:=fun hk=>by
   obtain ⟨e',h',g',q1,q2,q3,q4,q5,q6,q7⟩:=a8f hT ops e h g K hk he hi hs hp.tail
   exact ⟨e',h',g',q1,q2,q3,q4,q5,q6,fun t ht=>q7 t fun q hq=>ht q (List.mem_cons_of_mem _ hq)⟩
  unfold a2N at hk
  split at hk
  case h_2=>exact skip hk
  rename_i E t hkind hop hdst
  split at hk
  case h_2=>cases hk
  rename_i i hE
  obtain ⟨E',i',b,k1,k2,hpos,hv,hb0,hlim,cs,hcs,hcsz,hcell⟩:=hp.1 0 o t rfl hkind hdst
  rw [hop] at k1
  injection k1 with k1
  subst k1
  rw [hE] at k2
  injection k2 with k2
  subst k2
  let g1:Gh:=⟨g.w,g.ms++[⟨b,i.sz,1,1⟩],g.L⟩
  have hmnew:g1.ms[h.length]?=some ⟨b,i.sz,1,1⟩:=by
   show (g.ms++_)[h.length]?=_
   rw [← hi.len];simp
  have hmsold:∀ (q:Nat) (m:Me),g.ms[q]?=some m→g1.ms[q]?=some m:=fun q m hm=>by
   show (g.ms++_)[q]?=some m
   rw [e0H (e0y.1 hm).1];exact hm
  have hmcase:∀ (q:Nat) (m:Me),g1.ms[q]?=some m→(q<h.length∧g.ms[q]?=some m)∨(q=h.length∧m=⟨b,i.sz,1,1⟩):=fun q m hm=>by
   have hm':(g.ms++[(⟨b,i.sz,1,1⟩:Me)])[q]?=some m:=hm
   rcases Nat.lt_trichotomy q g.ms.length with hlt | heq | hgt
   ·rw [e0H hlt] at hm'
    exact .inl ⟨by rw [← hi.len];exact hlt,hm'⟩
   ·subst heq
    simp at hm'
    exact .inr ⟨hi.len,hm'.symm⟩
   ·exfalso
    have:=(e0y.1 hm').1
    simp at this
    omega
  have heW:ExtW g g1:=⟨rfl,rfl,rfl,Nat.le_refl _,hmsold,fun b hb=>⟨hb,rfl⟩⟩
  have he1:Ext g0 g1:=⟨⟨he.os,he.tape,he.output,he.size,fun q m hm=>hmsold q m (he.ms q m hm),fun b' hb'=>⟨(he.fz b' hb').1,(he.fz b' hb').2⟩⟩,fun b' hb'=>by
   obtain ⟨l1,l2⟩:=he.lim b' hb'
   refine ⟨⟨l1.1,l1.2.1,fun q m hm=>?_⟩,l2⟩
   rcases hmcase q m hm with ⟨_,hm⟩ | ⟨_,rfl⟩
   ·exact l1.2.2 q m hm
   ·have:=hb'.1
    show b≠b'
    omega⟩
  have hhcase:∀ (q:Nat) (ob:Ob),(a0C h E i.sz [i.zero])[q]?=some ob→(q<h.length∧h[q]?=some ob)∨(q=h.length∧ob = .row E i.sz [i.zero]):=fun q ob hob=>by
   unfold a0C at hob
   rcases Nat.lt_trichotomy q h.length with hlt | heq | hgt
   ·rw [e0H hlt] at hob;exact .inl ⟨hlt,hob⟩
   ·subst heq
    simp at hob
    exact .inr ⟨rfl,hob.symm⟩
   ·exfalso
    have:=(e0y.1 hob).1
    simp at this
    omega
  have hi1:Inv g1 (a0C h E i.sz [i.zero]):=by
   refine ⟨by show (g.ms++[_]).length=(h++[_]).length;simp [hi.len],fun q T1 s1 r1 hq=>?_,fun q q' T1 s1 T2 s2 r1 r2 m1 m2 h1 h2 h3 h4 h5=>?_,hi.L,fun q m hm=>?_⟩
   ·rcases hhcase q _ hq with ⟨hlt,hq⟩ | ⟨rfl,heq⟩
    ·obtain ⟨m,cs',hm,hl⟩:=hi.live q T1 s1 r1 hq
     exact ⟨m,cs',hmsold q m hm,hl.blk,hl.hsz,hl.pos,hl.hL,hl.len,hl.le,hl.room,hl.row,fun i' row h2 j d h3=>by
      obtain ⟨v,h4,h5,h6⟩:=hl.cell i' row h2 j d h3
      exact ⟨v,h4,h5,h6.extW heW⟩⟩
    ·injection heq with e1 e2 e3
     subst e1;subst e2;subst e3
     refine ⟨_,cs,hmnew,⟨(0,0),hcs,.inl rfl⟩,rfl,hpos,hlim.2.1,rfl,Nat.le_refl _,by show 1*i.sz≤cs.size;omega,fun row hr=>?_,fun i' row h2 j d h3=>?_⟩
     ·simp at hr;subst hr;exact hT.zlen hE
     ·cases i' with
      | zero =>
       simp at h2
       subst h2
       obtain ⟨v,c1,c2,c3⟩:=hcell j d h3
       exact ⟨v,by simpa using c1,c2,c3 g1⟩
      | succ i'=>simp at h2
   ·rcases hhcase q _ h1 with ⟨hlt,h1⟩ | ⟨rfl,heq⟩
    ·rcases hmcase q m1 h3 with ⟨_,h3⟩ | ⟨hqq,_⟩
     ·rcases hhcase q' _ h2 with ⟨hlt',h2⟩ | ⟨rfl,heq'⟩
      ·rcases hmcase q' m2 h4 with ⟨_,h4⟩ | ⟨hqq,_⟩
       ·exact hi.inj q q' T1 s1 T2 s2 r1 r2 m1 m2 h1 h2 h3 h4 h5
       ·omega
      ·exfalso
       rw [hmnew] at h4
       injection h4 with h4
       subst h4
       exact hlim.2.2 q m1 h3 h5
     ·omega
    ·rcases hhcase q' _ h2 with ⟨hlt',h2⟩ | ⟨rfl,heq'⟩
     ·rcases hmcase q' m2 h4 with ⟨_,h4⟩ | ⟨hqq,_⟩
      ·exfalso
       rw [hmnew] at h3
       injection h3 with h3
       subst h3
       exact hlim.2.2 q' m2 h4 h5.symm
      ·omega
     ·rfl
   ·rcases hmcase q m hm with ⟨_,hm⟩ | ⟨_,rfl⟩
    ·exact hi.msb q m hm
    ·exact hlim.1
  have hs1:SatP pr nt g1 ((t,.ptr h.length 0 0)::e) a:=by
   refine ⟨hs.size,hs.defers,fun u d hu hd=>?_⟩
   rw [a2e] at hd
   by_cases htu:t=u
   ·subst htu
    rw [if_pos rfl] at hd
    injection hd with hd
    subst hd
    rw [hv]
    have:=Rep.ptr (g:=g1) h.length 0 0 ⟨b,i.sz,1,1⟩ hmnew
    simpa using this
   ·rw [if_neg htu] at hd
    exact (hs.get u d hu hd).extW heW
  have hp1:PendAll X.T fz g0 g1 a ops:=by
   refine ⟨fun q p u hq hk' hd'=>?_,hp.tail.2⟩
   obtain ⟨E2,i2,b2,k1,k2,k3,k4,k5,k6,k7⟩:=hp.1 (q+1) p u (by simpa using hq) hk' hd'
   have hne:=hp.2 0 (q+1) o p t u rfl (by simpa using hq) hkind hk' hdst hd' (by omega)
   refine ⟨E2,i2,b2,k1,k2,k3,k4,k5,⟨k6.1,k6.2.1,fun q' m hm=>?_⟩,k7⟩
   rcases hmcase q' m hm with ⟨_,hm⟩ | ⟨_,rfl⟩
   ·exact k6.2.2 q' m hm
   ·intro hh
    apply hne
    rw [hv,k4]
    have hh:b=b2:=hh
    rw [hh]
  obtain ⟨e',h',g',q1,q2,q3,q4,q5,q6,q7⟩:=a8f hT ops _ _ g1 K hk he1 hi1 hs1 hp1
  refine ⟨e',h',g',q1,q2,q3,q4,q5,fun v d hr=>q6 v d (hr.extW heW),fun u hu=>?_⟩
  rw [q7 u fun q hq=>hu q (List.mem_cons_of_mem _ hq),a2e,if_neg (fun hh=>hu o (List.mem_cons_self ..) hkind (by rw [hdst,hh]))]
end
section
variable {P:Program} {X:Cx} {R:Type} {call:a1y} {nt:Nat} {fz bor:List Nat} {l:List Oper} {m:Nat} {e:DE} {h:Hp} {en:Nat→DE} {hp:Nat→Hp} {va:Nat→D} {HK:Nat→Hp} (tr:Tr X call nt fz bor l m e h en hp va HK)
include tr
theorem Far.sat {g0 g:Gh} {L:Array Bool} {c:Nat} {a:Act} (hf:Far P X nt fz l m e va HK g0 L c a g):SatP (fun t=>∀ z p,z<m→L[z]?≠some true→l[z]?=some p→p.dst≠some t) nt g (en m) a:=by
 refine ⟨hf.size,hf.defers,fun t d hp hd=>?_⟩
 by_cases htm:t∈a6u (l.take m)
 ·unfold a6u at htm
  rw [List.mem_filterMap] at htm
  obtain ⟨p,hp1,hp2⟩:=htm
  obtain ⟨j,hj⟩:=List.getElem?_of_mem hp1
  rw [List.getElem?_take] at hj
  split at hj
  ·rename_i hjm
   have hv:=tr.val hjm hj hp2 hjm (Nat.le_refl _)
   rw [hd] at hv
   injection hv with hv
   rw [hv]
   refine hf.done j p t ?_ hj hp2
   apply Classical.byContradiction
   intro hn
   exact hp j p hjm hn hj hp2
  ·cases hj
 ·have:=tr.keep (t:=t) 0 m (Nat.zero_le _) (Nat.le_refl _) fun q p h1 h2 hq hpd=>htm (by
    unfold a6u
    rw [List.mem_filterMap]
    exact ⟨p,e0w (by rw [List.getElem?_take,if_pos h2];exact hq),hpd⟩)
  rw [this,tr.e0] at hd
  exact hf.base t d htm hd
theorem Far.slots {g0 g:Gh} {L:Array Bool} {c:Nat} {a:Act} (hf:Far P X nt fz l m e va HK g0 L c a g) {i:Nat} {o:Oper} (hi:i<m) (ho:l[i]?=some o)
  (hcl:∀ j p t,j<m→l[j]?=some p→p.dst=some t→t∈looks l o→L[j]?=some true):∀ t d,t∈looks l o→lkD (en i) t=some d→Rep g (a.tmps.getD t undef) d:=fun t d ht hd=>by
 by_cases htm:t∈a6u (l.take m)
 ·unfold a6u at htm
  rw [List.mem_filterMap] at htm
  obtain ⟨p,hp1,hp2⟩:=htm
  obtain ⟨j,hj⟩:=List.getElem?_of_mem hp1
  rw [List.getElem?_take] at hj
  split at hj
  ·rename_i hjm
   have hb:=tr.look i j o p t hi hjm ho hj ht hp2
   have hji:=b1X tr.reg ho hb
   have hv:=tr.val hjm hj hp2 hji (Nat.le_of_lt hi)
   rw [hd] at hv
   injection hv with hv
   rw [hv]
   exact hf.done j p t (hcl j p t hjm hj hp2 ht) hj hp2
  ·cases hj
 ·have:=tr.keep (t:=t) 0 i (Nat.zero_le _) (by omega) fun q p h1 h2 hq hpd=>htm (by
    unfold a6u
    rw [List.mem_filterMap]
    exact ⟨p,e0w (by rw [List.getElem?_take,if_pos (show q<m by omega)];exact hq),hpd⟩)
  rw [this,tr.e0] at hd
  exact hf.base t d htm hd
theorem Tr.lateS {k j:Nat} {o:Oper} (h1:m≤k) (h2:k<a1t l) (h3:j<k) (ho:l[k]?=some o) :
  (∃ x∈o.after.toList,Region.binds .any x=true∧x.on=j)∨(j<m∧∀ p t,l[j]?=some p→o.dst=some t→t∉looks l p):=by
 rcases tr.late with hm | hl
 ·omega
 unfold b1x at hl
 simp only [Bool.and_eq_true] at hl
 have:=(List.all_eq_true.1 hl.1.1) k (by simp [h2])
 simp only [Bool.or_eq_true] at this
 rcases this with hb | hb
 ·have:=Nat.le_of_ble_eq_true hb;omega
 ·have:=(List.all_eq_true.1 hb) j (by simp [h3])
  simp only [Bool.or_eq_true,Bool.and_eq_true] at this
  rcases this with hb | ⟨hb,hc⟩
  ·left
   have hmem:=memB_iff.1 hb
   unfold b0S at hmem
   have hoA:l.toArray[k]?=some o:=by simpa using ho
   rw [hoA] at hmem
   simp only [e0F,List.mem_filter] at hmem
   obtain ⟨x,⟨hx,hbx⟩,hxj⟩:=hmem
   exact ⟨x,hx,hbx,hxj⟩
  ·right
   refine ⟨Nat.le_of_ble_eq_true hb,fun p t hp hd ht=>?_⟩
   unfold b8L at hc
   rw [ho,hp] at hc
   simp only [hd] at hc
   rw [memB_iff.2 ht] at hc
   cases hc
theorem Tr.idle {j:Nat} (hj:j<m) (hla:a3O m l j=true) :
  ∃ p t,l[j]?=some p∧a1q X.T fz p = .pure∧p.dst=some t∧∀ u∈looks l p,∀ q p',q<m→l[q]?=some p'→p'.dst=some u→a3O m l q=false:=by
 rcases tr.late with hm | hl
 ·exfalso
  unfold a3O at hla
  rw [List.any_eq_true] at hla
  obtain ⟨k,hk,hb⟩:=hla
  simp only [Bool.and_eq_true,Bool.not_eq_true'] at hb
  have:k<a1t l:=by simpa using hk
  have h2:Nat.blt k m=true:=Nat.ble_eq_true_of_le (by omega)
  rw [hb.1] at h2
  cases h2
 unfold b1x at hl
 simp only [Bool.and_eq_true] at hl
 have:=(List.all_eq_true.1 hl.1.2) j (by simp [hj])
 rw [hla] at this
 simp only [e0s,Bool.false_or,Bool.and_eq_true] at this
 obtain ⟨p,hp⟩:=tr.get hj
 obtain ⟨h1,h2⟩:=this
 unfold c4c at h1
 rw [hp] at h1
 simp only [Bool.and_eq_true] at h1
 obtain ⟨⟨hk,hg⟩,hd⟩:=h1
 have hk:a1q X.T fz p = .pure:=by
  generalize a1q X.T fz p=kk at hk
  cases kk <;> first | rfl | cases hk
 cases hdd:p.dst with
 | none=>rw [hdd] at hd;cases hd
 | some t =>
  refine ⟨p,t,hp,hk,hdd,fun u hu q p' hq hp' hd'=>?_⟩
  unfold d0h at h2
  rw [hp] at h2
  have h3:=(List.all_eq_true.1 h2) u hu
  have h4:=(List.all_eq_true.1 h3) q (by simp [hq])
  rw [hp'] at h4
  simp only [hd'] at h4
  simpa using h4
theorem Tr.nofs {k:Nat} {o p:Oper} (h1:m≤k) (h2:k<a1t l) (ho:l[k]?=some o) (hp:l[k+1]?=some p):c5y fz o p=none:=by
 rcases tr.late with hm | hl
 ·omega
 unfold b1x at hl
 simp only [Bool.and_eq_true] at hl
 have:=(List.all_eq_true.1 hl.2) k (by simp [h2])
 simp only [Bool.or_eq_true] at this
 rcases this with hb | hb
 ·have:=Nat.le_of_ble_eq_true hb;omega
 ·unfold c2I at hb
  rw [ho,hp] at hb
  simp only at hb
  cases hf:c5y fz o p with
  | none=>rfl
  | some x=>rw [hf] at hb;cases hb
theorem Tr.waits {i j:Nat} {o:Oper} (h1:m≤i) (ho:l[i]?=some o) (h3:j<i) (hn:a1t l≤i∨(j<m∧a3O m l j=false)):∃ x∈o.after.toList,Region.binds .any x=true∧x.on=j:=by
 have hil:=(e0y.1 ho).1
 have fin:b2D j (b0S l.toArray i)=true→∃ x∈o.after.toList,Region.binds .any x=true∧x.on=j:=fun hb=>by
  have hmem:=memB_iff.1 hb
  unfold b0S at hmem
  have hoA:l.toArray[i]?=some o:=by simpa using ho
  rw [hoA] at hmem
  simp only [e0F,List.mem_filter] at hmem
  obtain ⟨x,⟨hx,hbx⟩,hxj⟩:=hmem
  exact ⟨x,hx,hbx,hxj⟩
 rcases Nat.lt_or_ge i (a1t l) with hlt | hge
 ·rcases hn with hn | ⟨hj,hla⟩
  ·omega
  ·refine fin ?_
   cases hb:b2D j (b0S l.toArray i) with
   | true=>rfl
   | false =>
    exfalso
    have:a3O m l j=true:=by
     unfold a3O
     rw [List.any_eq_true]
     refine ⟨i,by simp [hlt],?_⟩
     rw [hb]
     have:Nat.blt i m=false:=by
      cases hb:Nat.blt i m with
      | false=>rfl
      | true=>have:=Nat.le_of_ble_eq_true hb;omega
     rw [this];rfl
    rw [hla] at this
    cases this
 ·have htB:=(List.all_eq_true.1 tr.tail) i (by simp [hil])
  simp only [Bool.or_eq_true] at htB
  rcases htB with hb | hb
  ·have:=Nat.le_of_ble_eq_true hb;omega
  ·exact fin ((List.all_eq_true.1 hb) j (by simp;omega))
omit tr in
theorem b0g {L:Array Bool} {i:Nat} (hL:L.size=l.length):i∈Region.ready .any l.toArray L↔∃ o,l[i]?=some o∧L[i]?=some false∧∀ x∈o.after.toList,Region.binds .any x=true→L[x.on]?=some true:=by
 unfold Region.ready
 rw [List.mem_filter]
 constructor
 ·rintro ⟨h1,h2⟩
  have hil:i<l.length:=by simpa using h1
  have ho:l[i]?=some l[i]:=e0x hil
  have hoA:l.toArray[i]?=some l[i]:=by simpa using ho
  rw [hoA] at h2
  simp only [Option.map_some,Option.getD_some,Bool.and_eq_true,Bool.not_eq_true'] at h2
  refine ⟨l[i],ho,?_,fun x hx hb=>?_⟩
  ·obtain ⟨b,hLi⟩:∃ b,L[i]?=some b:=⟨_,Array.getElem?_eq_getElem (by omega)⟩
   have:=h2.1
   rw [Array.getD_eq_getD_getElem?,hLi] at this
   rw [hLi]
   simp at this
   rw [this]
  ·have:=(Array.all_eq_true_iff_forall_mem.1 h2.2) x (by simpa using hx)
   rw [hb] at this
   simp only [e0s,Bool.false_or] at this
   rw [Array.getD_eq_getD_getElem?] at this
   cases hq:L[x.on]? with
   | none=>rw [hq] at this;cases this
   | some b=>rw [hq] at this;simp at this;rw [this]
 ·rintro ⟨o,ho,hLi,hd⟩
  have hil:=(e0y.1 ho).1
  refine ⟨by simpa using hil,?_⟩
  have hoA:l.toArray[i]?=some o:=by simpa using ho
  rw [hoA]
  simp only [Option.map_some,Option.getD_some,Bool.and_eq_true,Bool.not_eq_true']
  refine ⟨by rw [Array.getD_eq_getD_getElem?,hLi];rfl,Array.all_eq_true_iff_forall_mem.2 fun x hx=>?_⟩
  cases hb:Region.binds .any x with
  | false=>rfl
  | true =>
   simp only [e0s,Bool.false_or]
   rw [Array.getD_eq_getD_getElem?,hd x (by simpa using hx) hb];rfl
theorem Tr.back {k:Nat} {p:Oper} (hp:l[k]?=some p):∀ x∈p.after.toList,Region.binds .any x=true→x.on<k:=fun x hx hb=>by
 have hreg:=tr.reg
 simp only [c2Q,Bool.and_eq_true] at hreg
 have hk:=(e0y.1 hp).1
 have:=(List.all_eq_true.1 hreg.2) k (by simp [hk])
 have hd:x.on∈b0S l.toArray k:=by
  unfold b0S
  have hok:l.toArray[k]?=some p:=by simpa using hp
  rw [hok]
  simp only [e0F,List.mem_filter]
  exact ⟨x,⟨hx,hb⟩,rfl⟩
 exact Nat.le_of_ble_eq_true ((List.all_eq_true.1 this) _ hd)
theorem Tr.nonempty {L:Array Bool} (hL:L.size=l.length):∀ (n i:Nat),i<n→i<m→L[i]?=some false→∃ i,i∈Region.ready .any l.toArray L
 | 0,i,h,_,_=>by omega
 | n+1,i,hn,hi,hLi=>by
  obtain ⟨o,ho⟩:=tr.get hi
  by_cases hd:∀ x∈o.after.toList,Region.binds .any x=true→L[x.on]?=some true
  ·exact ⟨i,(b0g hL).2 ⟨o,ho,hLi,hd⟩⟩
  ·simp only [Classical.not_forall] at hd
   obtain ⟨x,hx,hb,hnt⟩:=hd
   have hlt:=tr.back ho x hx hb
   obtain ⟨b,hLx⟩:∃ b,L[x.on]?=some b:=⟨_,Array.getElem?_eq_getElem (by rw [hL];have:=tr.ml;omega)⟩
   refine Tr.nonempty hL n x.on (by omega) (by omega) ?_
   cases b with
   | false=>exact hLx
   | true=>exact absurd hLx hnt
theorem c7Z (hT:TabOK P X.T) (hc:a2B P X call) {g0:Gh} (hgl:GlOK g0 X.gl) {Q:Exit→Act→World→Prop}
  (htl:∀ fuel L c a g,Far P X nt fz l m e va HK g0 L c a g→(∀ i,i<m→a3O m l i=false→L[i]?=some true)→l.length≤fuel+c→wpAny P .any l.toArray Q fuel L a g.w):∀ (fuel:Nat) (L:Array Bool) (c:Nat) (a:Act) (g:Gh),Far P X nt fz l m e va HK g0 L c a g→l.length≤fuel+c→wpAny P .any l.toArray Q fuel L a g.w:=by
 intro fuel
 induction fuel with
 | zero =>
  intro L c a g hf hfu
  have hcm:c≤m:=by
   rw [← hf.cnt]
   have:=List.length_filter_le (fun i=>L.getD i false) (List.range m)
   simpa using this
  have hml:=tr.ml
  have hce:c=m:=by omega
  refine htl 0 L c a g hf (fun i hi _=>?_) hfu
  have:=b0D (fun i=>L.getD i false) m (by rw [hf.cnt,hce]) i hi
  simp only [Array.getD_eq_getD_getElem?] at this
  cases hq:L[i]? with
  | none=>rw [hq] at this;cases this
  | some b=>rw [hq] at this;simp at this;rw [this]
 | succ fuel ih =>
  intro L c a g hf hfu
  by_cases hall:∀ i,i<m→a3O m l i=false→L[i]?=some true
  ·exact htl (fuel+1) L c a g hf hall hfu
  ·simp only [Classical.not_forall] at hall
   obtain ⟨j,hj,hla,hLj⟩:=hall
   have hLj:L[j]?=some false:=by
    obtain ⟨b,hb⟩:∃ b,L[j]?=some b:=⟨_,Array.getElem?_eq_getElem (by rw [hf.Lsz];have:=tr.ml;omega)⟩
    cases b with
    | true=>exact absurd hb hLj
    | false=>exact hb
   refine ⟨fun hr=>?_,fun i hir=>?_⟩
   ·obtain ⟨i,hi⟩:=tr.nonempty hf.Lsz (j+1) j (by omega) hj hLj
    rw [hr] at hi
    cases hi
   ·obtain ⟨o,ho,hLi,hd⟩:=(b0g hf.Lsz).1 hir
    have him:i<m:=by
     rcases Nat.lt_or_ge i m with hlt | hge
     ·exact hlt
     ·exfalso
      obtain ⟨x,hx,hbx,hxj⟩:=tr.waits hge ho (j:=j) (by omega) (.inr ⟨hj,hla⟩)
      have:=hd x hx hbx
      rw [hxj,hLj] at this
      cases this
    have hst:c7r P l.toArray Q o a g (wpAny P .any l.toArray Q fuel (L.setIfInBounds i true)):=hf.step tr hT hc hgl him ho hLi hd fun a' g' hf'=>ih _ (c+1) a' g' hf' (by omega)
    unfold wpOp
    have hoA:l.toArray[i]?=some o:=by simpa using ho
    rw [hoA]
    simp only []
    rcases hst with ⟨hw,hwp⟩ | ⟨hw,hnx⟩
    ·rw [if_pos hw];exact .inl hwp
    ·rw [if_neg (by simp [hw])];exact hnx
structure Late (P:Program) (X:Cx) (nt:Nat) (fz:List Nat) (l:List Oper) (m:Nat) (en:Nat→DE) (va:Nat→D) (k:Nat) (e:DE) (h:Hp) (g0:Gh) (L:Array Bool) (a:Act) (g:Gh):Prop where
 size:a.tmps.size=nt
 defers:a.defers=[]
 Lsz:L.size=l.length
 cl:∀ (i:Nat) (o:Oper),L[i]?=some true→l[i]?=some o→∀ x∈o.after.toList,Region.binds .any x=true→L[x.on]?=some true
 tl:∀ i,k≤i→i<l.length→L[i]?=some false
 md:∀ i,m≤i→i<k→L[i]?=some true
 pn:∀ i,i<m→L[i]?≠some true→a3O m l i=true
 ext:Ext g0 g
 inv:Inv g h
 env:∀ t d,(∀ z p,z<m→L[z]?≠some true→l[z]?=some p→p.dst≠some t)→lkD e t=some d→Rep g (a.tmps.getD t undef) d
 slots:∀ z p t d,z<m→L[z]?≠some true→l[z]?=some p→t∈looks l p→lkD (en z) t=some d→Rep g (a.tmps.getD t undef) d
 zval:∀ z p t,z<m→L[z]?≠some true→l[z]?=some p→p.dst=some t→lkD e t=some (va z)
omit tr in
theorem b6D {L:Array Bool} {i:Nat} (hi:i<L.size) (hLi:L[i]?=some false):∀ (n:Nat),((List.range n).filter fun q => !((L.setIfInBounds i true).getD q false)).length+(if i<n then 1 else 0)=((List.range n).filter fun q => !(L.getD q false)).length
 | 0=>by simp
 | n+1=>by
  have ih:=b6D hi hLi n
  rw [List.range_succ,List.filter_append,List.filter_append,e0m,e0m,← ih]
  by_cases hin:i=n
  ·subst hin
   have h1:(L.setIfInBounds i true).getD i false=true:=by
    rw [Array.getD_eq_getD_getElem?,Array.getElem?_setIfInBounds_self_of_lt hi];rfl
   have h2:L.getD i false=false:=by rw [Array.getD_eq_getD_getElem?,hLi];rfl
   have e1:([i].filter fun q => !((L.setIfInBounds i true).getD q false))=[]:=by rw [List.filter_cons,h1];rfl
   have e2:([i].filter fun q => !(L.getD q false))=[i]:=by rw [List.filter_cons,h2];rfl
   rw [e1,e2,if_neg (Nat.lt_irrefl _),if_pos (Nat.lt_succ_self _)]
   simp
  ·have h1:(L.setIfInBounds i true).getD n false=L.getD n false:=by
     rw [Array.getD_eq_getD_getElem?,Array.getElem?_setIfInBounds_ne hin,← Array.getD_eq_getD_getElem?]
   have h2:(i<n+1)↔(i<n):=by omega
   simp only [h2]
   have h3:([n].filter fun q => !((L.setIfInBounds i true).getD q false))=([n].filter fun q => !(L.getD q false)):=by
    rw [List.filter_cons,List.filter_cons,h1];rfl
   rw [h3]
   omega
omit tr in
theorem b0N (p:Nat→Bool):∀ (n:Nat),((List.range n).filter fun q => !(p q)).length+((List.range n).filter p).length=n
 | 0=>rfl
 | n+1=>by
  have ih:=b0N p n
  rw [List.range_succ,List.filter_append,List.filter_append,e0m,e0m]
  cases hp:p n <;> simp [hp] <;> omega
omit tr in
theorem a7t {a:Act} {dst:Option Nat} {v:Value} {t:Nat} (h:dst≠some t):(a.put dst v).tmps.getD t undef=a.tmps.getD t undef:=by
 cases dst with
 | none=>rfl
 | some u =>
  have hut:u≠t:=fun hh=>h (by rw [hh])
  simp only [Act.put,Array.getD_eq_getD_getElem?]
  rw [Array.getElem?_setIfInBounds_ne hut]
omit tr in
theorem b8Z {a:Act} {v:Value} {t:Nat} (h:t<a.tmps.size):(a.put (some t) v).tmps.getD t undef=v:=by
 simp [Act.put,Array.getD,h]
theorem c4s (hT:TabOK P X.T) (hc:a2B P X call) {g0:Gh} (hgl:GlOK g0 X.gl) {Q:Exit→Act→World→Prop} {K:DE→Hp→Option R} {r:R} {e0:DE}
  (hn:∀ e h a g,Ext g0 g→SatD nt g e a→Inv g h→(∀ t,t∉a6u l→lkD e t=lkD e0 t)→a8e X call nt fz bor l (l.drop (a1t l)) e h K=some r→wpList P l.toArray Q (l.drop (a1t l)) a g.w) :
  ∀ (fuel k:Nat) (e:DE) (h:Hp) (L:Array Bool) (a:Act) (g:Gh),m≤k→k≤a1t l→a8e X call nt fz bor l (l.drop k) e h K=some r→(∀ t,t∉a6u l→lkD e t=lkD e0 t)→Late P X nt fz l m en va k e h g0 L a g →
   ((List.range m).filter fun i => !(L.getD i false)).length+(l.length - k)≤fuel→wpAny P .any l.toArray Q fuel L a g.w:=by
 have hMl:=tr.Ml
 have hml:=tr.ml
 intro fuel
 induction fuel with
 | zero =>
  intro k e h L a g hk1 hk2 hseq hke hL hfu
  have hkl:k=a1t l:=by omega
  have hp0:((List.range m).filter fun i => !(L.getD i false))=[]:=List.eq_nil_of_length_eq_zero (by omega)
  have hall:∀ i,i<m→L[i]?=some true:=fun i hi=>by
   have:=(List.filter_eq_nil_iff.1 hp0) i (by simp [hi])
   simp only [Bool.not_eq_true',Bool.not_eq_false,Array.getD_eq_getD_getElem?] at this
   cases hq:L[i]? with
   | none=>rw [hq] at this;cases this
   | some b=>rw [hq] at this;simp at this;rw [this]
  subst hkl
  refine a8Z tr.reg tr.tail (l.drop (a1t l)) (a1t l) 0 L a g.w (Nat.le_refl _) rfl hL.Lsz (fun i hi=>?_) (by simp;omega) (hn e h a g hL.ext ⟨hL.size,hL.defers,fun t d hd=>hL.env t d (fun z p hz hLz=>absurd (hall z hz) hLz) hd⟩ hL.inv hke hseq)
  rcases Nat.lt_or_ge i (a1t l) with hlt | hge
  ·rw [decide_eq_true hlt]
   rcases Nat.lt_or_ge i m with h1 | h1
   ·exact hall i h1
   ·exact hL.md i h1 hlt
  ·rw [decide_eq_false (by omega)]
   exact hL.tl i hge hi
 | succ fuel ih =>
  intro k e h L a g hk1 hk2 hseq hke hL hfu
  by_cases hend:k=a1t l∧∀ i,i<m→L[i]?=some true
  ·obtain ⟨hkl,hall⟩:=hend
   subst hkl
   refine a8Z tr.reg tr.tail (l.drop (a1t l)) (a1t l) (fuel+1) L a g.w (Nat.le_refl _) rfl hL.Lsz (fun i hi=>?_) (by simp;omega) (hn e h a g hL.ext ⟨hL.size,hL.defers,fun t d hd=>hL.env t d (fun z p hz hLz=>absurd (hall z hz) hLz) hd⟩ hL.inv hke hseq)
   rcases Nat.lt_or_ge i (a1t l) with hlt | hge
   ·rw [decide_eq_true hlt]
    rcases Nat.lt_or_ge i m with h1 | h1
    ·exact hall i h1
    ·exact hL.md i h1 hlt
   ·rw [decide_eq_false (by omega)]
    exact hL.tl i hge hi
  have hget:∀ q,L[q]?=some true→∃ p,l[q]?=some p:=fun q hq=>⟨_,e0x (by have:=(Array.getElem?_eq_some_iff.1 hq).1;rw [hL.Lsz] at this;exact this)⟩
  have fls:∀ i,i<m→L[i]?≠some true→L[i]?=some false:=fun i hi hne=>by
   obtain ⟨b,hb⟩:∃ b,L[i]?=some b:=⟨_,Array.getElem?_eq_getElem (by rw [hL.Lsz];omega)⟩
   cases b with
   | true=>exact absurd hb hne
   | false=>exact hb
  refine ⟨fun hr=>?_,fun i hir=>?_⟩
  ·by_cases hz:∀ i,i<m→L[i]?=some true
   ·have hkM:k<a1t l:=by
      rcases Nat.lt_or_ge k (a1t l) with hlt | hge
      ·exact hlt
      ·exact absurd ⟨by omega,hz⟩ hend
    have hko:l[k]?=some l[k]:=e0x (show k<l.length by omega)
    have:k∈Region.ready .any l.toArray L:=(b0g hL.Lsz).2 ⟨_,hko,hL.tl k (Nat.le_refl _) (by omega),fun x hx hb=>by
     have:=tr.back hko x hx hb
     rcases Nat.lt_or_ge x.on m with h1 | h1
     ·exact hz _ h1
     ·exact hL.md _ h1 this⟩
    rw [hr] at this
    cases this
   ·simp only [Classical.not_forall] at hz
    obtain ⟨j,hj,hLj⟩:=hz
    obtain ⟨i,hi⟩:=tr.nonempty hL.Lsz (j+1) j (by omega) hj (fls j hj hLj)
    rw [hr] at hi
    cases hi
  ·obtain ⟨o,ho,hLi,hd⟩:=(b0g hL.Lsz).1 hir
   have hiL:i<L.size:=(Array.getElem?_eq_some_iff.1 hLi).1
   have hLset:∀ q,q≠i→(L.setIfInBounds i true)[q]?=L[q]?:=fun q hq=>Array.getElem?_setIfInBounds_ne (fun hh=>hq hh.symm)
   have hLself:(L.setIfInBounds i true)[i]?=some true:=Array.getElem?_setIfInBounds_self_of_lt hiL
   have hcl':∀ (q:Nat) (p:Oper),(L.setIfInBounds i true)[q]?=some true→l[q]?=some p→∀ x∈p.after.toList,Region.binds .any x=true→(L.setIfInBounds i true)[x.on]?=some true:=fun q p hq hp x hx hb=>by
    have hmono:∀ w,L[w]?=some true→(L.setIfInBounds i true)[w]?=some true:=fun w hw=>by
     by_cases hwi:w=i
     ·subst hwi;exact hLself
     ·rw [hLset w hwi];exact hw
    by_cases hqi:q=i
    ·subst hqi
     rw [ho] at hp
     injection hp with hp
     subst hp
     exact hmono _ (hd x hx hb)
    ·rw [hLset q hqi] at hq
     exact hmono _ (hL.cl q p hq hp x hx hb)
   have hcnt:=b6D hiL hLi m
   have hst:c7r P l.toArray Q o a g (wpAny P .any l.toArray Q fuel (L.setIfInBounds i true)):=by
    rcases Nat.lt_or_ge i m with him | hge
    ·
     have hne:L[i]?≠some true:=by rw [hLi];simp
     have hla:=hL.pn i him hne
     obtain ⟨p,t,hp,hkp,hpd,hfree⟩:=tr.idle him hla
     rw [ho] at hp
     injection hp with hp
     subst hp
     have hw:isW X.T fz o=false:=by unfold isW;rw [hkp]
     have hrd:isR X.T fz o=false:=by unfold isR;rw [hkp]
     have hrun:=b5c hw (tr.step i o him ho).1 (h2:=h) (fun hR=>by rw [hrd] at hR;cases hR)
     have htn:=((tr.step i o him ho).2.2 t hpd).1
     refine b5d hT hc hrun hL.inv (hgl.ext hL.ext) (fun u d hu hdd=>hL.slots i o u d him hne ho hu hdd) fun g' v he hinv hrep _=>?_
     rw [if_pos him] at hcnt
     have old:∀ q,(L.setIfInBounds i true)[q]?≠some true→q≠i∧L[q]?≠some true:=fun q hq=>by
      by_cases hqi:q=i
      ·subst hqi;exact absurd hLself hq
      ·rw [hLset q hqi] at hq;exact ⟨hqi,hq⟩
     refine ih k e h _ _ g' hk1 hk2 hseq hke ⟨by rw [hpd];simp [Act.put,hL.size],by rw [hpd];simp [Act.put,hL.defers],by simp [hL.Lsz],hcl',fun q h1 h2=>by rw [hLset q (by omega)];exact hL.tl q h1 h2,fun q h1 h2=>by rw [hLset q (by omega)];exact hL.md q h1 h2,fun q h1 h2=>hL.pn q h1 (old q h2).2,hL.ext.trans he,hinv,fun u d hp' hdd=>?_,fun z p u d hz hLz hp hu hdd=>?_,fun z p u hz hLz hp hpu=>hL.zval z p u hz (old z hLz).2 hp hpu⟩ (by omega)
     ·by_cases hut:o.dst=some u
      ·have hv:=hL.zval i o u him hne ho hut
       rw [hdd] at hv
       injection hv with hv
       rw [hv,hut,b8Z (by rw [hpd] at hut;injection hut with hut;subst hut;rw [hL.size];exact htn)]
       exact hrep
      ·rw [a7t hut]
       refine (hL.env u d (fun z p hz hLz hp=>?_) hdd).ext he
       by_cases hzi:z=i
       ·subst hzi
        rw [ho] at hp
        injection hp with hp
        subst hp
        exact hut
       ·exact hp' z p hz (by rw [hLset z hzi];exact hLz) hp
     ·have hzz:=old z hLz
      have hlz:=hL.pn z hz hzz.2
      obtain ⟨p2,t2,hp2,_,_,hfr2⟩:=tr.idle hz hlz
      rw [hp] at hp2
      injection hp2 with hp2
      subst hp2
      have hou:o.dst≠some u:=fun hh=>by
       have:=hfr2 u hu i o him ho hh
       rw [hla] at this
       cases this
      rw [a7t hou]
      exact (hL.slots z p u d hz hzz.2 hp hu hdd).ext he
    ·
     have hik:i=k:=by
      rcases Nat.lt_trichotomy i k with h1 | h1 | h1
      ·have:=hL.md i hge h1
       rw [hLi] at this
       cases this
      ·exact h1
      ·exfalso
       have hkf:=hL.tl k (Nat.le_refl _) (by have:=(e0y.1 ho).1;omega)
       have:∃ x∈o.after.toList,Region.binds .any x=true∧x.on=k:=by
        rcases Nat.lt_or_ge i (a1t l) with h2 | h2
        ·rcases tr.lateS hge h2 h1 ho with hx | ⟨hx,_⟩
         ·exact hx
         ·omega
        ·exact tr.waits hge ho h1 (.inl h2)
       obtain ⟨x,hx,hb,hxk⟩:=this
       have:=hd x hx hb
       rw [hxk,hkf] at this
       cases this
     subst hik
     have hiM:i<a1t l:=by
      rcases Nat.lt_or_ge i (a1t l) with h1 | h1
      ·exact h1
      ·exfalso
       refine hend ⟨by omega,fun z hz=>?_⟩
       obtain ⟨x,hx,hb,hxz⟩:=tr.waits hge ho (j:=z) (by omega) (.inl h1)
       rw [← hxz]
       exact hd x hx hb
     have hil:i<l.length:=by omega
     have hdrop:l.drop i=o::l.drop (i+1):=by
      rw [List.drop_eq_getElem_cons hil]
      have:l[i]?=some l[i]:=e0x hil
      rw [ho] at this
      injection this with this
      rw [← this]
     have hop:opK X call nt fz bor l o e h (fun e' h'=>a8e X call nt fz bor l (l.drop (i+1)) e' h' K)=some r:=by
      rw [hdrop] at hseq
      cases hrest:l.drop (i+1) with
      | nil=>rw [hrest] at hseq;simpa only [a8e] using hseq
      | cons p rest =>
       rw [hrest] at hseq
       simp only [a8e] at hseq
       have hp1:l[i+1]?=some p:=by
        have:(l.drop (i+1))[0]?=some p:=by rw [hrest];rfl
        simpa using this
       rw [tr.nofs hge hiM ho hp1] at hseq
       exact hseq
     obtain ⟨d,h',hr,hcase⟩:=b0e hop
     have notp:∀ z p u,z<m→L[z]?≠some true→l[z]?=some p→u∈looks l o→p.dst≠some u:=fun z p u hz hLz hp hu hpu=>by
      have hb:=tr.lookM i z o p u hiM hz ho hp hu hpu
      exact hLz (a3n (S:=fun q=>L[q]?=some true) hL.cl (i+1) i z o (by omega) ho hd hget hb)
     have hnn:(if i<m then 1 else 0)=0:=if_neg (by omega)
     rw [hnn] at hcnt
     refine b5d hT hc hr hL.inv (hgl.ext hL.ext) (fun u d hu hdd=>hL.env u d (fun z p hz hLz hp=>notp z p u hz hLz hp hu) hdd) fun g' v he hinv hrep _=>?_
     have old:∀ q,q<m→(L.setIfInBounds i true)[q]?=L[q]?:=fun q hq=>hLset q (by omega)
     have common:∀ e',a8e X call nt fz bor l (l.drop (i+1)) e' h' K=some r→(∀ u,o.dst≠some u→lkD e' u=lkD e u)→(∀ u,o.dst=some u→u<nt∧lkD e' u=some d)→wpAny P .any l.toArray Q fuel (L.setIfInBounds i true) (a.put o.dst v) g'.w:=fun e' hs' hk' hd'=>by
      refine ih (i+1) e' h' _ _ g' (by omega) (by omega) hs' (fun u hu=>?_) ⟨by cases hq:o.dst <;> simp [Act.put,hL.size],by cases hq:o.dst <;> simp [Act.put,hL.defers],by simp [hL.Lsz],hcl',fun q h1 h2=>by rw [hLset q (by omega)];exact hL.tl q (by omega) h2,fun q h1 h2=>?_,fun q h1 h2=>hL.pn q h1 (by rw [← old q h1];exact h2),hL.ext.trans he,hinv,fun u dd hp' hdd=>?_,fun z p u dd hz hLz hp hu hdd=>?_,fun z p u hz hLz hp hpu=>?_⟩ (by omega)
      ·rw [hk' u (fun hh=>hu (by unfold a6u;rw [List.mem_filterMap];exact ⟨o,e0w ho,hh⟩))]
       exact hke u hu
      ·by_cases hqi:q=i
       ·subst hqi;exact hLself
       ·rw [hLset q hqi];exact hL.md q h1 (by omega)
      ·by_cases hut:o.dst=some u
       ·obtain ⟨hun,hue⟩:=hd' u hut
        rw [hue] at hdd
        injection hdd with hdd
        rw [← hdd,hut,b8Z (by rw [hL.size];exact hun)]
        exact hrep
       ·rw [a7t hut]
        rw [hk' u hut] at hdd
        exact (hL.env u dd (fun z p hz hLz hp=>hp' z p hz (by rw [old z hz];exact hLz) hp) hdd).ext he
      ·rw [old z hz] at hLz
       have hou:o.dst≠some u:=fun hh=>by
        rcases tr.lateS hge hiM (show z<i by omega) ho with ⟨x,hx,hb,hxz⟩ | ⟨_,hx⟩
        ·have:=hd x hx hb
         rw [hxz] at this
         exact hLz this
        ·exact hx p u hp hh hu
       rw [a7t hou]
       exact (hL.slots z p u dd hz hLz hp hu hdd).ext he
      ·rw [old z hz] at hLz
       rw [hk' u fun hh=>by have:=tr.dist ho hp hh hpu;omega]
       exact hL.zval z p u hz hLz hp hpu
     rcases hcase with ⟨hdn,hk'⟩ | ⟨t,hdt,hlt,hk'⟩
     ·exact common e hk' (fun _ _=>rfl) (fun u hu=>by rw [hdn] at hu;cases hu)
     ·refine common _ hk' (fun u hu=>?_) (fun u hu=>?_)
      ·rw [a2e,if_neg (fun hh=>hu (by rw [hdt,hh]))]
      ·rw [hdt] at hu
       injection hu with hu
       subst hu
       exact ⟨hlt,by rw [a2e,if_pos rfl]⟩
   unfold wpOp
   have hoA:l.toArray[i]?=some o:=by simpa using ho
   rw [hoA]
   simp only []
   rcases hst with ⟨hw,hwp⟩ | ⟨hw,hnx⟩
   ·rw [if_pos hw];exact .inl hwp
   ·rw [if_neg (by simp [hw])];exact hnx
end
section
variable {P:Program} {X:Cx} {R:Type}
theorem c0M (hT:TabOK P X.T) (hm:P.follows .mixedOrders=true) {call:a1y} (hc:a2B P X call) {nt:Nat} {fz bor:List Nat} {m:Nat} {l:List Oper} {e:DE} {h:Hp} {K:DE→Hp→Option R} {r:R} (hd:a8s X call nt fz bor m l e h K=some r)
  {Q:Exit→Act→World→Prop} {g:Gh} {a:Act} (hi:Inv g h) (hgl:GlOK g X.gl) (hs:SatD nt g e a)
  (hn:∀ e' h' g' a',K e' h'=some r→(∀ t,t∉a6u l→lkD e' t=lkD e t)→Ext g g'→Inv g' h'→SatD nt g' e' a'→Q .normal a' g'.w) {id:Nat}:(Code.region id l.toArray true).wp P Q a g.w:=by
 obtain ⟨en,hp,va,HK,tr,hk⟩:=c0N hd
 refine wp_region_any hm ?_
 have hg0:=g.draw_ext
 have hml:=tr.ml
 have hfar:Far P X nt fz l m e va HK g.draw (Array.replicate l.length false) 0 a g.draw:=by
  have hL:∀ i,(Array.replicate l.length false)[i]?≠some true:=fun i hi=>by
   rw [Array.getElem?_replicate] at hi
   split at hi <;> simp at hi
  have hgd:∀ i,(Array.replicate l.length false).getD i false=false:=fun i=>by
   rw [Array.getD_eq_getD_getElem?,Array.getElem?_replicate]
   split <;> rfl
  refine ⟨hs.size,hs.defers,by simp,fun i o hi=>absurd hi (hL i),fun i hi=>absurd hi (hL i),?_,Ext.refl _,?_,fun t d _ hd=>(hs.get t d hd).ext hg0,fun i o t hi=>absurd hi (hL i),fun i o t hi=>absurd hi (hL i),fun i j o p t u hi=>absurd hi (hL i)⟩
  ·have:(List.range m).filter (fun i=>(Array.replicate l.length false).getD i false)=[]:=by
     rw [List.filter_eq_nil_iff]
     intro i _
     rw [hgd];simp
   rw [this];rfl
  ·have:((List.range m).filter (a1I X.T fz l)).filter (fun i=>(Array.replicate l.length false).getD i false)=[]:=by
     rw [List.filter_eq_nil_iff]
     intro i _
     rw [hgd];simp
   rw [this]
   simp only [e0A,tr.hk0]
   exact Gh.draw_inv hi
 have:=c7Z tr hT hc (hgl.ext hg0) (Q:=Q) (fun fuel L c a' g' hf hall hfu=>?_) l.length (Array.replicate l.length false) 0 a g.draw hfar (by omega)
 ·rw [List.size_toArray]
  exact this
 ·have late:∀ i,i<m→L[i]?≠some true→a3O m l i=true:=fun i hi hne=>by
    cases hla:a3O m l i with
    | true=>rfl
    | false=>exact absurd (hall i hi hla) hne
  have pureL:∀ (i:Nat) (o:Oper),i<m→l[i]?=some o→a1q X.T fz o ≠ .pure→L[i]?=some true:=fun i o hi ho hk=>by
   apply Classical.byContradiction
   intro hne
   obtain ⟨p,t,hp',hkp,_⟩:=tr.idle hi (late i hi hne)
   rw [ho] at hp'
   injection hp' with hp'
   subst hp'
   exact hk hkp
  have htk:∀ (q:Nat) (p:Oper),(l.take m)[q]?=some p→q<m∧l[q]?=some p:=fun q p hq=>by
   rw [List.getElem?_take] at hq
   split at hq
   ·rename_i hlt;exact ⟨hlt,hq⟩
   ·cases hq
  have limL:∀ (q:Nat) (p:Oper),(l.take m)[q]?=some p→a1q X.T fz p = .limbo→L[q]?=some true:=fun q p hq hk=>pureL q p (htk q p hq).1 (htk q p hq).2 (by rw [hk];intro hh;cases hh)
  have hpa:PendAll X.T fz g.draw g' a' (l.take m):=⟨fun q p t hq hk hd=>hf.pend q p t (limL q p hq hk) (htk q p hq).2 hk hd,fun q q2 p p2 t u hq hq2 hk hk2 hdt hdu hne=>hf.dis q q2 p p2 t u (limL q p hq hk) (limL q2 p2 hq2 hk2) (htk q p hq).2 (htk q2 p2 hq2).2 hk hk2 hdt hdu hne⟩
  have hinv:Inv g' (hp m):=by
   have e1:(((List.range m).filter (a1I X.T fz l)).filter fun i=>L.getD i false)=(List.range m).filter (a1I X.T fz l):=by
    rw [List.filter_eq_self]
    intro w hw
    obtain ⟨h1,h2⟩:=List.mem_filter.1 hw
    simp at h1
    obtain ⟨o,ho⟩:=tr.get h1
    rw [Array.getD_eq_getD_getElem?,pureL w o h1 ho (fun hk=>by unfold a1I isW at h2;rw [ho] at h2;simp only [hk] at h2;cases h2)];rfl
   have:=hf.inv
   rw [e1,tr.hkc m (Nat.le_refl _)] at this
   exact this
  obtain ⟨e1,h1,g1,hk1,hw1,he1,hi1,hs1,hmono,hlk1⟩:=a8f hT (l.take m) (en m) (hp m) g' _ hk hf.ext hinv (hf.sat tr) hpa
  rw [← hw1]
  have hcc:=b0N (fun i=>L.getD i false) m
  have hcn:=hf.cnt
  have hMl:=tr.Ml
  refine c4s tr hT hc (hgl.ext hg0) (e0:=e) (r:=r) (fun e' h' a'' g'' he hsat hinv' hke hseq=>?_) fuel m e1 h1 L a' g1 (Nat.le_refl _) tr.mM hk1 (fun t ht=>?_) ⟨hs1.size,hs1.defers,hf.Lsz,hf.cl,fun i h2 h3=>?_,fun i h2 h3=>by omega,late,he1,hi1,hs1.get,fun z p t d hz hLz hp' ht hdd=>hmono _ _ (hf.slots tr hz hp' (fun j p' u hj hpj hpd hu=>?_) t d ht hdd),fun z p t hz hLz hp' hpt=>?_⟩ (by omega)
  ·refine b0k hT hc (l.drop (a1t l)) e' h' K hseq g'' a'' hinv' ((hgl.ext hg0).ext he) hsat fun e2 h2 g2 a2 q1 h3 h4 h5 h6=>hn e2 h2 g2 a2 q1 (fun t ht=>?_) ((hg0.trans he).trans h4) h5 h6
   rw [h3 t (fun hh=>ht ?_),hke t ht]
   unfold a6u at hh ⊢
   rw [List.mem_filterMap] at hh ⊢
   obtain ⟨p,hp1,hp2⟩:=hh
   exact ⟨p,List.mem_of_mem_drop hp1,hp2⟩
  ·rw [hlk1 t fun o ho _ hh=>ht (by unfold a6u;rw [List.mem_filterMap];exact ⟨o,List.mem_of_mem_take ho,hh⟩)]
   rw [tr.keep (t:=t) 0 m (Nat.zero_le _) (Nat.le_refl _) fun q p q1 q2 hq hpd=>ht (by unfold a6u;rw [List.mem_filterMap];exact ⟨p,e0w hq,hpd⟩),tr.e0]
  ·obtain ⟨b,hb⟩:∃ b,L[i]?=some b:=⟨_,Array.getElem?_eq_getElem (by rw [hf.Lsz];exact h3)⟩
   cases b with
   | false=>exact hb
   | true=>have:=hf.main i hb;omega
  ·obtain ⟨p2,t2,hp2,_,_,hfr⟩:=tr.idle hz (late z hz hLz)
   rw [hp'] at hp2
   injection hp2 with hp2
   subst hp2
   exact hall j hj (hfr u hu j p' hj hpj hpd)
  ·rw [hlk1 t fun o ho hk hh=>?_]
   ·exact tr.val hz hp' hpt hz (Nat.le_refl _)
   ·obtain ⟨q,hq⟩:=List.getElem?_of_mem ho
    obtain ⟨hq1,hq2⟩:=htk q o hq
    have:=tr.dist hq2 hp' hh hpt
    subst this
    obtain ⟨p2,t2,hp2,hkp,_⟩:=tr.idle hz (late _ hz hLz)
    rw [hq2] at hp2
    injection hp2 with hp2
    subst hp2
    rw [hk] at hkp
    cases hkp
end
end Go.Pi

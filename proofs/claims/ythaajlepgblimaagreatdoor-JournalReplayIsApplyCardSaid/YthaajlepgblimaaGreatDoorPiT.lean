/- Code and functions: what they do to data they do to memory. No program is named here. -/
import Derived.Test.YthaajlepgblimaaGreatDoorPiS
set_option linter.unusedSimpArgs false
set_option linter.unusedVariables false
set_option linter.unnecessarySimpa false
namespace Go.Pi
open Go.Eng
def cv:Ex→Exit
 | .nrm => .normal
 | .ext i => .exit i
 | .ret => .ret
def c5s (keep:List Nat) (c:Code) (e e':DE):Prop:=∀ t,t∈keep→t∉a2R c→lkD e' t=lkD e t
def a3e:Nat→a7A
 | 0,_,_,_=>none
 | n+1,body,ds,h=>(body ds h).bind fun r=>match r.1 with
  | .nrm=>a3e n body r.2.1 r.2.2
  | x=>some (x,r.2.1,r.2.2)
def b6c (loop:a7A):Prop:=∀ body ds h o,loop body ds h=some o→∃ n,a3e n body ds h=some o
theorem a9Z {e:DE}:∀ {ts:List Nat} {t:Nat} {d:D},lkD (c2T e ts) t=some d→t∈ts∧lkD e t=some d
 | [],t,d,h=>by cases h
 | u::r,t,d,h=>by
  simp only [c2T] at h
  split at h
  ·rename_i x hx
   rw [a2e] at h
   split at h
   ·rename_i hut
    subst hut
    injection h with h
    subst h
    exact ⟨List.mem_cons_self ..,hx⟩
   ·obtain ⟨h1,h2⟩:=a9Z h
    exact ⟨List.mem_cons_of_mem _ h1,h2⟩
  ·obtain ⟨h1,h2⟩:=a9Z h
   exact ⟨List.mem_cons_of_mem _ h1,h2⟩
theorem a4W {e:DE}:∀ {ts:List Nat} {t:Nat},t∈ts→lkD (c2T e ts) t=lkD e t
 | [],t,h=>by cases h
 | u::r,t,h=>by
  simp only [c2T]
  by_cases hut:u=t
  ·subst hut
   split
   ·rename_i x hx
    rw [a2e,if_pos rfl,hx]
   ·rename_i hx
    by_cases hr:u∈r
    ·exact a4W hr
    ·rw [hx]
     cases hq:lkD (c2T e r) u with
     | none=>rfl
     | some d=>exact absurd (a9Z hq).1 hr
  ·have hr:t∈r:=by
     rcases e0D.1 h with h | h
     ·exact absurd h.symm hut
     ·exact h
   split
   ·rw [a2e,if_neg hut];exact a4W hr
   ·exact a4W hr
theorem c2F {e' eb:DE}:∀ {ts:List Nat} {t:Nat} {d:D},lkD (b1Q ts (a5d e' ts) eb) t=some d→(t∈ts∧(lkD e' t=some d∨d = .any))∨lkD eb t=some d
 | [],t,d,h => .inr h
 | u::r,t,d,h=>by
  simp only [a5d,b1Q,hdD,tlD] at h
  rw [a2e] at h
  split at h
  ·rename_i hut
   subst hut
   injection h with h
   refine .inl ⟨List.mem_cons_self ..,?_⟩
   cases hq:lkD e' u with
   | none=>rw [hq] at h;exact .inr h.symm
   | some x=>rw [hq] at h;exact .inl (by rw [← h])
  ·rcases c2F h with ⟨h1,h2⟩ | h1
   ·exact .inl ⟨List.mem_cons_of_mem _ h1,h2⟩
   ·exact .inr h1
theorem a8R:∀ {ts:List Nat} {ds:List D} {eb:DE} {t:Nat},t∉ts→lkD (b1Q ts ds eb) t=lkD eb t
 | [],_,_,_,_=>rfl
 | u::r,ds,eb,t,h=>by
  simp only [b1Q]
  rw [e0D,not_or] at h
  rw [a2e,if_neg (fun hh=>h.1 hh.symm)]
  exact a8R h.2
theorem mem_outs {keep:List Nat} {c:Code} {t:Nat}:t∈a4r keep c↔t∈keep∧t∈a2R c:=by
 unfold a4r
 rw [List.mem_filter,memB_iff]
theorem mem_rest {keep:List Nat} {c:Code} {t:Nat}:t∈keep.filter (fun t => !(b2D t (a2R c)))↔t∈keep∧t∉a2R c:=by
 rw [List.mem_filter]
 cases h:b2D t (a2R c) with
 | true=>simp [memB_iff.1 h]
 | false =>
  have:t∉a2R c:=fun hh=>by rw [memB_iff.2 hh] at h;cases h
  simp [this]
theorem a4U {nt:Nat} {keep:List Nat} {c:Code} {e e':DE} {g:Gh} {a:Act} (hp:c5s keep c e e') (hs:SatD nt g e' a):SatD nt g (b1Q (a4r keep c) (a5d e' (a4r keep c)) (c2S keep c e)) a :=
 ⟨hs.size,hs.defers,fun t d hd=>by
  rcases c2F hd with ⟨h1,h2⟩ | h1
  ·rcases h2 with h2 | rfl
   ·exact hs.get t d h2
   ·exact .any _
  ·obtain ⟨h2,h3⟩:=a9Z h1
   obtain ⟨h4,h5⟩:=mem_rest.1 h2
   exact hs.get t d (by rw [hp t h4 h5];exact h3)⟩
theorem a4D {keep:List Nat} {c:Code} {e:DE} {ds:List D}:c5s keep c e (b1Q (a4r keep c) ds (c2S keep c e)):=fun t h1 h2=>by
 rw [a8R (fun hh=>h2 (mem_outs.1 hh).2)]
 exact a4W (mem_rest.2 ⟨h1,h2⟩)
section
variable {P:Program} {X:Cx}
theorem b3L {R:Type} {d:D} {x y:Option R} {r:R} (h:dIf d x y=some r):∃ b,d = .bool b∧(if b then x else y)=some r:=by
 unfold dIf at h
 split at h
 ·exact ⟨true,rfl,h⟩
 ·exact ⟨false,rfl,h⟩
 ·cases h
theorem a7I {l:List Oper} {id:Nat} {dr:Bool}:a2R (.region id l.toArray dr)=a6u l:=by simp [a2R,a6u]
theorem d0S (hT:TabOK P X.T) (hm:P.follows .mixedOrders=true) {call:a1y} (hc:a2B P X call) {loop:a7A} (hlp:b6c loop) {A:Ann}:∀ (c:Code) (e:DE) (h:Hp) (R:Type) (K:Ex→DE→Hp→Option R) (r:R),cK X call loop A c e h R K=some r →
  ∀ (Q:Exit→Act→World→Prop) (g:Gh) (a:Act),Inv g h→GlOK g X.gl→SatD A.nt g e a→(∀ x e' h' g' a',K x e' h'=some r→c5s A.keep c e e'→Ext g g'→Inv g' h'→SatD A.nt g' e' a'→Q (cv x) a' g'.w)→c.wp P Q a g.w:=by
 intro c
 induction c with
 | skip=>intro e h R K r hk Q g a hi hgl hs hn;exact wp_skip (hn .nrm e h g a hk (fun _ _ _=>rfl) (Ext.refl g) hi hs)
 | label l=>intro e h R K r hk Q g a hi hgl hs hn;exact wp_label (hn .nrm e h g a hk (fun _ _ _=>rfl) (Ext.refl g) hi hs)
 | ret=>intro e h R K r hk Q g a hi hgl hs hn;exact wp_ret (hn .ret e h g a hk (fun _ _ _=>rfl) (Ext.refl g) hi hs)
 | exit i=>intro e h R K r hk Q g a hi hgl hs hn;exact wp_exit (hn (.ext i) e h g a hk (fun _ _ _=>rfl) (Ext.refl g) hi hs)
 | goto l=>intro e h R K r hk;simp [cK] at hk
 | scope b ih=>intro e h R K r hk;simp [cK] at hk
 | refuse w=>intro e h R K r hk;simp [cK] at hk
 | rangeFunc f ps as b ih1 ih2=>intro e h R K r hk;simp [cK] at hk
 | region id ops dr =>
  intro e h R K r hk Q g a hi hgl hs hn
  obtain ⟨l⟩:=ops
  simp only [cK] at hk
  cases dr with
  | false =>
   refine wp_region_lit (b0k hT hc l e h (K .nrm) hk g a hi hgl hs fun e' h' g' a' h1 h2 h3 h4 h5=>?_)
   exact hn .nrm e' h' g' a' h1 (fun t _ ht=>h2 t (by rw [a7I] at ht;exact ht)) h3 h4 h5
  | true =>
   exact c0M hT hm hc hk hi hgl hs fun e' h' g' a' h1 h2 h3 h4 h5=>hn .nrm e' h' g' a' h1 (fun t _ ht=>h2 t (by rw [a7I] at ht;exact ht)) h3 h4 h5
 | seq x y ihx ihy =>
  intro e h R K r hk Q g a hi hgl hs hn
  simp only [cK] at hk
  refine wp_seq (ihx e h R _ r hk _ g a hi hgl hs fun ex e1 h1 g1 a1 hk1 hp1 he1 hi1 hs1=>?_)
  have hp1':∀ t,t∈A.keep→t∉a2R (.seq x y)→lkD e1 t=lkD e t:=fun t h1 h2=>hp1 t h1 (fun hh=>h2 (by simp [a2R,hh]))
  cases ex with
  | nrm =>
   refine ihy e1 h1 R K r hk1 Q g1 a1 hi1 (hgl.ext he1) hs1 fun x2 e2 h2 g2 a2 hk2 hp2 he2 hi2 hs2=>hn x2 e2 h2 g2 a2 hk2 (fun t h1 h2=>?_) (he1.trans he2) hi2 hs2
   rw [hp2 t h1 (fun hh=>h2 (by simp [a2R,hh])),hp1' t h1 h2]
  | ext i=>exact hn (.ext i) e1 h1 g1 a1 hk1 hp1' he1 hi1 hs1
  | ret=>exact hn .ret e1 h1 g1 a1 hk1 hp1' he1 hi1 hs1
 | cond q x y ihx ihy =>
  intro e h R K r hk Q g a hi hgl hs hn
  simp only [cK] at hk
  split at hk
  ·cases hk
  rename_i d hd
  have hrep:Rep g (a.eval q) d:=b7a hgl (fun t d _ ht=>hs.get t d ht) hd
  split at hk
  ·
   obtain ⟨out,hout,hk⟩:=e0J.1 hk
   obtain ⟨b,rfl,hb⟩:=b3L hout
   have hq:a.eval q = .bool b:=by
    generalize hv:a.eval q=v at hrep
    cases hrep;rfl
   have meet:∀ (z:Code) (x1:Ex) (e1:DE) (h1:Hp) (g1:Gh) (a1:Act),(∀ t,t∈a2R z→t∈a2R (.cond q x y))→some (x1,a5d e1 (a4r A.keep (.cond q x y)),h1)=some out→c5s A.keep z e e1→Ext g g1→Inv g1 h1→SatD A.nt g1 e1 a1→Q (cv x1) a1 g1.w:=fun z x1 e1 h1 g1 a1 hz ho hp he hi1 hs1=>by
    injection ho with ho
    subst ho
    have hp':c5s A.keep (.cond q x y) e e1:=fun t h1 h2=>hp t h1 (fun hh=>h2 (hz t hh))
    exact hn x1 _ h1 g1 a1 hk a4D he hi1 (a4U hp' hs1)
   cases b with
   | true=>exact wp_cond_true hq (ihx e h Out _ out hb Q g a hi hgl hs fun x1 e1 h1 g1 a1 ho hp he hi1 hs1=>meet x x1 e1 h1 g1 a1 (fun t ht=>by simp [a2R,ht]) ho hp he hi1 hs1)
   | false=>exact wp_cond_false hq (ihy e h Out _ out hb Q g a hi hgl hs fun x1 e1 h1 g1 a1 ho hp he hi1 hs1=>meet y x1 e1 h1 g1 a1 (fun t ht=>by simp [a2R,ht]) ho hp he hi1 hs1)
  ·obtain ⟨b,rfl,hb⟩:=b3L hk
   have hq:a.eval q = .bool b:=by
    generalize hv:a.eval q=v at hrep
    cases hrep;rfl
   cases b with
   | true=>exact wp_cond_true hq (ihx e h R K r hb Q g a hi hgl hs fun x1 e1 h1 g1 a1 ho hp he hi1 hs1=>hn x1 e1 h1 g1 a1 ho (fun t h1 h2=>hp t h1 (fun hh=>h2 (by simp [a2R,hh]))) he hi1 hs1)
   | false=>exact wp_cond_false hq (ihy e h R K r hb Q g a hi hgl hs fun x1 e1 h1 g1 a1 ho hp he hi1 hs1=>hn x1 e1 h1 g1 a1 ho (fun t h1 h2=>hp t h1 (fun hh=>h2 (by simp [a2R,hh]))) he hi1 hs1)
 | block id b ih =>
  intro e h R K r hk Q g a hi hgl hs hn
  simp only [cK] at hk
  have inb:∀ (x:Ex) (a1:Act) (w1:World),Q (cv (a0G id x)) a1 w1→Exit.inBlock id Q (cv x) a1 w1:=fun x a1 w1 hq=>by
   cases x with
   | nrm=>exact hq
   | ret=>exact hq
   | ext i =>
    simp only [cv,Exit.inBlock]
    by_cases hii:i=id
    ·subst hii
     rw [if_pos rfl]
     simpa [a0G,cv] using hq
    ·rw [if_neg hii]
     have:Nat.beq i id=false:=by
      cases hb:Nat.beq i id with
      | false=>rfl
      | true=>exact absurd (Nat.eq_of_beq_eq_true hb) hii
     simpa [a0G,this,cv] using hq
  split at hk
  ·obtain ⟨out,hout,hk⟩:=e0J.1 hk
   refine wp_block (ih e h Out _ out hout _ g a hi hgl hs fun x1 e1 h1 g1 a1 ho hp he hi1 hs1=>inb _ _ _ ?_)
   injection ho with ho
   subst ho
   exact hn (a0G id x1) _ h1 g1 a1 hk a4D he hi1 (a4U hp hs1)
  ·exact wp_block (ih e h R _ r hk _ g a hi hgl hs fun x1 e1 h1 g1 a1 ho hp he hi1 hs1=>inb _ _ _ (hn (a0G id x1) e1 h1 g1 a1 ho hp he hi1 hs1))
 | loop b ih =>
  intro e h R K r hk Q g a hi hgl hs hn
  simp only [cK] at hk
  obtain ⟨out,hout,hk⟩:=e0J.1 hk
  obtain ⟨n,hn0⟩:=hlp _ _ _ _ hout
  refine wp_loop_ghost (fun m a w=>∃ ds h' g',w=g'.w∧Ext g g'∧Inv g' h'∧SatD A.nt g' (b1Q (a4r A.keep b) ds (c2S A.keep b e)) a∧a3e m (fun ds h'=>cK X call loop A b (b1Q (a4r A.keep b) ds (c2S A.keep b e)) h' Out fun x e' h''=>some (x,a5d e' (a4r A.keep b),h'')) ds h'=some out) n
   ⟨_,h,g,rfl,Ext.refl g,hi,a4U (e':=e) (fun _ _ _=>rfl) hs,hn0⟩ ?_
  rintro m a1 w1 ⟨ds,h1,g1,rfl,he1,hi1,hs1,hl⟩
  cases m with
  | zero=>cases hl
  | succ m =>
   simp only [a3e] at hl
   obtain ⟨o1,ho1,hl⟩:=e0J.1 hl
   refine ih _ h1 Out _ o1 ho1 _ g1 a1 hi1 (hgl.ext he1) hs1 fun x2 e2 h2 g2 a2 ho hp he hi2 hs2=>?_
   injection ho with ho
   subst ho
   simp only at hl
   -- the slots that the round leaves alone
   have hp2:c5s A.keep b e e2:=fun t h1 h2=>by
    rw [hp t h1 h2]
    exact a4D t h1 h2
   cases x2 with
   | nrm=>exact ⟨m,Nat.lt_succ_self m,_,h2,g2,rfl,he1.trans he,hi2,a4U hp2 hs2,hl⟩
   | ext i =>
    injection hl with hl
    subst hl
    exact hn (.ext i) _ h2 g2 a2 hk a4D (he1.trans he) hi2 (a4U hp2 hs2)
   | ret =>
    injection hl with hl
    subst hl
    exact hn .ret _ h2 g2 a2 hk a4D (he1.trans he) hi2 (a4U hp2 hs2)
end
end Go.Pi

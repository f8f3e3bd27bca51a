/- Calls without a bound on their depth: what a program's functions do to data. No program is named here. -/
import Derived.Test.YtkpnnfhodlanjaaGreatDoorPiU
set_option linter.unusedSimpArgs false
set_option linter.unusedVariables false
set_option linter.unnecessarySimpa false
namespace Go.Pi
open Go.Eng
noncomputable def a1K (X:Cx) (F:FuncId→Option FnI):Nat→a0Z
 | 0,_,_,_=>none
 | n+1,f,args,h=>match F f with
  | some fi=>fnK X (a1K X F n) (a2g n) fi args h
  | none=>X.xt f args h
section
variable {P:Program} {X:Cx} {F:FuncId→Option FnI}
theorem b4D (n:Nat):b0R (a2g n):=fun _ _ _ _ h=>⟨n,h⟩
theorem a9o (hT:TabOK P X.T) (hm:P.follows .mixedOrders=true) (hx:a1I P X X.xt) (hF:∀ f fi,F f=some fi→FnOK P f fi):∀ n,a1I P X (a1K X F n)
 | 0=>fun f args h d h' hd=>by cases hd
 | n+1=>fun f args h d h' hd=>by
  simp only [a1K] at hd
  split at hd
  ·rename_i fi hfi
   exact fun g vs hi hgl hr => .inl ⟨(hF f fi hfi).enter _ _,b9O hT hm (a9o hT hm hx hF n) (b4D n) (hF f fi hfi) hd hi hgl hr⟩
  ·exact hx f args h d h' hd
-- more is known with more fuel
def Le {α:Type} (x y:Option α):Prop:=∀ r,x=some r→y=some r
theorem Le.refl {α:Type} (x:Option α):Le x x:=fun _ h=>h
theorem Le.trans {α:Type} {x y z:Option α} (h:Le x y) (k:Le y z):Le x z:=fun r hr=>k r (h r hr)
theorem Le.bind {α β:Type} {x y:Option α} {f g:α→Option β} (h:Le x y) (k:∀ a,Le (f a) (g a)):Le (x.bind f) (y.bind g):=fun r hr=>by
 obtain ⟨a,h1,h2⟩:=c9n.1 hr
 rw [h a h1]
 exact k a r h2
def LeC (c c':a0Z):Prop:=∀ f args h,Le (c f args h) (c' f args h)
def LeL (l l':a4H):Prop:=∀ (b b':List D→Hp→Option Out),(∀ ds h,Le (b ds h) (b' ds h))→∀ ds h,Le (l b ds h) (l' b' ds h)
theorem b3Q {c c':a0Z} (hc:LeC c c') (f:FuncId) (args:List D) (h:Hp):Le (a4J c f args h) (a4J c' f args h):=fun r hr=>by
 unfold a4J at hr ⊢
 split at hr
 ·rename_i d h2 hd
  rw [hc _ _ _ _ hd]
  exact hr
 ·cases hr
theorem b3U {c c':a0Z} (hc:LeC c c') (md:Nat) (f:FuncId) (args:List D) (h:Hp):Le (calls md c f args h) (calls md c' f args h):=by
 unfold calls
 split
 ·exact hc _ _ _
 ·exact b3Q hc _ _ _
 ·exact hc _ _ _
theorem b3S {T:Tab} {c c':a0Z} (hc:LeC c c') (m:String) (ds:List D) (h:Hp):Le (a7m T c m ds h) (a7m T c' m ds h):=by
 unfold a7m
 split
 ·split
  ·exact hc _ _ _
  ·exact Le.refl _
 ·exact Le.refl _
theorem a7n {T:Tab} {c c':a0Z} (hc:LeC c c') (md:Nat) (o:Op) (ds:List D) (h:Hp):Le (a2t T c md o ds h) (a2t T c' md o ds h):=by
 unfold a2t
 simp only [b6K]
 split
 ·split
  ·split
   ·exact b3U hc _ _ _ _
   ·exact Le.refl _
  ·exact b3S hc _ _ _
  ·exact Le.refl _
 ·exact Le.refl _
theorem b9S {g:D} {b:Bool} {h:Hp} {x y:Option (D × Hp)} (hx:Le x y):Le (gdW g b h x) (gdW g b h y):=fun r hr=>by
 unfold gdW at hr ⊢
 split at hr
 ·split at hr
  ·exact hx r hr
  ·exact hr
 ·exact hr
 ·cases hr
theorem c0s {c c':a0Z} (hc:LeC c c') {fz bor:List Nat} {l:List Oper} {o:Oper} {e:DE} {h:Hp}:Le (opR X c fz bor l o e h) (opR X c' fz bor l o e h):=by
 unfold opR
 split
 ·exact Le.refl _
 ·split
  ·split
   ·exact Le.refl _
   ·exact Le.refl _
   ·exact Le.refl _
   ·exact a7n hc _ _ _ _
   ·exact Le.refl _
  ·split
   ·exact Le.refl _
   ·split
    ·exact Le.refl _
    ·split
     ·exact Le.refl _
     ·exact Le.refl _
     ·exact Le.refl _
     ·exact b9S (a7n hc _ _ _ _)
     ·exact Le.refl _
theorem b2L {R:Type} {nt:Nat} {dst:Option Nat} {d:D} {e:DE} {h:Hp} {K K':DE→Hp→Option R} (hK:∀ e h,Le (K e h) (K' e h)):Le (a5P nt dst d e h K) (a5P nt dst d e h K'):=by
 unfold a5P
 split
 ·exact hK _ _
 ·split
  ·exact hK _ _
  ·exact Le.refl _
theorem b2F {R:Type} {c c':a0Z} (hc:LeC c c') {nt:Nat} {fz bor:List Nat} {l:List Oper} {o:Oper} {e:DE} {h:Hp} {K K':DE→Hp→Option R} (hK:∀ e h,Le (K e h) (K' e h)):Le (opK X c nt fz bor l o e h K) (opK X c' nt fz bor l o e h K'):=by
 rw [a9U,a9U]
 exact (c0s hc).bind fun p=>b2L hK
theorem a6X {R:Type} {c c':a0Z} (hc:LeC c c') {nt:Nat} {fz bor:List Nat} {l:List Oper}:∀ {ops:List Oper} {e:DE} {h:Hp} {K K':DE→Hp→Option R},(∀ e h,Le (K e h) (K' e h))→Le (a5i X c nt fz bor l ops e h K) (a5i X c' nt fz bor l ops e h K')
 | [],e,h,K,K',hK=>hK e h
 | [o],e,h,K,K',hK=>b2F hc hK
 | o::p::r,e,h,K,K',hK=>by
  simp only [a5i]
  split
  ·split
   ·exact (Le.refl _).bind fun u=>b2L fun e h=>a6X hc hK
   ·exact Le.refl _
  ·exact b2F hc fun e h=>a6X hc hK
theorem b2Y {R:Type} {c c':a0Z} (hc:LeC c c') {nt:Nat} {fz bor:List Nat} {l:List Oper}:∀ {ops:List Oper} {e:DE} {h:Hp} {hs:List Hp} {K K':DE→Hp→List Hp→Option R},(∀ e h hs,Le (K e h hs) (K' e h hs))→Le (b3u X c nt fz bor l ops e h hs K) (b3u X c' nt fz bor l ops e h hs K')
 | [],e,h,hs,K,K',hK=>hK e h hs
 | o::r,e,h,hs,K,K',hK=>b2F hc fun e h=>b2Y hc hK
theorem b1d {R:Type} {l:List Oper} {e:DE} {hs:List Hp} {x y:Option R} (h:Le x y):∀ {ps:List (Nat × Nat)},Le (b1c X l e hs ps x) (b1c X l e hs ps y)
 | []=>h
 | (i, k)::r=>fun z hz=>by
  simp only [b1c] at hz ⊢
  split at hz
  ·unfold chk at hz ⊢
   split at hz
   ·rename_i hc
    rw [if_pos hc]
    exact b1d h z hz
   ·cases hz
  ·cases hz
theorem a4h {R:Type} {fz:List Nat}:∀ {ops:List Oper} {e:DE} {h:Hp} {K K':DE→Hp→Option R},(∀ e h,Le (K e h) (K' e h))→Le (a1X X fz ops e h K) (a1X X fz ops e h K')
 | [],e,h,K,K',hK=>hK e h
 | o::r,e,h,K,K',hK=>by
  unfold a1X
  split
  ·split
   ·exact a4h hK
   ·exact Le.refl _
  ·exact a4h hK
theorem b4f {R:Type} {c c':a0Z} (hc:LeC c c') {nt:Nat} {fz bor:List Nat} {m:Nat} {l:List Oper} {e:DE} {h:Hp} {K K':DE→Hp→Option R} (hK:∀ e h,Le (K e h) (K' e h)):Le (a5r X c nt fz bor m l e h K) (a5r X c' nt fz bor m l e h K'):=by
 unfold a5r
 split
 ·exact Le.refl _
 ·exact b2Y hc fun e h hs=>b1d (a4h fun e h=>a6X hc hK)
theorem b5n {R:Type} {d:D} {x x' y y':Option R} (hx:Le x x') (hy:Le y y'):Le (dIf d x y) (dIf d x' y'):=by
 unfold dIf
 split
 ·exact hx
 ·exact hy
 ·exact Le.refl _
theorem c2f {c c':a0Z} (hc:LeC c c') {lp lp':a4H} (hl:LeL lp lp') {A:Ann}:∀ (q:Code) {e:DE} {h:Hp} {R:Type} {K K':Ex→DE→Hp→Option R},(∀ x e h,Le (K x e h) (K' x e h))→Le (cK X c lp A q e h R K) (cK X c' lp' A q e h R K'):=by
 intro q
 induction q with
 | skip=>intro e h R K K' hK;exact hK _ _ _
 | label l=>intro e h R K K' hK;exact hK _ _ _
 | ret=>intro e h R K K' hK;exact hK _ _ _
 | exit i=>intro e h R K K' hK;exact hK _ _ _
 | goto l=>intro e h R K K' hK;exact Le.refl _
 | scope b ih=>intro e h R K K' hK;exact Le.refl _
 | refuse w=>intro e h R K K' hK;exact Le.refl _
 | rangeFunc f ps as b ih1 ih2=>intro e h R K K' hK;exact Le.refl _
 | region id ops dr =>
  intro e h R K K' hK
  simp only [cK]
  cases dr with
  | false=>exact a6X hc fun e h=>hK _ _ _
  | true=>exact b4f hc fun e h=>hK _ _ _
 | seq a b iha ihb =>
  intro e h R K K' hK
  simp only [cK]
  refine iha fun x e h=>?_
  cases x with
  | nrm=>exact ihb hK
  | ext i=>exact hK _ _ _
  | ret=>exact hK _ _ _
 | cond t a b iha ihb =>
  intro e h R K K' hK
  simp only [cK]
  split
  ·exact Le.refl _
  ·split
   ·exact (b5n (iha fun _ _ _=>Le.refl _) (ihb fun _ _ _=>Le.refl _)).bind fun r=>hK _ _ _
   ·exact b5n (iha hK) (ihb hK)
 | block id b ih =>
  intro e h R K K' hK
  simp only [cK]
  split
  ·exact (ih fun _ _ _=>Le.refl _).bind fun r=>hK _ _ _
  ·exact ih fun x e h=>hK _ _ _
 | loop b ih =>
  intro e h R K K' hK
  simp only [cK]
  exact (hl _ _ (fun ds h=>ih fun _ _ _=>Le.refl _) _ _).bind fun r=>hK _ _ _
theorem a3S:∀ {n m:Nat},n≤m→LeL (a2g n) (a2g m)
 | 0,m,_=>fun b b' hb ds h r hr=>by cases hr
 | n+1,0,h=>by omega
 | n+1,m+1,h=>fun b b' hb ds hp=>by
  simp only [a2g]
  refine (hb ds hp).bind fun r=>?_
  split
  ·exact a3S (by omega) b b' hb _ _
  ·exact Le.refl _
theorem b5v {c c':a0Z} (hc:LeC c c') {lp lp':a4H} (hl:LeL lp lp') {fi:FnI} {args:List D} {h:Hp}:Le (fnK X c lp fi args h) (fnK X c' lp' fi args h):=by
 unfold fnK
 split
 ·exact c2f hc hl _ fun _ _ _=>Le.refl _
 ·exact Le.refl _
theorem a4w:∀ {n m:Nat},n≤m→LeC (a1K X F n) (a1K X F m)
 | 0,m,_=>fun f args h r hr=>by cases hr
 | n+1,0,h=>by omega
 | n+1,m+1,h=>fun f args hp=>by
  simp only [a1K]
  split
  ·exact b5v (a4w (by omega)) (a3S (by omega))
  ·exact Le.refl _
open Classical in
noncomputable def run (X:Cx) (F:FuncId→Option FnI):a0Z:=fun f args h=>if hx:∃ n r,a1K X F n f args h=some r then some (Classical.choose (Classical.choose_spec hx)) else none
open Classical in
noncomputable def a0z:a4H:=fun body ds h=>if hx:∃ n r,a2g n body ds h=some r then some (Classical.choose (Classical.choose_spec hx)) else none
theorem run_iff {f:FuncId} {args:List D} {h:Hp} {r:D × Hp}:run X F f args h=some r↔∃ n,a1K X F n f args h=some r:=by
 unfold run
 constructor
 ·intro hr
  split at hr
  ·rename_i hx
   injection hr with hr
   exact ⟨_,by rw [Classical.choose_spec (Classical.choose_spec hx),hr]⟩
  ·cases hr
 ·rintro ⟨n,hn⟩
  have hx:∃ n r,a1K X F n f args h=some r:=⟨n,r,hn⟩
  rw [dif_pos hx]
  have h1:=Classical.choose_spec (Classical.choose_spec hx)
  have h2:=a4w (Nat.le_max_left (Classical.choose hx) n) f args h _ h1
  have h3:=a4w (Nat.le_max_right (Classical.choose hx) n) f args h _ hn
  rw [h2] at h3
  exact h3
theorem loopW_iff {body:List D→Hp→Option Out} {ds:List D} {h:Hp} {r:Out}:a0z body ds h=some r↔∃ n,a2g n body ds h=some r:=by
 unfold a0z
 constructor
 ·intro hr
  split at hr
  ·rename_i hx
   injection hr with hr
   exact ⟨_,by rw [Classical.choose_spec (Classical.choose_spec hx),hr]⟩
  ·cases hr
 ·rintro ⟨n,hn⟩
  have hx:∃ n r,a2g n body ds h=some r:=⟨n,r,hn⟩
  rw [dif_pos hx]
  have h1:=Classical.choose_spec (Classical.choose_spec hx)
  have h2:=a3S (Nat.le_max_left (Classical.choose hx) n) body body (fun _ _=>Le.refl _) ds h _ h1
  have h3:=a3S (Nat.le_max_right (Classical.choose hx) n) body body (fun _ _=>Le.refl _) ds h _ hn
  rw [h2] at h3
  exact h3
theorem b2H {α:Type} {x y:Option α} (h1:Le x y) (h2:Le y x):x=y:=by
 cases x with
 | some r=>exact (h1 r rfl).symm
 | none =>
  cases y with
  | none=>rfl
  | some r=>exact h2 r rfl
theorem a1w (body:List D→Hp→Option Out) (ds:List D) (h:Hp):a0z body ds h=(body ds h).bind fun r=>match r.1 with
  | .nrm=>a0z body r.2.1 r.2.2
  | x=>some (x,r.2.1,r.2.2):=by
 refine b2H (fun r hr=>?_) (fun r hr=>?_)
 ·obtain ⟨n,hn⟩:=loopW_iff.1 hr
  cases n with
  | zero=>cases hn
  | succ n =>
   simp only [a2g] at hn
   obtain ⟨o,h1,h2⟩:=c9n.1 hn
   rw [h1,Option.bind_some]
   split at h2
   ·rename_i hx
    rw [hx]
    exact loopW_iff.2 ⟨n,h2⟩
   ·rename_i hx
    cases hx':o.1 with
    | nrm=>exact absurd hx' hx
    | ext i=>rw [hx'] at h2;exact h2
    | ret=>rw [hx'] at h2;exact h2
 ·obtain ⟨o,h1,h2⟩:=c9n.1 hr
  split at h2
  ·rename_i hx
   obtain ⟨n,hn⟩:=loopW_iff.1 h2
   refine loopW_iff.2 ⟨n+1,?_⟩
   simp only [a2g,h1,Option.bind_some,hx]
   exact hn
  ·rename_i hx
   refine loopW_iff.2 ⟨1,?_⟩
   simp only [a2g,h1,Option.bind_some]
   cases hx':o.1 with
   | nrm=>exact absurd hx' hx
   | ext i=>rw [hx'] at h2;exact h2
   | ret=>rw [hx'] at h2;exact h2
-- what comes to something comes to it with some fuel
def Sup {α:Type} (x:Option α) (xs:Nat→Option α):Prop:=∀ r,x=some r→∃ n,∀ m,n≤m→xs m=some r
theorem Sup.const {α:Type} (x:Option α):Sup x fun _=>x:=fun r h=>⟨0,fun _ _=>h⟩
theorem Sup.bind {α β:Type} {x:Option α} {xs:Nat→Option α} {f:α→Option β} {fs:Nat→α→Option β} (h:Sup x xs) (k:∀ a,Sup (f a) fun n=>fs n a):Sup (x.bind f) fun n=>(xs n).bind (fs n):=fun r hr=>by
 obtain ⟨a,h1,h2⟩:=c9n.1 hr
 obtain ⟨n,hn⟩:=h a h1
 obtain ⟨m,hm⟩:=k a r h2
 exact ⟨max n m,fun q hq=>by
  show (xs q).bind (fs q)=_
  rw [hn q (by omega),Option.bind_some];exact hm q (by omega)⟩
theorem a6W (f:FuncId) (args:List D) (h:Hp):Sup (run X F f args h) fun n=>a1K X F n f args h:=fun r hr=>by
 obtain ⟨n,hn⟩:=run_iff.1 hr
 exact ⟨n,fun m hm=>a4w hm f args h r hn⟩
theorem b0Z (f:FuncId) (args:List D) (h:Hp):Sup (a4J (run X F) f args h) fun n=>a4J (a1K X F n) f args h:=fun r hr=>by
 unfold a4J at hr
 split at hr
 ·rename_i d h2 hd
  obtain ⟨n,hn⟩:=a6W _ _ _ _ hd
  exact ⟨n,fun m hm=>by show a4J _ _ _ _=_;unfold a4J;have:=hn m hm;simp only at this;rw [this];exact hr⟩
 ·cases hr
theorem b1b (md:Nat) (f:FuncId) (args:List D) (h:Hp):Sup (calls md (run X F) f args h) fun n=>calls md (a1K X F n) f args h:=by
 unfold calls
 split
 ·exact a6W _ _ _
 ·exact b0Z _ _ _
 ·exact a6W _ _ _
theorem b1a {T:Tab} (m:String) (ds:List D) (h:Hp):Sup (a7m T (run X F) m ds h) fun n=>a7m T (a1K X F n) m ds h:=by
 unfold a7m
 split
 ·split
  ·exact a6W _ _ _
  ·exact Sup.const _
 ·exact Sup.const _
theorem a5v {T:Tab} (md:Nat) (o:Op) (ds:List D) (h:Hp):Sup (a2t T (run X F) md o ds h) fun n=>a2t T (a1K X F n) md o ds h:=by
 unfold a2t
 simp only [b6K]
 split
 ·split
  ·split
   ·exact b1b _ _ _ _
   ·exact Sup.const _
  ·exact b1a _ _ _
  ·exact Sup.const _
 ·exact Sup.const _
theorem b6I {g:D} {b:Bool} {h:Hp} {x:Option (D × Hp)} {xs:Nat→Option (D × Hp)} (hx:Sup x xs):Sup (gdW g b h x) fun n=>gdW g b h (xs n):=by
 unfold gdW
 split
 ·split
  ·exact hx
  ·exact Sup.const _
 ·exact Sup.const _
 ·exact Sup.const _
theorem opR_sup {fz bor:List Nat} {l:List Oper} {o:Oper} {e:DE} {h:Hp}:Sup (opR X (run X F) fz bor l o e h) fun n=>opR X (a1K X F n) fz bor l o e h:=by
 unfold opR
 split
 ·exact Sup.const _
 ·split
  ·split
   ·exact Sup.const _
   ·exact Sup.const _
   ·exact Sup.const _
   ·exact a5v _ _ _ _
   ·exact Sup.const _
  ·split
   ·exact Sup.const _
   ·split
    ·exact Sup.const _
    ·split
     ·exact Sup.const _
     ·exact Sup.const _
     ·exact Sup.const _
     ·exact b6I (a5v _ _ _ _)
     ·exact Sup.const _
section
variable {R:Type}
theorem a9X {nt:Nat} {dst:Option Nat} {d:D} {e:DE} {h:Hp} {K:DE→Hp→Option R} {Ks:Nat→DE→Hp→Option R} (hK:∀ e h,Sup (K e h) fun n=>Ks n e h):Sup (a5P nt dst d e h K) fun n=>a5P nt dst d e h (Ks n):=by
 unfold a5P
 split
 ·exact hK _ _
 ·split
  ·exact hK _ _
  ·exact Sup.const _
theorem a8B {nt:Nat} {fz bor:List Nat} {l:List Oper} {o:Oper} {e:DE} {h:Hp} {K:DE→Hp→Option R} {Ks:Nat→DE→Hp→Option R} (hK:∀ e h,Sup (K e h) fun n=>Ks n e h):Sup (opK X (run X F) nt fz bor l o e h K) fun n=>opK X (a1K X F n) nt fz bor l o e h (Ks n):=by
 simp only [a9U]
 exact opR_sup.bind fun p=>a9X hK
theorem a4D {nt:Nat} {fz bor:List Nat} {l:List Oper}:∀ {ops:List Oper} {e:DE} {h:Hp} {K:DE→Hp→Option R} {Ks:Nat→DE→Hp→Option R},(∀ e h,Sup (K e h) fun n=>Ks n e h)→Sup (a5i X (run X F) nt fz bor l ops e h K) fun n=>a5i X (a1K X F n) nt fz bor l ops e h (Ks n)
 | [],e,h,K,Ks,hK=>hK e h
 | [o],e,h,K,Ks,hK=>a8B hK
 | o::p::r,e,h,K,Ks,hK=>by
  simp only [a5i]
  split
  ·split
   ·exact (Sup.const _).bind fun u=>a9X (Ks:=fun n e' h'=>a5i X (a1K X F n) nt fz bor l r e' h' (Ks n)) fun e h=>a4D hK
   ·exact Sup.const _
  ·exact a8B (Ks:=fun n e' h'=>a5i X (a1K X F n) nt fz bor l (p::r) e' h' (Ks n)) fun e h=>a4D hK
theorem b0a {nt:Nat} {fz bor:List Nat} {l:List Oper}:∀ {ops:List Oper} {e:DE} {h:Hp} {hs:List Hp} {K:DE→Hp→List Hp→Option R} {Ks:Nat→DE→Hp→List Hp→Option R},(∀ e h hs,Sup (K e h hs) fun n=>Ks n e h hs)→Sup (b3u X (run X F) nt fz bor l ops e h hs K) fun n=>b3u X (a1K X F n) nt fz bor l ops e h hs (Ks n)
 | [],e,h,hs,K,Ks,hK=>hK e h hs
 | o::r,e,h,hs,K,Ks,hK=>a8B (Ks:=fun n e' h'=>b3u X (a1K X F n) nt fz bor l r e' h' (match isW X.T fz o with
  | true=>hs++[h']
  | false=>hs) (Ks n)) fun e h=>b0a hK
theorem a9p {l:List Oper} {e:DE} {hs:List Hp} {x:Option R} {xs:Nat→Option R} (h:Sup x xs):∀ {ps:List (Nat × Nat)},Sup (b1c X l e hs ps x) fun n=>b1c X l e hs ps (xs n)
 | []=>h
 | (i,k)::r=>by
  simp only [b1c]
  split
  ·unfold chk
   split
   ·exact a9p h
   ·exact Sup.const _
  ·exact Sup.const _
theorem a3C {fz:List Nat}:∀ {ops:List Oper} {e:DE} {h:Hp} {K:DE→Hp→Option R} {Ks:Nat→DE→Hp→Option R},(∀ e h,Sup (K e h) fun n=>Ks n e h)→Sup (a1X X fz ops e h K) fun n=>a1X X fz ops e h (Ks n)
 | [],e,h,K,Ks,hK=>hK e h
 | o::r,e,h,K,Ks,hK=>by
  unfold a1X
  split
  ·split
   ·exact a3C hK
   ·exact Sup.const _
  ·exact a3C hK
theorem b1q {nt:Nat} {fz bor:List Nat} {m:Nat} {l:List Oper} {e:DE} {h:Hp} {K:DE→Hp→Option R} {Ks:Nat→DE→Hp→Option R} (hK:∀ e h,Sup (K e h) fun n=>Ks n e h):Sup (a5r X (run X F) nt fz bor m l e h K) fun n=>a5r X (a1K X F n) nt fz bor m l e h (Ks n):=by
 unfold a5r
 split
 ·exact Sup.const _
 ·exact b0a (Ks:=fun n e' h' hs=>b1c X l e' hs (a7c X.T fz m l) (a1X X fz (l.take m) e' h' fun e'' h''=>a5i X (a1K X F n) nt fz bor l (l.drop m) e'' h'' (Ks n))) fun e h hs=>a9p (a3C (Ks:=fun n e'' h''=>a5i X (a1K X F n) nt fz bor l (l.drop m) e'' h'' (Ks n)) fun e h=>a4D hK)
theorem b1i {d:D} {x y:Option R} {xs ys:Nat→Option R} (hx:Sup x xs) (hy:Sup y ys):Sup (dIf d x y) fun n=>dIf d (xs n) (ys n):=by
 unfold dIf
 split
 ·exact hx
 ·exact hy
 ·exact Sup.const _
end
theorem b4F {b:List D→Hp→Option Out} {bs:Nat→List D→Hp→Option Out} (hb:∀ ds h,Sup (b ds h) fun n=>bs n ds h) (ds:List D) (h:Hp):Sup (a0z b ds h) fun n=>a2g n (bs n) ds h:=fun r hr=>by
 obtain ⟨k,hk⟩:=loopW_iff.1 hr
 have key:∀ (k:Nat) (ds:List D) (h:Hp) (r:Out),a2g k b ds h=some r→∃ n,∀ m q,n≤m→k≤q→a2g q (bs m) ds h=some r:=by
  intro k
  induction k with
  | zero=>intro ds h r hr;cases hr
  | succ k ih =>
   intro ds h r hr
   simp only [a2g] at hr
   obtain ⟨o,h1,h2⟩:=c9n.1 hr
   obtain ⟨n1,hn1⟩:=hb ds h o h1
   split at h2
   ·rename_i hx
    obtain ⟨n2,hn2⟩:=ih _ _ _ h2
    refine ⟨max n1 n2,fun m q hm hq=>?_⟩
    obtain ⟨q,rfl⟩:∃ p,q=p+1:=⟨q - 1,by omega⟩
    simp only [a2g]
    have e1:=hn1 m (by omega)
    simp only at e1
    rw [e1,Option.bind_some,hx]
    exact hn2 m q (by omega) (by omega)
   ·refine ⟨n1,fun m q hm hq=>?_⟩
    obtain ⟨q,rfl⟩:∃ p,q=p+1:=⟨q - 1,by omega⟩
    simp only [a2g]
    have e1:=hn1 m (by omega)
    simp only at e1
    rw [e1,Option.bind_some]
    rename_i hx
    cases hx':o.1 with
    | nrm=>exact absurd hx' hx
    | ext i=>rw [hx'] at h2;exact h2
    | ret=>rw [hx'] at h2;exact h2
 obtain ⟨n,hn⟩:=key k ds h r hk
 exact ⟨max n k,fun m hm=>hn m m (by omega) (by omega)⟩
theorem b9l {A:Ann}:∀ (q:Code) {e:DE} {h:Hp} {R:Type} {K:Ex→DE→Hp→Option R} {Ks:Nat→Ex→DE→Hp→Option R},(∀ x e h,Sup (K x e h) fun n=>Ks n x e h)→Sup (cK X (run X F) a0z A q e h R K) fun n=>cK X (a1K X F n) (a2g n) A q e h R (Ks n):=by
 intro q
 induction q with
 | skip=>intro e h R K Ks hK;exact hK _ _ _
 | label l=>intro e h R K Ks hK;exact hK _ _ _
 | ret=>intro e h R K Ks hK;exact hK _ _ _
 | exit i=>intro e h R K Ks hK;exact hK _ _ _
 | goto l=>intro e h R K Ks hK;exact Sup.const _
 | scope b ih=>intro e h R K Ks hK;exact Sup.const _
 | refuse w=>intro e h R K Ks hK;exact Sup.const _
 | rangeFunc f ps as b ih1 ih2=>intro e h R K Ks hK;exact Sup.const _
 | region id ops dr =>
  intro e h R K Ks hK
  simp only [cK]
  cases dr with
  | false=>exact a4D fun e h=>hK _ _ _
  | true=>exact b1q fun e h=>hK _ _ _
 | seq a b iha ihb =>
  intro e h R K Ks hK
  simp only [cK]
  refine iha (Ks:=fun n x e' h'=>a0y x (cK X (a1K X F n) (a2g n) A b e' h' R (Ks n)) fun x=>Ks n x e' h') fun x e h=>?_
  cases x with
  | nrm=>exact ihb hK
  | ext i=>exact hK _ _ _
  | ret=>exact hK _ _ _
 | cond t a b iha ihb =>
  intro e h R K Ks hK
  simp only [cK]
  split
  ·exact Sup.const _
  ·split
   ·exact (b1i (iha (Ks:=fun _ x e' h'=>some (x,a3q e' _,h')) fun _ _ _=>Sup.const _) (ihb (Ks:=fun _ x e' h'=>some (x,a3q e' _,h')) fun _ _ _=>Sup.const _)).bind fun r=>hK _ _ _
   ·exact b1i (iha hK) (ihb hK)
 | block id b ih =>
  intro e h R K Ks hK
  simp only [cK]
  split
  ·exact (ih (Ks:=fun _ x e' h'=>some (a0w id x,a3q e' _,h')) fun _ _ _=>Sup.const _).bind fun r=>hK _ _ _
  ·exact ih (Ks:=fun n x e' h'=>Ks n (a0w id x) e' h') fun x e h=>hK _ _ _
 | loop b ih =>
  intro e h R K Ks hK
  simp only [cK]
  refine (b4F (bs:=fun n ds h'=>cK X (a1K X F n) (a2g n) A b _ h' Out fun x e' h''=>some (x,a3q e' _,h'')) (fun ds h=>ih (Ks:=fun _ x e' h''=>some (x,a3q e' _,h'')) fun _ _ _=>Sup.const _) _ _).bind fun r=>hK _ _ _
theorem b6F {fi:FnI} {args:List D} {h:Hp}:Sup (fnK X (run X F) a0z fi args h) fun n=>fnK X (a1K X F n) (a2g n) fi args h:=by
 unfold fnK
 split
 ·exact b9l _ (Ks:=fun _ x e' h'=>a0M x ((a7X X h' e' fi.res).bind fun ds=>match fi.sc with
      | true=>scope h h' (a0m ds)
      | false=>some (a0m ds,h'))) fun _ _ _=>Sup.const _
 ·exact Sup.const _
theorem c0C:∀ n,LeC (a1K X F n) (run X F):=fun n f args h r hr=>run_iff.2 ⟨n,hr⟩
theorem b4E:∀ n,LeL (a2g n) a0z:=fun n b b' hb ds h r hr=>loopW_iff.2 ⟨n,a3S (Nat.le_refl n) b b' hb ds h r hr⟩
theorem b5M (f:FuncId) (args:List D) (h:Hp):run X F f args h=match F f with
  | some fi=>fnK X (run X F) a0z fi args h
  | none=>X.xt f args h:=by
 refine b2H (fun r hr=>?_) (fun r hr=>?_)
 ·obtain ⟨n,hn⟩:=run_iff.1 hr
  cases n with
  | zero=>cases hn
  | succ n =>
   simp only [a1K] at hn
   split at hn
   ·exact b5v (c0C n) (b4E n) r hn
   ·exact hn
 ·split at hr
  ·rename_i fi hfi
   obtain ⟨n,hn⟩:=b6F r hr
   refine run_iff.2 ⟨n+1,?_⟩
   simp only [a1K,hfi]
   exact hn n (Nat.le_refl n)
  ·rename_i hfi
   refine run_iff.2 ⟨1,?_⟩
   simp only [a1K,hfi]
   exact hr
theorem b5P {f:FuncId} (hf:F f=none) (args:List D) (h:Hp):run X F f args h=X.xt f args h:=by
 rw [b5M,hf]
def b8d {R:Type} (X:Cx) (h:Hp) (e:DE):List ResultVar→(List D→Option R)→Option R
 | [],K=>K []
 | .tmp t::r,K=>match lkD e t with
  | some d=>b8d X h e r fun ds=>K (d::ds)
  | none=>none
 | .cell t ty::r,K=>match lkD e t with
  | some p=>(a0c X.T h ty p).bind fun d=>b8d X h e r fun ds=>K (d::ds)
  | none=>none
theorem a8E {R:Type} (h:Hp) (e:DE):∀ (rs:List ResultVar) (K:List D→Option R),b8d X h e rs K=(a7X X h e rs).bind K
 | [],K=>rfl
 | .tmp t::r,K=>by
  simp only [b8d,a7X]
  cases lkD e t with
  | none=>rfl
  | some d=>simp only [a8E h e r,c8N,Option.bind_some]
 | .cell t ty::r,K=>by
  simp only [b8d,a7X]
  cases lkD e t with
  | none=>rfl
  | some p=>simp only [a8E h e r,c8N,Option.bind_some]
noncomputable def fnR (X:Cx) (call:a0Z) (loop:a4H) (fi:FnI) (args:List D) (h:Hp):Option (D × Hp) :=
 (match Nat.ble args.length fi.A.nt with
 | true=>cK X call loop fi.A fi.body (a8g (List.range args.length) args []) h (D × Hp) fun x e' h'=>a0M x (b8d X h' e' fi.res fun ds=>match fi.sc with
   | true=>scope h h' (a0m ds)
   | false=>some (a0m ds,h'))
 | false=>none)
theorem b5N {f:FuncId} {fi:FnI} (hf:F f=some fi) (args:List D) (h:Hp):run X F f args h=fnR X (run X F) a0z fi args h:=by
 rw [b5M,hf]
 simp only [fnK,fnR,a8E]
 rfl
theorem b5O (hT:TabOK P X.T) (hm:P.follows .mixedOrders=true) (hx:a1I P X X.xt) (hF:∀ f fi,F f=some fi→FnOK P f fi):a1I P X (run X F):=fun f args h d h' hd=>by
 obtain ⟨n,hn⟩:=run_iff.1 hd
 exact a9o hT hm hx hF n f args h d h' hn
end
end Go.Pi

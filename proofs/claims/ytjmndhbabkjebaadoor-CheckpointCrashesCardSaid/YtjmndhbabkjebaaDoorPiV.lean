/- Calls without a bound on their depth: what a program's functions do to data. No program is named here. -/
import Derived.Test.YtjmndhbabkjebaaDoorPiU
set_option linter.unusedSimpArgs false
set_option linter.unusedVariables false
set_option linter.unnecessarySimpa false
namespace Go.Pi
open Go.Eng
noncomputable def a2d (X:Cx) (F:FuncId→Option FnI):Nat→a0W
 | 0,_,_,_=>none
 | n+1,f,args,h=>match F f with
  | some fi=>fnK X (a2d X F n) (a2I n) fi args h
  | none=>X.xt f args h
section
variable {P:Program} {X:Cx} {F:FuncId→Option FnI}
theorem b7w (n:Nat):b3s (a2I n):=fun _ _ _ _ h=>⟨n,h⟩
theorem b1h (hT:TabOK P X.T) (hm:P.follows .mixedOrders=true) (hx:a1V P X X.xt) (hF:∀ f fi,F f=some fi→FnOK P f fi):∀ n,a1V P X (a2d X F n)
 | 0=>fun f args h d h' hd=>by cases hd
 | n+1=>fun f args h d h' hd=>by
  simp only [a2d] at hd
  split at hd
  ·rename_i fi hfi
   exact fun g vs hi hgl hr => .inl ⟨(hF f fi hfi).enter _ _,c2S hT hm (b1h hT hm hx hF n) (b7w n) (hF f fi hfi) hd hi hgl hr⟩
  ·exact hx f args h d h' hd
-- more is known with more fuel
def Le {α:Type} (x y:Option α):Prop:=∀ r,x=some r→y=some r
theorem Le.refl {α:Type} (x:Option α):Le x x:=fun _ h=>h
theorem Le.trans {α:Type} {x y z:Option α} (h:Le x y) (k:Le y z):Le x z:=fun r hr=>k r (h r hr)
theorem Le.bind {α β:Type} {x y:Option α} {f g:α→Option β} (h:Le x y) (k:∀ a,Le (f a) (g a)):Le (x.bind f) (y.bind g):=fun r hr=>by
 obtain ⟨a,h1,h2⟩:=d1c.1 hr
 rw [h a h1]
 exact k a r h2
def LeC (c c':a0W):Prop:=∀ f args h,Le (c f args h) (c' f args h)
def LeL (l l':a6q):Prop:=∀ (b b':List D→Hp→Option Out),(∀ ds h,Le (b ds h) (b' ds h))→∀ ds h,Le (l b ds h) (l' b' ds h)
theorem b6I {c c':a0W} (hc:LeC c c') (f:FuncId) (args:List D) (h:Hp):Le (a3K c f args h) (a3K c' f args h):=fun r hr=>by
 unfold a3K at hr ⊢
 split at hr
 ·rename_i d h2 hd
  rw [hc _ _ _ _ hd]
  exact hr
 ·cases hr
theorem b6N {c c':a0W} (hc:LeC c c') (md:Nat) (f:FuncId) (args:List D) (h:Hp):Le (calls md c f args h) (calls md c' f args h):=by
 unfold calls
 split
 ·exact hc _ _ _
 ·exact b6I hc _ _ _
 ·exact hc _ _ _
theorem b6K {T:Tab} {c c':a0W} (hc:LeC c c') (m:String) (ds:List D) (h:Hp):Le (a2D T c m ds h) (a2D T c' m ds h):=by
 unfold a2D
 split
 ·split
  ·exact hc _ _ _
  ·exact Le.refl _
 ·exact Le.refl _
theorem a8L {T:Tab} {c c':a0W} (hc:LeC c c') (md:Nat) (o:Op) (ds:List D) (h:Hp):Le (a3l T c md o ds h) (a3l T c' md o ds h):=by
 unfold a3l
 simp only [b9S]
 split
 ·split
  ·split
   ·exact b6N hc _ _ _ _
   ·exact Le.refl _
  ·exact b6K hc _ _ _
  ·exact Le.refl _
 ·exact Le.refl _
theorem c2W {g:D} {b:Bool} {h:Hp} {x y:Option (D × Hp)} (hx:Le x y):Le (gdW g b h x) (gdW g b h y):=fun r hr=>by
 unfold gdW at hr ⊢
 split at hr
 ·split at hr
  ·exact hx r hr
  ·exact hr
 ·exact hr
 ·cases hr
theorem c3D {c c':a0W} (hc:LeC c c') {fz bor:List Nat} {l:List Oper} {o:Oper} {e:DE} {h:Hp}:Le (opR X c fz bor l o e h) (opR X c' fz bor l o e h):=by
 unfold opR
 split
 ·exact Le.refl _
 ·split
  ·split
   ·exact Le.refl _
   ·exact Le.refl _
   ·exact Le.refl _
   ·exact a8L hc _ _ _ _
   ·exact Le.refl _
  ·split
   ·exact Le.refl _
   ·split
    ·exact Le.refl _
    ·split
     ·exact Le.refl _
     ·exact Le.refl _
     ·exact Le.refl _
     ·exact c2W (a8L hc _ _ _ _)
     ·exact Le.refl _
theorem b5M {R:Type} {nt:Nat} {dst:Option Nat} {d:D} {e:DE} {h:Hp} {K K':DE→Hp→Option R} (hK:∀ e h,Le (K e h) (K' e h)):Le (a7x nt dst d e h K) (a7x nt dst d e h K'):=by
 unfold a7x
 split
 ·exact hK _ _
 ·split
  ·exact hK _ _
  ·exact Le.refl _
theorem b5D {R:Type} {c c':a0W} (hc:LeC c c') {nt:Nat} {fz bor:List Nat} {l:List Oper} {o:Oper} {e:DE} {h:Hp} {K K':DE→Hp→Option R} (hK:∀ e h,Le (K e h) (K' e h)):Le (opK X c nt fz bor l o e h K) (opK X c' nt fz bor l o e h K'):=by
 rw [b2f,b2f]
 exact (c3D hc).bind fun p=>b5M hK
theorem a8A {R:Type} {c c':a0W} (hc:LeC c c') {nt:Nat} {fz bor:List Nat} {l:List Oper}:∀ {ops:List Oper} {e:DE} {h:Hp} {K K':DE→Hp→Option R},(∀ e h,Le (K e h) (K' e h))→Le (a6R X c nt fz bor l ops e h K) (a6R X c' nt fz bor l ops e h K')
 | [],e,h,K,K',hK=>hK e h
 | [o],e,h,K,K',hK=>b5D hc hK
 | o::p::r,e,h,K,K',hK=>by
  simp only [a6R]
  split
  ·split
   ·exact (Le.refl _).bind fun u=>b5M fun e h=>a8A hc hK
   ·exact Le.refl _
  ·exact b5D hc fun e h=>a8A hc hK
theorem b5Z {R:Type} {c c':a0W} (hc:LeC c c') {nt:Nat} {fz bor:List Nat} {l:List Oper}:∀ {ops:List Oper} {e:DE} {h:Hp} {hs:List Hp} {K K':DE→Hp→List Hp→Option R},(∀ e h hs,Le (K e h hs) (K' e h hs))→Le (b6t X c nt fz bor l ops e h hs K) (b6t X c' nt fz bor l ops e h hs K')
 | [],e,h,hs,K,K',hK=>hK e h hs
 | o::r,e,h,hs,K,K',hK=>b5D hc fun e h=>b5Z hc hK
theorem b3I {R:Type} {l:List Oper} {e:DE} {hs:List Hp} {x y:Option R} (h:Le x y):∀ {ps:List (Nat × Nat)},Le (b3H X l e hs ps x) (b3H X l e hs ps y)
 | []=>h
 | (i, k)::r=>fun z hz=>by
  simp only [b3H] at hz ⊢
  split at hz
  ·unfold chk at hz ⊢
   split at hz
   ·rename_i hc
    rw [if_pos hc]
    exact b3I h z hz
   ·cases hz
  ·cases hz
theorem a5F {R:Type} {fz:List Nat}:∀ {ops:List Oper} {e:DE} {h:Hp} {K K':DE→Hp→Option R},(∀ e h,Le (K e h) (K' e h))→Le (a2x X fz ops e h K) (a2x X fz ops e h K')
 | [],e,h,K,K',hK=>hK e h
 | o::r,e,h,K,K',hK=>by
  unfold a2x
  split
  ·split
   ·exact a5F hK
   ·exact Le.refl _
  ·exact a5F hK
theorem b7g {R:Type} {c c':a0W} (hc:LeC c c') {nt:Nat} {fz bor:List Nat} {m:Nat} {l:List Oper} {e:DE} {h:Hp} {K K':DE→Hp→Option R} (hK:∀ e h,Le (K e h) (K' e h)):Le (a7f X c nt fz bor m l e h K) (a7f X c' nt fz bor m l e h K'):=by
 unfold a7f
 split
 ·exact Le.refl _
 ·exact b5Z hc fun e h hs=>b3I (a5F fun e h=>a8A hc hK)
theorem b8j {R:Type} {d:D} {x x' y y':Option R} (hx:Le x x') (hy:Le y y'):Le (dIf d x y) (dIf d x' y'):=by
 unfold dIf
 split
 ·exact hx
 ·exact hy
 ·exact Le.refl _
theorem c4P {c c':a0W} (hc:LeC c c') {lp lp':a6q} (hl:LeL lp lp') {A:Ann}:∀ (q:Code) {e:DE} {h:Hp} {R:Type} {K K':Ex→DE→Hp→Option R},(∀ x e h,Le (K x e h) (K' x e h))→Le (cK X c lp A q e h R K) (cK X c' lp' A q e h R K'):=by
 intro q
 induction q with
 | skip=>intro e h R K K' hK;exact hK _ _ _
 | label l=>intro e h R K K' hK;exact hK _ _ _
 | ret=>intro e h R K K' hK;exact hK _ _ _
 | exit i=>intro e h R K K' hK;exact hK _ _ _
 | goto l=>intro e h R K K' hK;exact Le.refl _
 | scope b ih=>intro e h R K K' hK;exact Le.refl _
 | refuse w=>intro e h R K K' hK;exact Le.refl _
 | rangeFunc f ps as b ih1 ih2=>intro e h R K K' hK;exact Le.refl _
 | region id ops dr =>
  intro e h R K K' hK
  simp only [cK]
  cases dr with
  | false=>exact a8A hc fun e h=>hK _ _ _
  | true=>exact b7g hc fun e h=>hK _ _ _
 | seq a b iha ihb =>
  intro e h R K K' hK
  simp only [cK]
  refine iha fun x e h=>?_
  cases x with
  | nrm=>exact ihb hK
  | ext i=>exact hK _ _ _
  | ret=>exact hK _ _ _
 | cond t a b iha ihb =>
  intro e h R K K' hK
  simp only [cK]
  split
  ·exact Le.refl _
  ·split
   ·exact (b8j (iha fun _ _ _=>Le.refl _) (ihb fun _ _ _=>Le.refl _)).bind fun r=>hK _ _ _
   ·exact b8j (iha hK) (ihb hK)
 | block id b ih =>
  intro e h R K K' hK
  simp only [cK]
  split
  ·exact (ih fun _ _ _=>Le.refl _).bind fun r=>hK _ _ _
  ·exact ih fun x e h=>hK _ _ _
 | loop b ih =>
  intro e h R K K' hK
  simp only [cK]
  exact (hl _ _ (fun ds h=>ih fun _ _ _=>Le.refl _) _ _).bind fun r=>hK _ _ _
theorem a5k:∀ {n m:Nat},n≤m→LeL (a2I n) (a2I m)
 | 0,m,_=>fun b b' hb ds h r hr=>by cases hr
 | n+1,0,h=>by omega
 | n+1,m+1,h=>fun b b' hb ds hp=>by
  simp only [a2I]
  refine (hb ds hp).bind fun r=>?_
  split
  ·exact a5k (by omega) b b' hb _ _
  ·exact Le.refl _
theorem b8r {c c':a0W} (hc:LeC c c') {lp lp':a6q} (hl:LeL lp lp') {fi:FnI} {args:List D} {h:Hp}:Le (fnK X c lp fi args h) (fnK X c' lp' fi args h):=by
 unfold fnK
 split
 ·exact c4P hc hl _ fun _ _ _=>Le.refl _
 ·exact Le.refl _
theorem a6c:∀ {n m:Nat},n≤m→LeC (a2d X F n) (a2d X F m)
 | 0,m,_=>fun f args h r hr=>by cases hr
 | n+1,0,h=>by omega
 | n+1,m+1,h=>fun f args hp=>by
  simp only [a2d]
  split
  ·exact b8r (a6c (by omega)) (a5k (by omega))
  ·exact Le.refl _
open Classical in
noncomputable def run (X:Cx) (F:FuncId→Option FnI):a0W:=fun f args h=>if hx:∃ n r,a2d X F n f args h=some r then some (Classical.choose (Classical.choose_spec hx)) else none
open Classical in
noncomputable def a0K:a6q:=fun body ds h=>if hx:∃ n r,a2I n body ds h=some r then some (Classical.choose (Classical.choose_spec hx)) else none
theorem run_iff {f:FuncId} {args:List D} {h:Hp} {r:D × Hp}:run X F f args h=some r↔∃ n,a2d X F n f args h=some r:=by
 unfold run
 constructor
 ·intro hr
  split at hr
  ·rename_i hx
   injection hr with hr
   exact ⟨_,by rw [Classical.choose_spec (Classical.choose_spec hx),hr]⟩
  ·cases hr
 ·rintro ⟨n,hn⟩
  have hx:∃ n r,a2d X F n f args h=some r:=⟨n,r,hn⟩
  rw [dif_pos hx]
  have h1:=Classical.choose_spec (Classical.choose_spec hx)
  have h2:=a6c (Nat.le_max_left (Classical.choose hx) n) f args h _ h1
  have h3:=a6c (Nat.le_max_right (Classical.choose hx) n) f args h _ hn
  rw [h2] at h3
  exact h3
theorem loopW_iff {body:List D→Hp→Option Out} {ds:List D} {h:Hp} {r:Out}:a0K body ds h=some r↔∃ n,a2I n body ds h=some r:=by
 unfold a0K
 constructor
 ·intro hr
  split at hr
  ·rename_i hx
   injection hr with hr
   exact ⟨_,by rw [Classical.choose_spec (Classical.choose_spec hx),hr]⟩
  ·cases hr
 ·rintro ⟨n,hn⟩
  have hx:∃ n r,a2I n body ds h=some r:=⟨n,r,hn⟩
  rw [dif_pos hx]
  have h1:=Classical.choose_spec (Classical.choose_spec hx)
  have h2:=a5k (Nat.le_max_left (Classical.choose hx) n) body body (fun _ _=>Le.refl _) ds h _ h1
  have h3:=a5k (Nat.le_max_right (Classical.choose hx) n) body body (fun _ _=>Le.refl _) ds h _ hn
  rw [h2] at h3
  exact h3
theorem b5F {α:Type} {x y:Option α} (h1:Le x y) (h2:Le y x):x=y:=by
 cases x with
 | some r=>exact (h1 r rfl).symm
 | none =>
  cases y with
  | none=>rfl
  | some r=>exact h2 r rfl
theorem a1S (body:List D→Hp→Option Out) (ds:List D) (h:Hp):a0K body ds h=(body ds h).bind fun r=>match r.1 with
  | .nrm=>a0K body r.2.1 r.2.2
  | x=>some (x,r.2.1,r.2.2):=by
 refine b5F (fun r hr=>?_) (fun r hr=>?_)
 ·obtain ⟨n,hn⟩:=loopW_iff.1 hr
  cases n with
  | zero=>cases hn
  | succ n =>
   simp only [a2I] at hn
   obtain ⟨o,h1,h2⟩:=d1c.1 hn
   rw [h1,Option.bind_some]
   split at h2
   ·rename_i hx
    rw [hx]
    exact loopW_iff.2 ⟨n,h2⟩
   ·rename_i hx
    cases hx':o.1 with
    | nrm=>exact absurd hx' hx
    | ext i=>rw [hx'] at h2;exact h2
    | ret=>rw [hx'] at h2;exact h2
 ·obtain ⟨o,h1,h2⟩:=d1c.1 hr
  split at h2
  ·rename_i hx
   obtain ⟨n,hn⟩:=loopW_iff.1 h2
   refine loopW_iff.2 ⟨n+1,?_⟩
   simp only [a2I,h1,Option.bind_some,hx]
   exact hn
  ·rename_i hx
   refine loopW_iff.2 ⟨1,?_⟩
   simp only [a2I,h1,Option.bind_some]
   cases hx':o.1 with
   | nrm=>exact absurd hx' hx
   | ext i=>rw [hx'] at h2;exact h2
   | ret=>rw [hx'] at h2;exact h2
-- what comes to something comes to it with some fuel
def Sup {α:Type} (x:Option α) (xs:Nat→Option α):Prop:=∀ r,x=some r→∃ n,∀ m,n≤m→xs m=some r
theorem Sup.const {α:Type} (x:Option α):Sup x fun _=>x:=fun r h=>⟨0,fun _ _=>h⟩
theorem Sup.bind {α β:Type} {x:Option α} {xs:Nat→Option α} {f:α→Option β} {fs:Nat→α→Option β} (h:Sup x xs) (k:∀ a,Sup (f a) fun n=>fs n a):Sup (x.bind f) fun n=>(xs n).bind (fs n):=fun r hr=>by
 obtain ⟨a,h1,h2⟩:=d1c.1 hr
 obtain ⟨n,hn⟩:=h a h1
 obtain ⟨m,hm⟩:=k a r h2
 exact ⟨max n m,fun q hq=>by
  show (xs q).bind (fs q)=_
  rw [hn q (by omega),Option.bind_some];exact hm q (by omega)⟩
theorem a8y (f:FuncId) (args:List D) (h:Hp):Sup (run X F f args h) fun n=>a2d X F n f args h:=fun r hr=>by
 obtain ⟨n,hn⟩:=run_iff.1 hr
 exact ⟨n,fun m hm=>a6c hm f args h r hn⟩
theorem b3E (f:FuncId) (args:List D) (h:Hp):Sup (a3K (run X F) f args h) fun n=>a3K (a2d X F n) f args h:=fun r hr=>by
 unfold a3K at hr
 split at hr
 ·rename_i d h2 hd
  obtain ⟨n,hn⟩:=a8y _ _ _ _ hd
  exact ⟨n,fun m hm=>by show a3K _ _ _ _=_;unfold a3K;have:=hn m hm;simp only at this;rw [this];exact hr⟩
 ·cases hr
theorem b3G (md:Nat) (f:FuncId) (args:List D) (h:Hp):Sup (calls md (run X F) f args h) fun n=>calls md (a2d X F n) f args h:=by
 unfold calls
 split
 ·exact a8y _ _ _
 ·exact b3E _ _ _
 ·exact a8y _ _ _
theorem b3F {T:Tab} (m:String) (ds:List D) (h:Hp):Sup (a2D T (run X F) m ds h) fun n=>a2D T (a2d X F n) m ds h:=by
 unfold a2D
 split
 ·split
  ·exact a8y _ _ _
  ·exact Sup.const _
 ·exact Sup.const _
theorem a7k {T:Tab} (md:Nat) (o:Op) (ds:List D) (h:Hp):Sup (a3l T (run X F) md o ds h) fun n=>a3l T (a2d X F n) md o ds h:=by
 unfold a3l
 simp only [b9S]
 split
 ·split
  ·split
   ·exact b3G _ _ _ _
   ·exact Sup.const _
  ·exact b3F _ _ _
  ·exact Sup.const _
 ·exact Sup.const _
theorem b9R {g:D} {b:Bool} {h:Hp} {x:Option (D × Hp)} {xs:Nat→Option (D × Hp)} (hx:Sup x xs):Sup (gdW g b h x) fun n=>gdW g b h (xs n):=by
 unfold gdW
 split
 ·split
  ·exact hx
  ·exact Sup.const _
 ·exact Sup.const _
 ·exact Sup.const _
theorem opR_sup {fz bor:List Nat} {l:List Oper} {o:Oper} {e:DE} {h:Hp}:Sup (opR X (run X F) fz bor l o e h) fun n=>opR X (a2d X F n) fz bor l o e h:=by
 unfold opR
 split
 ·exact Sup.const _
 ·split
  ·split
   ·exact Sup.const _
   ·exact Sup.const _
   ·exact Sup.const _
   ·exact a7k _ _ _ _
   ·exact Sup.const _
  ·split
   ·exact Sup.const _
   ·split
    ·exact Sup.const _
    ·split
     ·exact Sup.const _
     ·exact Sup.const _
     ·exact Sup.const _
     ·exact b9R (a7k _ _ _ _)
     ·exact Sup.const _
section
variable {R:Type}
theorem b2j {nt:Nat} {dst:Option Nat} {d:D} {e:DE} {h:Hp} {K:DE→Hp→Option R} {Ks:Nat→DE→Hp→Option R} (hK:∀ e h,Sup (K e h) fun n=>Ks n e h):Sup (a7x nt dst d e h K) fun n=>a7x nt dst d e h (Ks n):=by
 unfold a7x
 split
 ·exact hK _ _
 ·split
  ·exact hK _ _
  ·exact Sup.const _
theorem b0B {nt:Nat} {fz bor:List Nat} {l:List Oper} {o:Oper} {e:DE} {h:Hp} {K:DE→Hp→Option R} {Ks:Nat→DE→Hp→Option R} (hK:∀ e h,Sup (K e h) fun n=>Ks n e h):Sup (opK X (run X F) nt fz bor l o e h K) fun n=>opK X (a2d X F n) nt fz bor l o e h (Ks n):=by
 simp only [b2f]
 exact opR_sup.bind fun p=>b2j hK
theorem a6m {nt:Nat} {fz bor:List Nat} {l:List Oper}:∀ {ops:List Oper} {e:DE} {h:Hp} {K:DE→Hp→Option R} {Ks:Nat→DE→Hp→Option R},(∀ e h,Sup (K e h) fun n=>Ks n e h)→Sup (a6R X (run X F) nt fz bor l ops e h K) fun n=>a6R X (a2d X F n) nt fz bor l ops e h (Ks n)
 | [],e,h,K,Ks,hK=>hK e h
 | [o],e,h,K,Ks,hK=>b0B hK
 | o::p::r,e,h,K,Ks,hK=>by
  simp only [a6R]
  split
  ·split
   ·exact (Sup.const _).bind fun u=>b2j (Ks:=fun n e' h'=>a6R X (a2d X F n) nt fz bor l r e' h' (Ks n)) fun e h=>a6m hK
   ·exact Sup.const _
  ·exact b0B (Ks:=fun n e' h'=>a6R X (a2d X F n) nt fz bor l (p::r) e' h' (Ks n)) fun e h=>a6m hK
theorem b2n {nt:Nat} {fz bor:List Nat} {l:List Oper}:∀ {ops:List Oper} {e:DE} {h:Hp} {hs:List Hp} {K:DE→Hp→List Hp→Option R} {Ks:Nat→DE→Hp→List Hp→Option R},(∀ e h hs,Sup (K e h hs) fun n=>Ks n e h hs)→Sup (b6t X (run X F) nt fz bor l ops e h hs K) fun n=>b6t X (a2d X F n) nt fz bor l ops e h hs (Ks n)
 | [],e,h,hs,K,Ks,hK=>hK e h hs
 | o::r,e,h,hs,K,Ks,hK=>b0B (Ks:=fun n e' h'=>b6t X (a2d X F n) nt fz bor l r e' h' (match isW X.T fz o with
  | true=>hs++[h']
  | false=>hs) (Ks n)) fun e h=>b2n hK
theorem b1i {l:List Oper} {e:DE} {hs:List Hp} {x:Option R} {xs:Nat→Option R} (h:Sup x xs):∀ {ps:List (Nat × Nat)},Sup (b3H X l e hs ps x) fun n=>b3H X l e hs ps (xs n)
 | []=>h
 | (i,k)::r=>by
  simp only [b3H]
  split
  ·unfold chk
   split
   ·exact b1i h
   ·exact Sup.const _
  ·exact Sup.const _
theorem a4K {fz:List Nat}:∀ {ops:List Oper} {e:DE} {h:Hp} {K:DE→Hp→Option R} {Ks:Nat→DE→Hp→Option R},(∀ e h,Sup (K e h) fun n=>Ks n e h)→Sup (a2x X fz ops e h K) fun n=>a2x X fz ops e h (Ks n)
 | [],e,h,K,Ks,hK=>hK e h
 | o::r,e,h,K,Ks,hK=>by
  unfold a2x
  split
  ·split
   ·exact a4K hK
   ·exact Sup.const _
  ·exact a4K hK
theorem b4b {nt:Nat} {fz bor:List Nat} {m:Nat} {l:List Oper} {e:DE} {h:Hp} {K:DE→Hp→Option R} {Ks:Nat→DE→Hp→Option R} (hK:∀ e h,Sup (K e h) fun n=>Ks n e h):Sup (a7f X (run X F) nt fz bor m l e h K) fun n=>a7f X (a2d X F n) nt fz bor m l e h (Ks n):=by
 unfold a7f
 split
 ·exact Sup.const _
 ·exact b2n (Ks:=fun n e' h' hs=>b3H X l e' hs (a8E X.T fz m l) (a2x X fz (l.take m) e' h' fun e'' h''=>a6R X (a2d X F n) nt fz bor l (l.drop m) e'' h'' (Ks n))) fun e h hs=>b1i (a4K (Ks:=fun n e'' h''=>a6R X (a2d X F n) nt fz bor l (l.drop m) e'' h'' (Ks n)) fun e h=>a6m hK)
theorem b3R {d:D} {x y:Option R} {xs ys:Nat→Option R} (hx:Sup x xs) (hy:Sup y ys):Sup (dIf d x y) fun n=>dIf d (xs n) (ys n):=by
 unfold dIf
 split
 ·exact hx
 ·exact hy
 ·exact Sup.const _
end
theorem b7y {b:List D→Hp→Option Out} {bs:Nat→List D→Hp→Option Out} (hb:∀ ds h,Sup (b ds h) fun n=>bs n ds h) (ds:List D) (h:Hp):Sup (a0K b ds h) fun n=>a2I n (bs n) ds h:=fun r hr=>by
 obtain ⟨k,hk⟩:=loopW_iff.1 hr
 have key:∀ (k:Nat) (ds:List D) (h:Hp) (r:Out),a2I k b ds h=some r→∃ n,∀ m q,n≤m→k≤q→a2I q (bs m) ds h=some r:=by
  intro k
  induction k with
  | zero=>intro ds h r hr;cases hr
  | succ k ih =>
   intro ds h r hr
   simp only [a2I] at hr
   obtain ⟨o,h1,h2⟩:=d1c.1 hr
   obtain ⟨n1,hn1⟩:=hb ds h o h1
   split at h2
   ·rename_i hx
    obtain ⟨n2,hn2⟩:=ih _ _ _ h2
    refine ⟨max n1 n2,fun m q hm hq=>?_⟩
    obtain ⟨q,rfl⟩:∃ p,q=p+1:=⟨q - 1,by omega⟩
    simp only [a2I]
    have e1:=hn1 m (by omega)
    simp only at e1
    rw [e1,Option.bind_some,hx]
    exact hn2 m q (by omega) (by omega)
   ·refine ⟨n1,fun m q hm hq=>?_⟩
    obtain ⟨q,rfl⟩:∃ p,q=p+1:=⟨q - 1,by omega⟩
    simp only [a2I]
    have e1:=hn1 m (by omega)
    simp only at e1
    rw [e1,Option.bind_some]
    rename_i hx
    cases hx':o.1 with
    | nrm=>exact absurd hx' hx
    | ext i=>rw [hx'] at h2;exact h2
    | ret=>rw [hx'] at h2;exact h2
 obtain ⟨n,hn⟩:=key k ds h r hk
 exact ⟨max n k,fun m hm=>hn m m (by omega) (by omega)⟩
theorem c2w {A:Ann}:∀ (q:Code) {e:DE} {h:Hp} {R:Type} {K:Ex→DE→Hp→Option R} {Ks:Nat→Ex→DE→Hp→Option R},(∀ x e h,Sup (K x e h) fun n=>Ks n x e h)→Sup (cK X (run X F) a0K A q e h R K) fun n=>cK X (a2d X F n) (a2I n) A q e h R (Ks n):=by
 intro q
 induction q with
 | skip=>intro e h R K Ks hK;exact hK _ _ _
 | label l=>intro e h R K Ks hK;exact hK _ _ _
 | ret=>intro e h R K Ks hK;exact hK _ _ _
 | exit i=>intro e h R K Ks hK;exact hK _ _ _
 | goto l=>intro e h R K Ks hK;exact Sup.const _
 | scope b ih=>intro e h R K Ks hK;exact Sup.const _
 | refuse w=>intro e h R K Ks hK;exact Sup.const _
 | rangeFunc f ps as b ih1 ih2=>intro e h R K Ks hK;exact Sup.const _
 | region id ops dr =>
  intro e h R K Ks hK
  simp only [cK]
  cases dr with
  | false=>exact a6m fun e h=>hK _ _ _
  | true=>exact b4b fun e h=>hK _ _ _
 | seq a b iha ihb =>
  intro e h R K Ks hK
  simp only [cK]
  refine iha (Ks:=fun n x e' h'=>a0R x (cK X (a2d X F n) (a2I n) A b e' h' R (Ks n)) fun x=>Ks n x e' h') fun x e h=>?_
  cases x with
  | nrm=>exact ihb hK
  | ext i=>exact hK _ _ _
  | ret=>exact hK _ _ _
 | cond t a b iha ihb =>
  intro e h R K Ks hK
  simp only [cK]
  split
  ·exact Sup.const _
  ·split
   ·exact (b3R (iha (Ks:=fun _ x e' h'=>some (x,a4t e' _,h')) fun _ _ _=>Sup.const _) (ihb (Ks:=fun _ x e' h'=>some (x,a4t e' _,h')) fun _ _ _=>Sup.const _)).bind fun r=>hK _ _ _
   ·exact b3R (iha hK) (ihb hK)
 | block id b ih =>
  intro e h R K Ks hK
  simp only [cK]
  split
  ·exact (ih (Ks:=fun _ x e' h'=>some (a0Q id x,a4t e' _,h')) fun _ _ _=>Sup.const _).bind fun r=>hK _ _ _
  ·exact ih (Ks:=fun n x e' h'=>Ks n (a0Q id x) e' h') fun x e h=>hK _ _ _
 | loop b ih =>
  intro e h R K Ks hK
  simp only [cK]
  refine (b7y (bs:=fun n ds h'=>cK X (a2d X F n) (a2I n) A b _ h' Out fun x e' h''=>some (x,a4t e' _,h'')) (fun ds h=>ih (Ks:=fun _ x e' h''=>some (x,a4t e' _,h'')) fun _ _ _=>Sup.const _) _ _).bind fun r=>hK _ _ _
theorem b9M {fi:FnI} {args:List D} {h:Hp}:Sup (fnK X (run X F) a0K fi args h) fun n=>fnK X (a2d X F n) (a2I n) fi args h:=by
 unfold fnK
 split
 ·exact c2w _ (Ks:=fun _ x e' h'=>a1b x ((a9H X h' e' fi.res).bind fun ds=>match fi.sc with
      | true=>scope h h' (a0i ds)
      | false=>some (a0i ds,h'))) fun _ _ _=>Sup.const _
 ·exact Sup.const _
theorem c3M:∀ n,LeC (a2d X F n) (run X F):=fun n f args h r hr=>run_iff.2 ⟨n,hr⟩
theorem b7x:∀ n,LeL (a2I n) a0K:=fun n b b' hb ds h r hr=>loopW_iff.2 ⟨n,a5k (Nat.le_refl n) b b' hb ds h r hr⟩
theorem b8N (f:FuncId) (args:List D) (h:Hp):run X F f args h=match F f with
  | some fi=>fnK X (run X F) a0K fi args h
  | none=>X.xt f args h:=by
 refine b5F (fun r hr=>?_) (fun r hr=>?_)
 ·obtain ⟨n,hn⟩:=run_iff.1 hr
  cases n with
  | zero=>cases hn
  | succ n =>
   simp only [a2d] at hn
   split at hn
   ·exact b8r (c3M n) (b7x n) r hn
   ·exact hn
 ·split at hr
  ·rename_i fi hfi
   obtain ⟨n,hn⟩:=b9M r hr
   refine run_iff.2 ⟨n+1,?_⟩
   simp only [a2d,hfi]
   exact hn n (Nat.le_refl n)
  ·rename_i hfi
   refine run_iff.2 ⟨1,?_⟩
   simp only [a2d,hfi]
   exact hr
theorem b2m {f:FuncId} (hf:F f=none) (args:List D) (h:Hp):run X F f args h=X.xt f args h:=by
 rw [b8N,hf]
def c1m {R:Type} (X:Cx) (h:Hp) (e:DE):List ResultVar→(List D→Option R)→Option R
 | [],K=>K []
 | .tmp t::r,K=>match lkD e t with
  | some d=>c1m X h e r fun ds=>K (d::ds)
  | none=>none
 | .cell t ty::r,K=>match lkD e t with
  | some p=>(a0d X.T h ty p).bind fun d=>c1m X h e r fun ds=>K (d::ds)
  | none=>none
theorem b0F {R:Type} (h:Hp) (e:DE):∀ (rs:List ResultVar) (K:List D→Option R),c1m X h e rs K=(a9H X h e rs).bind K
 | [],K=>rfl
 | .tmp t::r,K=>by
  simp only [c1m,a9H]
  cases lkD e t with
  | none=>rfl
  | some d=>simp only [b0F h e r,d0B,Option.bind_some]
 | .cell t ty::r,K=>by
  simp only [c1m,a9H]
  cases lkD e t with
  | none=>rfl
  | some p=>simp only [b0F h e r,d0B,Option.bind_some]
noncomputable def fnR (X:Cx) (call:a0W) (loop:a6q) (fi:FnI) (args:List D) (h:Hp):Option (D × Hp) :=
 (match Nat.ble args.length fi.A.nt with
 | true=>cK X call loop fi.A fi.body (a9S (List.range args.length) args []) h (D × Hp) fun x e' h'=>a1b x (c1m X h' e' fi.res fun ds=>match fi.sc with
   | true=>scope h h' (a0i ds)
   | false=>some (a0i ds,h'))
 | false=>none)
theorem b8O {f:FuncId} {fi:FnI} (hf:F f=some fi) (args:List D) (h:Hp):run X F f args h=fnR X (run X F) a0K fi args h:=by
 rw [b8N,hf]
 simp only [fnK,fnR,b0F]
 rfl
theorem b8P (hT:TabOK P X.T) (hm:P.follows .mixedOrders=true) (hx:a1V P X X.xt) (hF:∀ f fi,F f=some fi→FnOK P f fi):a1V P X (run X F):=fun f args h d h' hd=>by
 obtain ⟨n,hn⟩:=run_iff.1 hd
 exact b1h hT hm hx hF n f args h d h' hn
end
end Go.Pi

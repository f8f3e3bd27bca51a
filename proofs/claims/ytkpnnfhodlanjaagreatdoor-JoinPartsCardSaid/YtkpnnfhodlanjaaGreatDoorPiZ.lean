/- Slices that grow, and the end of a scope: for functions that draw. No program is named here. -/
import Derived.Test.YtkpnnfhodlanjaaGreatDoorPiY
set_option linter.unusedSimpArgs false
set_option linter.unusedVariables false
set_option linter.unnecessarySimpa false
namespace Go.Pi
open Go.Eng
theorem a2B {n b:Nat} (h:n*b≤140737488355328) (h2:n≤9223372036854775807):lim n b=true:=by
 simp only [lim,Bool.and_eq_true]
 exact ⟨Nat.ble_eq_true_of_le h,Nat.ble_eq_true_of_le h2⟩
def Own (h:Hp) (n0 e z:Nat) (rows:List (List D)) (d:D):Prop:=(d = .nils∧rows=[])∨∃ o,n0≤o∧d = .msl z o 0 rows.length∧h[o]?=some (.row e z rows)
theorem Own.nils (h:Hp) (n0 e z:Nat):Own h n0 e z [] .nils := .inl ⟨rfl,rfl⟩
def D.inOb (d:D) (q:Nat):Prop:=∃ z n,d = .msl z q 0 n
theorem Own.keep {h h':Hp} {n0 e z:Nat} {rows:List (List D)} {d:D} (hd:Own h n0 e z rows d) (hk:∀ q,n0≤q→d.inOb q→h'[q]?=h[q]?):Own h' n0 e z rows d:=by
 rcases hd with hd | ⟨o,ho,hd,hg⟩
 ·exact .inl hd
 ·exact .inr ⟨o,ho,hd,by rw [hk o ho ⟨_,_,hd⟩];exact hg⟩
theorem Own.from {h:Hp} {n0 n1 e z:Nat} {rows:List (List D)} {d:D} (hn:n1≤n0) (hd:Own h n0 e z rows d):Own h n1 e z rows d:=by
 rcases hd with hd | ⟨o,ho,hd,hg⟩
 ·exact .inl hd
 ·exact .inr ⟨o,by omega,hd,hg⟩
theorem Own.lt {h:Hp} {n0 e z:Nat} {rows:List (List D)} {d:D} (hd:Own h n0 e z rows d) {q:Nat} (hq:d.inOb q):n0≤q∧q<h.length:=by
 obtain ⟨z',n,rfl⟩:=hq
 rcases hd with ⟨hd,_⟩ | ⟨o,ho,hd,hg⟩
 ·cases hd
 ·injection hd with _ h2
  subst h2
  exact ⟨ho,(c9d.1 hg).1⟩
theorem b3N {T:Tab} {t e:Nat} {i j:TI} (ht:T t=some i) (hi:i.td = .sl e) (he:T e=some j) (hz:0<j.sz) {h:Hp} {n0:Nat} (hn0:n0≤h.length) {rows:List (List D)} {x y:D} (hx:Own h n0 e j.sz rows x)
  {ys:List (List D)} (hy:a1b h j.sz y=some ys) (hl:lim (rows.length+ys.length) j.by_=true) :
  ∃ x' h',a0D T h t t x y=some (x',h')∧Own h' n0 e j.sz (rows++ys) x'∧h.length≤h'.length∧(∀ q,q<h.length→¬ x.inOb q→h'[q]?=h[q]?)∧∀ q,x'.inOb q→x.inOb q∨h.length≤q:=by
 have hz':Nat.blt 0 j.sz=true:=Nat.ble_eq_true_of_le hz
 have hs:b5p h i j y=some ys:=by simp [b5p,hi,hy]
 unfold a0D
 simp only [ht,hi,he,hz',hs]
 cases ys with
 | nil =>
  rcases hx with ⟨rfl,rfl⟩ | ⟨o,ho,rfl,hg⟩
  ·exact ⟨_,_,rfl,.inl ⟨rfl,rfl⟩,Nat.le_refl _,fun _ _ _=>rfl,fun q hq => .inl hq⟩
  ·exact ⟨_,_,rfl,by rw [List.append_nil];exact .inr ⟨o,ho,rfl,hg⟩,Nat.le_refl _,fun _ _ _=>rfl,fun q hq => .inl hq⟩
 | cons y1 yr =>
  rcases hx with ⟨rfl,rfl⟩ | ⟨o,ho,rfl,hg⟩
  ·simp only [c9f,Nat.zero_add] at hl
   simp only [hl,if_true]
   refine ⟨_,_,rfl,.inr ⟨h.length,hn0,by simp,by simp [a1h]⟩,by simp [a1h],fun q hq _=>by simp only [a1h];rw [c9l hq],fun q hq => .inr ?_⟩
   obtain ⟨z,n,hq⟩:=hq
   injection hq with _ h2
   omega
  ·have holt:=(c9d.1 hg).1
   simp only [hg,hl,true_and,and_true,Nat.le_refl,if_true]
   refine ⟨_,_,rfl,.inr ⟨h.length,hn0,by simp,by simp [a1h]⟩,by simp [a1h],fun q hq hne=>?_,fun q hq => .inr ?_⟩
   ·have hqo:o≠q:=fun hh=>hne ⟨_,_,by rw [hh]⟩
    simp only [a1h]
    rw [c9l (by simpa using hq),c9m hqo]
   ·obtain ⟨z,n,hq⟩:=hq
    injection hq with _ h2
    omega
theorem b6h {T:Tab} {t e:Nat} {i j:TI} (ht:T t=some i) (hi:i.td = .sl e) (he:T e=some j) (hz:0<j.sz) {h:Hp} {n0:Nat} (hn0:n0≤h.length) {rows:List (List D)} {x y:D} (hx:Own h n0 e j.sz rows x)
  {ys:List (List D)} (hy:a1b h j.sz y=some ys) (hl:lim (rows.length+ys.length) j.by_=true) :
  ∃ x' h',a0D T h t t x y=some (x',h')∧Own h' n0 e j.sz (rows++ys) x'∧h.length≤h'.length∧(∀ q,q<n0→h'[q]?=h[q]?)∧(∀ q,q<h.length→¬ x.inOb q→h'[q]?=h[q]?)∧∀ q,x'.inOb q→x.inOb q∨h.length≤q:=by
 obtain ⟨x',h',h1,h2,h3,h4,h5⟩:=b3N ht hi he hz hn0 hx hy hl
 exact ⟨x',h',h1,h2,h3,fun q hq=>h4 q (by omega) fun hh=>by have:=(hx.lt hh).1;omega,h4,h5⟩
@[simp] theorem a0O (h:Hp) (z:Nat) (f:Bool) (rows:List (List D)):a1b h z (.sl z f rows)=some rows:=by simp [a1b]
def Same (o:Nat) (h h':Hp):Prop:=h'.length=h.length∧∀ q,q≠o→h'[q]?=h[q]?
theorem Same.refl (o:Nat) (h:Hp):Same o h h:=⟨rfl,fun _ _=>rfl⟩
theorem Same.trans {o:Nat} {h h' h'':Hp} (a:Same o h h') (b:Same o h' h''):Same o h h'':=⟨b.1.trans a.1,fun q hq=>(b.2 q hq).trans (a.2 q hq)⟩
def Grow (n0 o:Nat) (h h':Hp):Prop:=h.length≤h'.length∧∀ q,q<n0→q≠o→h'[q]?=h[q]?
theorem Grow.refl (n0 o:Nat) (h:Hp):Grow n0 o h h:=⟨Nat.le_refl _,fun _ _ _=>rfl⟩
theorem Grow.trans {n0 o:Nat} {h h' h'':Hp} (a:Grow n0 o h h') (b:Grow n0 o h' h''):Grow n0 o h h'':=⟨Nat.le_trans a.1 b.1,fun q hq hn=>(b.2 q hq hn).trans (a.2 q hq hn)⟩
theorem Same.grow {n0 o:Nat} {h h':Hp} (a:Same o h h'):Grow n0 o h h':=⟨Nat.le_of_eq a.1.symm,fun q _ hn=>a.2 q hn⟩
@[simp] theorem a4Y (n0:Nat) (h:Hp) (n:Nat) (k:IntKind) (i:Int):frz n0 h n (.int k i) = .int k i:=by cases n <;> rfl
@[simp] theorem a6H (n0:Nat) (h:Hp) (n:Nat) (s:List UInt8):frz n0 h n (.str s) = .str s:=by cases n <;> rfl
@[simp] theorem c1L (n0:Nat) (h:Hp) (n:Nat) (b:Bool):frz n0 h n (.bool b) = .bool b:=by cases n <;> rfl
@[simp] theorem c1M (n0:Nat) (h:Hp) (n:Nat):frz n0 h n .nils = .nils:=by cases n <;> rfl
@[simp] theorem b1U (n0:Nat) (h:Hp) (n:Nat) (cs:List D):frz n0 h (n+1) (.agg cs) = .agg (cs.map (frz n0 h n)):=rfl
@[simp] theorem c3G (n0:Nat) (h:Hp) (n:Nat) (cs:List D):frz n0 h (n+1) (.tup cs) = .tup (cs.map (frz n0 h n)):=rfl
theorem b9R (n0:Nat) (h:Hp) (n z:Nat) (f:Bool) (rows:List (List D)):frz n0 h (n+1) (.sl z f rows) = .sl z f (rows.map fun row=>row.map (frz n0 h n)):=rfl
theorem a6G {n0:Nat} {h:Hp} {o:Nat} {T z:Nat} {rows:List (List D)} (ho:n0≤o) (hg:h[o]?=some (.row T z rows)) (n s r k:Nat):frz n0 h (n+1) (.msl s o r k) = .sl s false (((rows.drop r).take k).map fun row=>row.map (frz n0 h n)):=by
 have:Nat.ble n0 o=true:=Nat.ble_eq_true_of_le ho
 simp only [frz,this,hg]
theorem a2l {α:Type} {f:α→α}:∀ {l:List α},(∀ x∈l,f x=x)→l.map f=l
 | [],_=>rfl
 | x::l,h=>by rw [c8V,h x (by simp),a2l fun y hy=>h y (by simp [hy])]
theorem b1W {n0:Nat} {h:Hp} {n z:Nat} {f:Bool} {rows:List (List D)} (hr:∀ row∈rows,∀ d∈row,frz n0 h n d=d):frz n0 h (n+1) (.sl z f rows) = .sl z f rows:=by
 rw [b9R,a2l fun row hrow=>a2l (hr row hrow)]
theorem b6H {n0:Nat} {h:Hp} {n n1 e z:Nat} {rows:List (List D)} {d:D} (hd:Own h n1 e z rows d) (hn:n0≤n1) (hr:∀ row∈rows,∀ d∈row,frz n0 h n d=d):(frz n0 h (n+1) d = .nils∧rows=[])∨frz n0 h (n+1) d = .sl z false rows:=by
 rcases hd with ⟨rfl,rfl⟩ | ⟨o,ho,rfl,hg⟩
 ·exact .inl ⟨rfl,rfl⟩
 ·right
  rw [a6G (by omega) hg]
  simp only [List.drop_zero,List.take_length]
  rw [a2l fun row hrow=>a2l (hr row hrow)]
theorem a2D {n0:Nat} {h:Hp} {n n1 e z:Nat} {α:Type} {f:α→List D} {l:List α} {d:D} (hd:Own h n1 e z (l.map f) d) (hn:n0≤n1) (hr:∀ a∈l,∀ d∈f a,frz n0 h n d=d):SlOf z f l (frz n0 h (n+1) d):=by
 rcases b6H hd hn (n:=n) (fun row hrow d hd=>by
  obtain ⟨a,ha,rfl⟩:=c9k.1 hrow
  exact hr a ha d hd) with ⟨h1,h2⟩ | h1
 ·rw [h1]
  exact .inl ⟨rfl,by simpa using h2⟩
 ·rw [h1];exact .mk _ _ _ _
theorem a3o {n0:Nat} {h:Hp} {n z:Nat} {α:Type} {f:α→List D} {l:List α} {d:D} (hd:SlOf z f l d) (hr:∀ a∈l,∀ d∈f a,frz n0 h n d=d):frz n0 h (n+1) d=d:=by
 rcases hd with ⟨rfl,_⟩ | ⟨b,rfl⟩
 ·rfl
 ·exact b1W fun row hrow d hd=>by
    obtain ⟨a,ha,rfl⟩:=c9k.1 hrow
    exact hr a ha d hd
theorem a1C {n z:Nat} {α:Type} {f:α→List D} {l:List α} {d:D} (hd:SlOf z f l d) (hr:∀ a∈l,∀ d∈f a,Ok n d):Ok n d:=by
 rcases hd with ⟨rfl,_⟩ | ⟨b,rfl⟩
 ·exact .nils
 ·exact .sl _ _ _ fun row hrow d hd=>by
    obtain ⟨a,ha,rfl⟩:=c9k.1 hrow
    exact hr a ha d hd
theorem a4E {z:Nat} {α:Type} {f:α→List D} {l:List α} {d:D} (hd:SlOf z f l d):d.one=true:=by
 rcases hd with ⟨rfl,_⟩ | ⟨b,rfl⟩ <;> rfl
theorem a5f {h:Hp} {n0 e z:Nat} {rows:List (List D)} {d:D} (hd:Own h n0 e z rows d):d.one=true:=by
 rcases hd with ⟨rfl,_⟩ | ⟨o,_,rfl,_⟩ <;> rfl
theorem a4g {h h2:Hp} {d d':D} {o:Nat} (hd:frz h.length h2 4 d=d') (hok:Ok h.length d') (hs:Grow h.length o h h2) (ho:∀ T sz rows,h2[o]?=some (.row T sz rows)→∀ row∈rows,∀ d∈row,Ok h.length d) :
  scope h h2 d=some (d',h2.take h.length)∧Same o h (h2.take h.length)∧∀ q,q<h.length→(h2.take h.length)[q]?=h2[q]?:=by
 have hl:h.length≤h2.length:=hs.1
 have ht:∀ q,q<h.length→(h2.take h.length)[q]?=h2[q]?:=fun q hq=>by rw [List.getElem?_take,if_pos hq]
 refine ⟨?_,⟨by simp [hl],fun q hq=>?_⟩,ht⟩
 ·unfold scope
  rw [hd,a1j]
  refine ⟨hok,fun q T sz rows hq hr=>?_⟩
  by_cases hqo:q=o
  ·subst hqo;exact .inr (ho T sz rows hr)
  ·left;rw [← hs.2 q hq hqo];exact hr
 ·by_cases hlt:q<h.length
  ·rw [ht q hlt];exact hs.2 q hlt hq
  ·rw [List.getElem?_eq_none (by simp;omega),List.getElem?_eq_none (by omega)]
theorem a1m {h h2:Hp} {d d':D} (hd:frz h.length h2 4 d=d') (hok:Ok h.length d') (hl:h.length≤h2.length) (hs:∀ q,q<h.length→h2[q]?=h[q]?):scope h h2 d=some (d',h):=by
 have ht:h2.take h.length=h:=List.ext_getElem? fun q=>by
  rw [List.getElem?_take]
  split
  ·rename_i hq;exact hs q hq
  ·rename_i hq;rw [List.getElem?_eq_none (by omega)]
 unfold scope
 rw [hd,ht,a1j]
 exact ⟨hok,fun q T sz rows hq hr => .inl (by rw [← hs q hq];exact hr)⟩
theorem a5k {z:Nat} {α:Type} {f:α→List D} {l:List α} {d:D} (h:Hp) (hd:SlOf z f l d):a1b h z d=some (l.map f):=by
 rcases hd with ⟨rfl,rfl⟩ | ⟨b,rfl⟩
 ·rfl
 ·simp
theorem a2r {α:Type} (l:List α) (v:Int) (h0:0≤v) (h1:v<l.length):∃ s,s∈l∧l[v.toNat]?=some s:=by
 have:v.toNat<l.length:=by omega
 exact ⟨l[v.toNat],List.getElem_mem _,c9c this⟩
theorem b1Z {k:IntKind} {zs:List Int} {d:D} (hd:a3G k zs d) (n:Nat):Ok n d:=by
 rcases hd with ⟨rfl,_⟩ | rfl
 ·exact .nils
 ·refine .sl _ _ _ fun row hrow d hd=>?_
  simp only [a9M,c9k] at hrow
  obtain ⟨z,_,rfl⟩:=hrow
  simp at hd
  subst hd
  exact .int _ _
theorem Own.same {h h':Hp} {n0 e z o:Nat} {rows:List (List D)} {d:D} (hd:Own h n0 e z rows d) (hs:Same o h h') (ho:o<n0):Own h' n0 e z rows d:=hd.keep fun q hq _=>hs.2 q (by omega)
def Wp {α:Type} (x:Option α) (Q:α→Prop):Prop:=∃ a,x=some a∧Q a
theorem Wp.some {α:Type} {a:α} {Q:α→Prop} (h:Q a):Wp (some a) Q:=⟨a,rfl,h⟩
theorem Wp.bind {α β:Type} {x:Option α} {f:α→Option β} {P:α→Prop} {Q:β→Prop} (h:Wp x P) (k:∀ a,P a→Wp (f a) Q):Wp (x.bind f) Q:=by
 obtain ⟨a,rfl,ha⟩:=h
 exact k a ha
theorem Wp.step {α β:Type} {x:Option α} {a:α} {f:α→Option β} {Q:β→Prop} (h:x=Option.some a) (k:Wp (f a) Q):Wp (x.bind f) Q:=by
 subst h
 exact k
theorem Wp.dif {α:Type} {b:Bool} {x y:Option α} {Q:α→Prop} (hx:b=true→Wp x Q) (hy:b=false→Wp y Q):Wp (dIf (.bool b) x y) Q:=by
 cases b
 ·exact hy rfl
 ·exact hx rfl
theorem Wp.join {α β:Type} {b:Bool} {x y:Option α} {f:α→Option β} {P:α→Prop} {Q:β→Prop} (hx:b=true→Wp x P) (hy:b=false→Wp y P) (k:∀ a,P a→Wp (f a) Q):Wp ((dIf (.bool b) x y).bind f) Q:=Wp.bind (Wp.dif hx hy) k
theorem Wp.mono {α:Type} {x:Option α} {P Q:α→Prop} (h:Wp x P) (k:∀ a,P a→Q a):Wp x Q:=by
 obtain ⟨a,rfl,ha⟩:=h
 exact ⟨a,rfl,k a ha⟩
theorem Wp.chk {α:Type} {p:Prop} {x:Option α} {Q:α→Prop} (hp:p) (h:Wp x Q):Wp (chk p x) Q:=by
 rw [a1j p x hp];exact h
theorem Wp.loop {α:Type} {B:List D→Hp→Option Out} {ds:List D} {h:Hp} {K:Out→Option α} {Q:α→Prop} (I:Nat→List D→Hp→Prop) (Post:Out→Prop) (n:Nat) (h0:I n ds h)
  (step:∀ k ds h,I k ds h→Wp (B ds h) fun r=>(r.1 = .nrm∧∃ k',k'<k∧I k' r.2.1 r.2.2)∨(r.1 ≠ .nrm∧Post r)) (k:∀ r,Post r→Wp (K r) Q):Wp ((a0z B ds h).bind K) Q:=by
 obtain ⟨x,ds',h',e,hp⟩:=b2v I (fun x ds h=>Post (x,ds,h)) (fun k ds h hI=>by
  obtain ⟨⟨x,ds',h'⟩,e,hp⟩:=step k ds h hI
  exact ⟨x,ds',h',e,hp⟩) n ds h h0
 rw [e]
 exact k _ hp
theorem a2M {T:Tab} {t e:Nat} {i j:TI} (ht:T t=Option.some i) (hi:i.td = .sl e) (he:T e=Option.some j) (hz:0<j.sz) {h:Hp} {n0:Nat} (hn0:n0≤h.length) {rows:List (List D)} {x y:D} (hx:Own h n0 e j.sz rows x)
  {ys:List (List D)} (hy:a1b h j.sz y=Option.some ys) (hl:lim (rows.length+ys.length) j.by_=true) {β:Type} {f:D × Hp→Option β} {Q:β→Prop}
  (k:∀ x' h',Own h' n0 e j.sz (rows++ys) x'→h.length≤h'.length→(∀ q,q<n0→h'[q]?=h[q]?)→(∀ q,q<h.length→¬ x.inOb q→h'[q]?=h[q]?)→(∀ q,x'.inOb q→x.inOb q∨h.length≤q)→Wp (f (x',h')) Q):Wp ((a0D T h t t x y).bind f) Q:=by
 obtain ⟨x',h',e,h1,h2,h3,h4,h5⟩:=b6h ht hi he hz hn0 hx hy hl
 rw [e]
 exact k x' h' h1 h2 h3 h4 h5
theorem a2Y {n:Nat} {h:Hp} {o T sz kk off:Nat} {rows:List (List D)} {row:List D} {v:D} (ho:h[o]?=Option.some (.row T sz rows)) (hr:rows[kk]?=Option.some row) (hv:(a0A v).length=n) (hl:off+n≤row.length) (hk:v.okv=true) {β:Type} {f:Hp→Option β} {Q:β→Prop}
  (k:∀ h',h'[o]?=Option.some (.row T sz (rows.set kk (spl row off (a0A v))))→Same o h h'→Wp (f h') Q):Wp ((pSt n h (.ptr o kk off) v).bind f) Q:=by
 have hlt:=(c9d.1 ho).1
 have e:pSt n h (.ptr o kk off) v=Option.some (h.set o (.row T sz (rows.set kk (spl row off (a0A v))))):=by
  subst hv
  have h2:Nat.ble (off+(a0A v).length) row.length=true:=Nat.ble_eq_true_of_le hl
  simp only [pSt,ho,hr,Nat.beq_refl,h2,hk,Bool.and_true]
 rw [e]
 exact k _ (by simp [hlt]) ⟨by simp,fun q hq=>c9m (Ne.symm hq)⟩
@[simp] theorem a9s (T:Tab) (t:Nat) (k:IntKind) (a b:Int):a0f T .and t (.int k a) (.int k b)=Option.some (.int k (k.wrap (BitVec.ofInt k.bits a &&& BitVec.ofInt k.bits b).toNat)):=by simp [a0f,a1o]
@[simp] theorem c2j (T:Tab) (t:Nat) (k:IntKind) (a b:Int):a0f T .or t (.int k a) (.int k b)=Option.some (.int k (k.wrap (BitVec.ofInt k.bits a ||| BitVec.ofInt k.bits b).toNat)):=by simp [a0f,a1o]
@[simp] theorem a6z (T:Tab) (t:Nat) (k:IntKind) (a b:Int):a0f T .xor t (.int k a) (.int k b)=Option.some (.int k (k.wrap (BitVec.ofInt k.bits a ^^^ BitVec.ofInt k.bits b).toNat)):=by simp [a0f,a1o]
@[simp] theorem b6s (k:IntKind) (a:Int):dUn .neg (.int k a)=Option.some (.int k (k.wrap (0 - a))):=id rfl
@[simp] theorem c2n (k:IntKind) (a:Int):dUn .xor (.int k a)=Option.some (.int k (k.wrap (BitVec.ofInt k.bits (if k.signed then -1 else k.max) ^^^ BitVec.ofInt k.bits a).toNat)):=id rfl
theorem a1A {h:Hp} {o T sz kk:Nat} {rows:List (List D)} (ho:h[o]?=Option.some (.row T sz rows)):h.row o kk=rows[kk]?:=by simp [Hp.row,ho]
theorem c0t {h:Hp} {n0 e z:Nat} {rows:List (List D)} {d:D} (hd:Own h n0 e z rows d) {i:Nat} (hi:i<rows.length):∃ ob,n0≤ob∧d = .msl z ob 0 rows.length∧h[ob]?=Option.some (.row e z rows):=by
 rcases hd with ⟨rfl,rfl⟩ | ⟨o,ho,hd,hg⟩
 ·simp at hi
 ·exact ⟨o,ho,hd,hg⟩
@[simp] theorem a2W (T:Tab) (o i f:Nat):a0R T (.ptr o i f)=Option.some (.ptr o i f):=id rfl
@[simp] theorem a9t (T:Tab) (t:Nat) (k k2:IntKind) (a b:Int):a0f T .shr t (.int k a) (.int k2 b)=if b<0 then none else some (.int k (a.fdiv (2 ^ (min b.toNat k.bits)))):=id rfl
@[simp] theorem a6y (T:Tab) (t:Nat) (k k2:IntKind) (a b:Int):a0f T .shl t (.int k a) (.int k2 b)=if b<0 then none else some (.int k (k.wrap (a*2 ^ (min b.toNat k.bits)))):=id rfl
theorem a3J (T:Tab) (t:Nat) (s u:List UInt8) (h:s.length+u.length≤9223372036854775807):a0f T .add t (.str s) (.str u)=some (.str (s++u)):=if_pos h
theorem b3d {T:Tab} {t e z:Nat} {i j:TI} (ht:T t=some i) (hi:i.td = .sl e) (he:T e=some j) (hz:j.sz=z) {α:Type} {f:α→List D} {l:List α} {d:D} (hd:SlOf z f l d) {k:IntKind} {n:Int} (h0:0≤n) (h1:n≤l.length) :
  ∃ d',a0E T t false true false [d,.int k n]=some d'∧SlOf z f (l.take n.toNat) d':=by
 simp only [a0E,a1S,bs,a1t,ht,hi,he]
 rcases hd with ⟨rfl,rfl⟩ | ⟨b,rfl⟩
 ·have:n=0:=by simpa using Int.le_antisymm h1 h0
  subst this
  exact ⟨_,rfl,.inl ⟨rfl,rfl⟩⟩
 ·simp [hz,h0,h1]
  right
  exact ⟨_,by rw [List.map_take]⟩
theorem a8F {T:Tab} {t e z:Nat} {i j:TI} (ht:T t=some i) (hi:i.td = .sl e) (he:T e=some j) (hz:j.sz=z) {α:Type} {f:α→List D} {l:List α} {d:D} (hd:SlOf z f l d) {k:IntKind} {n:Int} (h0:0≤n) (h1:n≤l.length) :
  ∃ d',a0E T t true false false [d,.int k n]=some d'∧SlOf z f (l.drop n.toNat) d':=by
 simp only [a0E,a1S,bs,a1t,ht,hi,he]
 rcases hd with ⟨rfl,rfl⟩ | ⟨b,rfl⟩
 ·have:n=0:=by simpa using Int.le_antisymm h1 h0
  subst this
  exact ⟨_,rfl,.inl ⟨rfl,rfl⟩⟩
 ·simp [hz,h0,h1]
  right
  refine ⟨_,congrArg _ ?_⟩
  rw [List.map_drop,List.take_of_length_le (by simp)]
theorem b4n {T:Tab} {t e:Nat} {i j:TI} (ht:T t=some i) (hi:i.td = .sl e) (he:T e=some j) (hz:j.sz=1) {k:IntKind} {zs:List Int} {d:D} (hd:a3G k zs d) {k2:IntKind} {n:Int} (h0:0≤n) (h1:n≤zs.length) :
  ∃ d',a0E T t false true false [d,.int k2 n]=some d'∧a3G k (zs.take n.toNat) d':=by
 simp only [a0E,a1S,bs,a1t,ht,hi,he]
 rcases hd with ⟨rfl,rfl⟩ | rfl
 ·have:n=0:=by simpa using Int.le_antisymm h1 h0
  subst this
  exact ⟨_,rfl,.inl ⟨rfl,rfl⟩⟩
 ·simp [hz,h0,h1,a9M]
  right
  simp [a9M]
theorem a2X {d:D} (h:d.one=true):a0A d=[d]∧d.okv=true:=by cases d <;> first | exact ⟨rfl,rfl⟩ | (simp [D.one] at h)
theorem a7Y:∀ (ds:List D) (k:Nat),(∀ d∈ds,d.one=true)→a8m 1 k (List.range' k ds.length) ds=Option.some (ds.map fun d=>[d])
 | [],k,_=>rfl
 | d::ds,k,h=>by
  have h1:=a2X (h d (by simp))
  have ih:=a7Y ds (k+1) fun x hx=>h x (by simp [hx])
  simp [List.range'_succ,a8m,h1.1,h1.2,ih]
theorem b4C {T:Tab} {t n e:Nat} {i j:TI} (ht:T t=Option.some i) (hi:i.td = .sl e) (he:T e=Option.some j) (hz:j.sz=1) (ds:List D) (hn:ds.length=n) (hn2:n≤16777216) (hk:∀ d∈ds,d.one=true):a0J T t n (List.range n) ds=Option.some (.sl 1 true (ds.map fun d=>[d])):=by
 subst hn
 have h1:(Nat.blt 0 1&&Nat.ble (ds.length*1) 16777216&&Nat.beq (List.range ds.length).length ds.length)=true:=by
  simp only [Nat.mul_one,List.length_range,Bool.and_eq_true]
  exact ⟨⟨rfl,Nat.ble_eq_true_of_le hn2⟩,Nat.beq_refl _⟩
 simp only [a0J,a2d,ht,hi,he,hz,h1]
 rw [List.range_eq_range',a7Y ds 0 hk]
 rfl
theorem b2a {k:IntKind} {zs:List Int} {d:D} (hd:a3G k zs d):d.one=true:=by
 rcases hd with ⟨rfl,_⟩ | rfl <;> rfl
theorem b4Y (e sz:Nat) (h:Hp) (cs:List D) (hl:cs.length=sz) (hz:0<sz):c5d e sz h (.agg cs)=some (.ptr h.length 0 0,a1h h e sz [cs]):=by
 simp [c5d,D.okv,a0A,hl,hz]
theorem a4a (k:IntKind) (n:Int):a0A (.int k n)=[.int k n]:=id rfl
theorem a4b (s:List UInt8):a0A (.str s)=[.str s]:=id rfl
theorem a3z (b:Bool):a0A (.bool b)=[.bool b]:=id rfl
theorem a3j (cs:List D):a0A (.agg cs)=cs:=id rfl
theorem b9h {T:Tab} {t:Nat} {i:TI} {fs:List (Nat × Nat × Nat)} (ht:T t=Option.some i) (hi:i.td = .st fs) {is:List Nat} {ds cs:List D} (h:a4t fs i.zero is ds=Option.some cs):a0N T t is ds=Option.some (.agg cs):=by
 simp only [a0N,ht,hi,h,bs]
theorem a4Q {fs:List (Nat × Nat × Nat)} {cs:List D} {i:Nat} {is:List Nat} {d:D} {ds:List D} {u off sz:Nat} (h1:fs[i]?=Option.some (u,off,sz)) (h2:(a0A d).length=sz) (h3:off+sz≤cs.length) (h4:d.okv=true) :
  a4t fs cs (i::is) (d::ds)=a4t fs (spl cs off (a0A d)) is ds:=by
 have e1:Nat.beq (a0A d).length sz=true:=by rw [h2];exact Nat.beq_refl sz
 have e2:Nat.ble (off+sz) cs.length=true:=Nat.ble_eq_true_of_le h3
 simp only [a4t,h1,e1,e2,h4,Bool.and_self]
theorem c0q {T:Tab} {t e z o r n:Nat} {i j:TI} (ht:T t=some i) (hi:i.td = .sl e) (he:T e=some j) (hz:j.sz=z) (hp:0<z) {k:IntKind} {m:Nat} (h1:m<n) (_:0≤m) :
  a0E T t true false false [.msl z o r n,.int k m]=some (.msl z o (r+m) (n - m)):=by
 have h2:(0:Int)≤(m:Int)∧(m:Int)≤(n:Int)∧(n:Int)≤(n:Int):=by omega
 have h3:(m:Int)<(n:Int):=by omega
 have h4:((n:Int) - (m:Int)).toNat=n - m:=by omega
 have h5:¬ (n<m):=by omega
 simp [a0E,a1S,a1t,ht,hi,he,hz,hp,h3,h4]
 omega
theorem c0p {T:Tab} {t e z o r n:Nat} {i j:TI} (ht:T t=some i) (hi:i.td = .sl e) (he:T e=some j) (hz:j.sz=z) (hp:0<z) {k:IntKind} {m:Nat} (h1:m≤n) :
  a0E T t false true false [.msl z o r n,.int k m]=some (.msl z o r m):=by
 have h3:(m:Int)≤(n:Int):=by omega
 simp [a0E,a1S,a1t,ht,hi,he,hz,hp,h1]
theorem Wp.val {α:Type} {x:Option α} {a:α} (h:Wp x fun p=>p=a):x=Option.some a:=by
 obtain ⟨p,h1,rfl⟩:=h
 exact h1
theorem gx_ {α:Type} {l:List α} {n:Nat} (h:n<l.length):∃ x,l[n]?=Option.some x:=⟨_,c9c h⟩
theorem wi_ (n:Nat) (h:n<9223372036854775807):IntKind.wrap .i64 ((n:Int)+1)=((n+1:Nat):Int):=by
 rw [wrap_i64 (by omega) (by omega)];omega
theorem dl_ {a b:Nat} (h:decide ((a:Int)<(b:Int))=true):a<b:=by
 have:=of_decide_eq_true h
 omega
end Go.Pi

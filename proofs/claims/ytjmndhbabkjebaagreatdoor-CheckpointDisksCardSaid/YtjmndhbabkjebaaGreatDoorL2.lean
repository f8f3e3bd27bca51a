/- Laws, on plain data, about functions that the statement reaches. -/
import Derived.Test.YtjmndhbabkjebaaGreatDoorL1
set_option linter.unusedSimpArgs false
set_option linter.unusedVariables false
set_option linter.unnecessarySimpa false
set_option maxRecDepth 100000
namespace Go.Proofs.YtjmndhbabkjebaaGreatDoor
open Go.Eng Go.Pi
open Option (bind_some)
theorem CtxB.done {α:Type} {S Pre:α→α→Prop} {k:Nat} {X Y Z:List α} (h:CtxB S Pre k X Y) (hZ:Z.Perm Y) (hl:Z.length≤k) (hs:Z.Pairwise S):Blk S Pre k (X++Z):=h Z hZ (.last Z hl hs)
theorem c6W {α:Type} {c:α→α→Int} {S Pre:α→α→Prop} (o:SOrd c S Pre) {A1 A2 B1 B2 C1 C2:List α} (hA:(A1++A2).Pairwise S) (hB:(B1++B2).Pairwise S) (hp:∀ x∈A1++A2,∀ y∈B1++B2,Pre x y)
  (h1:A1=[]∨B2=[]∨∃ x y r s,A1=r++[x]∧B2=y::s∧¬ c y x<0) (h2:A2=[]∨B1=[]∨∃ x y r s,B1=r++[y]∧A2=x::s∧c y x<0)
  (p1:C1.Perm (A1++B1)) (s1:C1.Pairwise S) (p2:C2.Perm (A2++B2)) (s2:C2.Pairwise S):(C1++C2).Perm ((A1++A2)++(B1++B2))∧(C1++C2).Pairwise S:=by
 rw [List.pairwise_append] at hA hB
 have x1:∀ x∈A1,∀ y∈B2,S x y:=by
  intro x hx y hy
  rcases h1 with rfl | rfl | ⟨u,v,r,s,rfl,rfl,huv⟩
  ·cases hx
  ·cases hy
  ·have huv:S u v:=o.ge u v (hp u (by simp) v (by simp)) huv
   have q1:x=u∨S x u:=by
    have:=hA.1
    rw [List.pairwise_append] at this
    rcases d7t.1 hx with hx | hx
    ·exact .inr (this.2.2 x hx u (by simp))
    ·simp at hx;exact .inl hx
   have q2:y=v∨S v y:=by
    have:=hB.2.1
    rw [List.pairwise_cons] at this
    rcases d7s.1 hy with rfl | hy
    ·exact .inl rfl
    ·exact .inr (this.1 y hy)
   rcases q1 with rfl | q1 <;> rcases q2 with rfl | q2
   ·exact huv
   ·exact o.tr _ _ _ huv q2
   ·exact o.tr _ _ _ q1 huv
   ·exact o.tr _ _ _ (o.tr _ _ _ q1 huv) q2
 have x2:∀ y∈B1,∀ x∈A2,S y x:=by
  intro y hy x hx
  rcases h2 with rfl | rfl | ⟨u,v,r,s,rfl,rfl,huv⟩
  ·cases hx
  ·cases hy
  ·have huv:S v u:=o.lt u v (hp u (by simp) v (by simp)) huv
   have q1:y=v∨S y v:=by
    have:=hB.1
    rw [List.pairwise_append] at this
    rcases d7t.1 hy with hy | hy
    ·exact .inr (this.2.2 y hy v (by simp))
    ·simp at hy;exact .inl hy
   have q2:x=u∨S u x:=by
    have:=hA.2.1
    rw [List.pairwise_cons] at this
    rcases d7s.1 hx with rfl | hx
    ·exact .inl rfl
    ·exact .inr (this.1 x hx)
   rcases q1 with rfl | q1 <;> rcases q2 with rfl | q2
   ·exact huv
   ·exact o.tr _ _ _ huv q2
   ·exact o.tr _ _ _ q1 huv
   ·exact o.tr _ _ _ (o.tr _ _ _ q1 huv) q2
 refine ⟨?_,List.pairwise_append.2 ⟨s1,s2,fun a ha b hb=>?_⟩⟩
 ·refine (p1.append p2).trans ?_
  have:(B1++(A2++B2)).Perm (A2++(B1++B2)):=by
   rw [← List.append_assoc,← List.append_assoc]
   exact List.perm_append_comm.append_right B2
  simpa using this.append_left A1
 ·rcases d7t.1 (p1.mem_iff.1 ha) with ha | ha <;> rcases d7t.1 (p2.mem_iff.1 hb) with hb | hb
  ·exact hA.2.2 a ha b hb
  ·exact x1 a ha b hb
  ·exact x2 a ha b hb
  ·exact hB.2.2 a ha b hb
def U8 (z:Int):Prop:=0≤z∧z<256
theorem U8.u32 {z:Int} (h:U8 z):U32 z:=⟨h.1,by have:=h.2;omega⟩
def num (l:List Int):Int:=l.foldl (fun v b=>v*256+b) 0
theorem a7E (n:Int):IntKind.wrap .u8 n=n % 256:=by
 unfold IntKind.wrap
 simp [-bind_some, IntKind.signed,IntKind.bits,IntKind.min,IntKind.max]
def rdN:Nat→List Int→List (List Int) × Nat
 | 0,_=>([],0)
 | k+1,r=>if r.length<8∨(num (r.take 4)).toNat<1∨8388608<(num (r.take 4)).toNat∨r.length - 8<(num (r.take 4)).toNat∨num ((r.drop 4).take 4)≠crc (r.take 4++(r.drop 8).take (num (r.take 4)).toNat) then ([],0)
  else ((r.drop 8).take (num (r.take 4)).toNat::(rdN k (r.drop (8+(num (r.take 4)).toNat))).1,8+(num (r.take 4)).toNat+(rdN k (r.drop (8+(num (r.take 4)).toNat))).2)
def rd (r:List Int):List (List Int) × Nat:=rdN r.length r
def a3H:Nat→Int→List Int
 | 0,_=>[]
 | n+1,v=>IntKind.wrap .u8 (v.fdiv (2 ^ (8*n)))::a3H n v
theorem a1c:∀ (n:Nat) (v:Int),(a3H n v).length=n
 | 0,v=>rfl
 | n+1,v=>by simp [-bind_some, a3H,a1c n v]
theorem a5c:∀ (n:Nat) (v:Int),∀ z∈a3H n v,U8 z
 | 0,v,z,hz=>by cases hz
 | n+1,v,z,hz=>by
  rcases d7s.1 hz with rfl | hz
  ·rw [a7E];unfold U8;omega
  ·exact a5c n v z hz
def sby (s:Str):List Int:=s.map fun c=>(c.toNat:Int)
theorem a6U (s:Str):(sby s).length=s.length:=by simp [-bind_some, sby]
theorem c8f (s:Str):∀ z∈sby s,U8 z:=by
 intro z hz
 obtain ⟨c,_,rfl⟩:=d7u.1 hz
 have:=c.toNat_lt
 unfold U8
 omega
theorem c0T (s:Str):a1g s=(sby s).map byr:=by simp [-bind_some, a1g,sby,byr,List.map_map,Function.comp_def]
structure Bw (n0:Nat) (h:Hp) (d:D) (h':Hp) (l:List Int) (d':D):Prop where
 ow:Own h' n0 ty5 1 (l.map byr) d'
 len:h.length≤h'.length
 old:∀ q,q<h.length→¬ d.inOb q→h'[q]?=h[q]?
 new:∀ q,d'.inOb q→d.inOb q∨h.length≤q
theorem Bw.trans {n0:Nat} {h h1 h2:Hp} {d d1 d2:D} {l1 l2:List Int} (a:Bw n0 h d h1 l1 d1) (b:Bw n0 h1 d1 h2 l2 d2):Bw n0 h d h2 l2 d2 :=
 ⟨b.ow,Nat.le_trans a.len b.len,fun q hq hd=>(b.old q (Nat.lt_of_lt_of_le hq a.len) fun hx=>by rcases a.new q hx with h1 | h1;exact hd h1;omega).trans (a.old q hq hd),
  fun q hq=>by rcases b.new q hq with h1 | h1;exact a.new q h1;exact .inr (Nat.le_trans a.len h1)⟩
theorem Bw.refl {n0:Nat} {h:Hp} {d:D} {l:List Int} (ow:Own h n0 ty5 1 (l.map byr) d):Bw n0 h d h l d:=⟨ow,Nat.le_refl _,fun _ _ _=>rfl,fun _ hq => .inl hq⟩
theorem Bw.low {n0:Nat} {h h':Hp} {d d':D} {l l0:List Int} (b:Bw n0 h d h' l d') (ow:Own h n0 ty5 1 (l0.map byr) d) (hn:n0≤h.length):∀ q,q<n0→h'[q]?=h[q]?:=fun q hq=>b.old q (by omega) fun hx=>by have:=(ow.lt hx).1;omega
theorem b5o {n0:Nat} {h:Hp} {d y:D} {l m:List Int} (hn:n0≤h.length) (ow:Own h n0 ty5 1 (l.map byr) d) (hy:a1R h 1 y=some (m.map byr)) (hl:l.length+m.length≤1000000000):∃ d' h',a0B tab h a0J a0J d y=some (d',h')∧Bw n0 h d h' (l++m) d':=by
 have key:=@b1V h n0 hn (l.map byr) d y ow _ hy (by simp;omega) _ (fun r=>some r) (fun r=>Bw n0 h d r.2 (l++m) r.1) (fun x' h' a b _ c e => .some ⟨by rw [d7d];exact a,b,c,e⟩)
 obtain ⟨⟨x',g⟩,e1,B⟩:=key
 refine ⟨x',g,?_,B⟩
 cases hq:a0B tab h a0J a0J d y with
 | none=>rw [hq] at e1;cases e1
 | some r=>rw [hq] at e1;exact e1
theorem c8W (h:Hp) (x:D) (s:Str):a0B tab h a0J ty9 x (.str s)=a0B tab h a0J a0J x (.sl 1 true (a1g s)):=id rfl
theorem c6n {n0:Nat} {h:Hp} {d:D} {l:List Int} (hn:n0≤h.length) (ow:Own h n0 ty5 1 (l.map byr) d) (s:Str) (hl:l.length+s.length≤1000000000):∃ d' h',a0B tab h a0J ty9 d (.str s)=some (d',h')∧Bw n0 h d h' (l++sby s) d':=by
 rw [c8W,c0T]
 exact b5o hn ow (a1l _ _ _ _) (by rw [a6U];exact hl)
theorem d1R (v:Int) (n0:Nat):∀ (k:Nat),k≤8→∀ (h:Hp) (l:List Int) (d a:D),n0≤h.length→Own h n0 ty5 1 (l.map byr) d→l.length+k≤1000000000→∃ d' h' b,a0N (a7p (.int .u64 v)) [d,.int .i64 ((k:Int) - 1),a] h=some (.ext 0,[d',b,.bool false],h')∧Bw n0 h d h' (l++a3H k v) d':=by
 intro k
 induction k with
 | zero =>
  intro _ h l d a hn ow hr
  rw [a2c]
  refine ⟨d,h,_,by simp [-bind_some, a7p];rfl,?_⟩
  simpa [-bind_some, a3H] using Bw.refl ow
 | succ k ih =>
  intro hk h l d a hn ow hr
  have hg:(0:Int)≤((k+1:Nat):Int) - 1:=by omega
  have hw1:IntKind.wrap .i64 (8*(((k+1:Nat):Int) - 1))=8*(k:Int):=by rw [wrap_i64 (by omega) (by omega)];omega
  have hw2:IntKind.wrap .i64 (((k+1:Nat):Int) - 1 - 1)=(k:Int) - 1:=by rw [wrap_i64 (by omega) (by omega)];omega
  have hw3:IntKind.wrap .u64 (8*(k:Int))=8*(k:Int):=a1s (by omega) (by omega)
  have h8:¬ (8*(k:Int))<0:=by omega
  have hmn:min (8*(k:Int)).toNat IntKind.u64.bits=8*k:=by
   have:IntKind.u64.bits=64:=rfl
   rw [this];omega
  obtain ⟨x',g,e1,B1⟩:=b5o (y := .sl 1 true [byr (IntKind.wrap .u8 (v.fdiv (2 ^ (8*k))))]) (m:=[IntKind.wrap .u8 (v.fdiv (2 ^ (8*k)))]) hn ow (a1l _ _ _ _) (by simp;omega)
  obtain ⟨d',h',b,e2,B2⟩:=ih (by omega) g _ x' (.bool true) (Nat.le_trans hn B1.len) B1.ow (by simp;omega)
  refine ⟨d',h',b,?_,?_⟩
  ·rw [a2c]
   simp only [a7p,a0f,a0o,bs,a3s,decide_eq_true hg,a0c,if_true,a2x,hw1,a7K,hw3,a4j,h8,if_false,hmn,b3L,b6v,show ∀ z,([[D.int .u8 z]]:List (List D))=[byr z] from fun _=>rfl,e1,a0z,hw2]
   exact e2
  ·have:=B1.trans B2
   simpa [-bind_some, a3H] using this
theorem b1R (v:Int) (k:Nat) (hk:k≤8) (n0:Nat) (h:Hp) (l:List Int) (d:D) (hn:n0≤h.length) (ow:Own h n0 ty5 1 (l.map byr) d) (hr:l.length≤999999000):∃ d' h',R a2o [d,.int .u64 v,.int .i64 k] h=some (d',h')∧Bw n0 h d h' (l++a3H k v) d':=by
 obtain ⟨d',h',b,e1,B⟩:=d1R v n0 k hk h l d .any hn ow (by omega)
 refine ⟨d',h',?_,B⟩
 rw [c9V]
 have hw:IntKind.wrap .i64 ((k:Int) - 1)=(k:Int) - 1:=by rw [wrap_i64 (by omega) (by omega)]
 simp only [c5m,bs,a0z,hw,d6W,e1,a0s,a0r,a0f,a0i]
def pI (n:Int):List Int:=a3H 8 (IntKind.wrap .u64 n)
def pN (n:Nat):List Int:=a3H 4 (IntKind.wrap .u64 n)
def pS (s:Str):List Int:=pN s.length++sby s
theorem a1m (n:Int):(pI n).length=8:=a1c _ _
theorem a1H (n:Nat):(pN n).length=4:=a1c _ _
theorem a1M (s:Str):(pS s).length=4+s.length:=by simp [-bind_some, pS,a1H,a6U]
theorem d2O (n:Int) (n0:Nat) (h:Hp) (l:List Int) (d:D) (hn:n0≤h.length) (ow:Own h n0 ty5 1 (l.map byr) d) (hr:l.length≤999999000):∃ d' h',R a4Q [d,.int .i64 n] h=some (d',h')∧Bw n0 h d h' (l++pI n) d':=by
 obtain ⟨d',h',e1,B⟩:=b1R (IntKind.wrap .u64 n) 8 (by omega) n0 h l d hn ow hr
 refine ⟨d',h',?_,B⟩
 rw [c9Y]
 have e1:R a2o [d,.int .u64 (IntKind.wrap .u64 n),.int .i64 8] h=some (d',h'):=e1
 simp only [c5p,bs,a2a,e1,a0i]
theorem d2N (s:Str) (n0:Nat) (h:Hp) (l:List Int) (d:D) (hn:n0≤h.length) (ow:Own h n0 ty5 1 (l.map byr) d) (hr:l.length+s.length≤999998000):∃ d' h',R a6r [d,.str s] h=some (d',h')∧Bw n0 h d h' (l++pS s) d':=by
 obtain ⟨d1,h1,e1,B1⟩:=b1R (IntKind.wrap .u64 s.length) 4 (by omega) n0 h l d hn ow (by omega)
 obtain ⟨d2,h2,e2,B2⟩:=c6n (Nat.le_trans hn B1.len) B1.ow s (by simp [-bind_some, a1c];omega)
 have B:=B1.trans B2
 refine ⟨d2,h2,?_,by simpa [-bind_some, pS,pN] using B⟩
 rw [c9X]
 have e1:R a2o [d,.int .u64 (IntKind.wrap .u64 s.length),.int .i64 4] h=some (d1,h1):=e1
 simp only [c5o,bs,a4X,a2a,e1,e2,a0i]
theorem a6S {n0:Nat} {h0 h:Hp} {d0 d:D} {l:List Int} (B:Bw n0 h0 d0 h l d) (hn:n0≤h.length) (s:Str) (hr:l.length+s.length≤999998000) {β:Type} {f:D × Hp→Option β} {Q:β→Prop}
  (k:∀ d' h',Bw n0 h0 d0 h' (l++pS s) d'→n0≤h'.length→Wp (f (d',h')) Q):Wp ((R a6r [d,.str s] h).bind f) Q:=by
 obtain ⟨d',h',e,B1⟩:=d2N s n0 h l d hn B.ow hr
 exact Wp.step e (k d' h' (B.trans B1) (Nat.le_trans hn B1.len))
theorem a5b {n0:Nat} {h0 h:Hp} {d0 d:D} {l:List Int} (B:Bw n0 h0 d0 h l d) (hn:n0≤h.length) (n:Int) (hr:l.length≤999999000) {β:Type} {f:D × Hp→Option β} {Q:β→Prop}
  (k:∀ d' h',Bw n0 h0 d0 h' (l++pI n) d'→n0≤h'.length→Wp (f (d',h')) Q):Wp ((R a4Q [d,.int .i64 n] h).bind f) Q:=by
 obtain ⟨d',h',e,B1⟩:=d2O n n0 h l d hn B.ow hr
 exact Wp.step e (k d' h' (B.trans B1) (Nat.le_trans hn B1.len))
theorem b8v {n0:Nat} {h0 h:Hp} {d0 d:D} {l:List Int} (B:Bw n0 h0 d0 h l d) (hn:n0≤h.length) (v:Int) (hr:l.length≤999999000) {β:Type} {f:D × Hp→Option β} {Q:β→Prop}
  (k:∀ d' h',Bw n0 h0 d0 h' (l++a3H 4 v) d'→n0≤h'.length→Wp (f (d',h')) Q):Wp ((R a2o [d,.int .u64 v,.int .i64 4] h).bind f) Q:=by
 obtain ⟨d',h',e,B1⟩:=b1R v 4 (by omega) n0 h l d hn B.ow hr
 exact Wp.step e (k d' h' (B.trans B1) (Nat.le_trans hn B1.len))
theorem b3C {n0:Nat} {h0 h:Hp} {d0 d y:D} {l m:List Int} (B:Bw n0 h0 d0 h l d) (hn:n0≤h.length) (hy:a1R h 1 y=some (m.map byr)) (hl:l.length+m.length≤1000000000) {β:Type} {f:D × Hp→Option β} {Q:β→Prop}
  (k:∀ d' h',Bw n0 h0 d0 h' (l++m) d'→n0≤h'.length→Wp (f (d',h')) Q):Wp ((a0B tab h a0J a0J d y).bind f) Q:=by
 obtain ⟨d',h',e,B1⟩:=b5o hn B.ow hy hl
 exact Wp.step e (k d' h' (B.trans B1) (Nat.le_trans hn B1.len))
def lnB (l:Lin):List Int:=pI l.off++pI l.len++pS l.txt
def fdB (f:Str × Str):List Int:=pS f.1++pS f.2
def a3x (i:It):List Int:=pS i.r++pI i.e.a0++pI i.e.a1++pI i.e.a2++pI i.e.a3++pN i.e.ls.length
def a4L (i:It):List Int:=a3x i++(i.e.ls.map lnB).flatten++pI i.e.a5++pI i.e.a6++pS i.e.s7++pS i.e.s8++pN i.e.fs.length
def a1t (i:It):List Int:=a4L i++(i.e.fs.map fdB).flatten
theorem eF0 (e:Ev):a0a tab a0D 0 (.fptr (evr e))=some (.fptr ((evr e).drop 0)):=id rfl
theorem eF1 (e:Ev):a0a tab a0D 1 (.fptr (evr e))=some (.fptr ((evr e).drop 1)):=id rfl
theorem eF2 (e:Ev):a0a tab a0D 2 (.fptr (evr e))=some (.fptr ((evr e).drop 2)):=id rfl
theorem eF3 (e:Ev):a0a tab a0D 3 (.fptr (evr e))=some (.fptr ((evr e).drop 3)):=id rfl
theorem eF4 (e:Ev):a0a tab a0D 4 (.fptr (evr e))=some (.fptr ((evr e).drop 4)):=id rfl
theorem eF5 (e:Ev):a0a tab a0D 5 (.fptr (evr e))=some (.fptr ((evr e).drop 5)):=id rfl
theorem eF6 (e:Ev):a0a tab a0D 6 (.fptr (evr e))=some (.fptr ((evr e).drop 6)):=id rfl
theorem eF7 (e:Ev):a0a tab a0D 7 (.fptr (evr e))=some (.fptr ((evr e).drop 7)):=id rfl
theorem eF8 (e:Ev):a0a tab a0D 8 (.fptr (evr e))=some (.fptr ((evr e).drop 8)):=id rfl
theorem eF9 (e:Ev):a0a tab a0D 9 (.fptr (evr e))=some (.fptr ((evr e).drop 9)):=id rfl
theorem eL0 (e:Ev) (g:Hp):a0b tab g ty3 (.fptr ((evr e).drop 0))=some (.int .i64 e.a0):=id rfl
theorem eL1 (e:Ev) (g:Hp):a0b tab g ty3 (.fptr ((evr e).drop 1))=some (.int .i64 e.a1):=id rfl
theorem eL2 (e:Ev) (g:Hp):a0b tab g ty3 (.fptr ((evr e).drop 2))=some (.int .i64 e.a2):=id rfl
theorem eL3 (e:Ev) (g:Hp):a0b tab g ty3 (.fptr ((evr e).drop 3))=some (.int .i64 e.a3):=id rfl
theorem eL4 (e:Ev) (g:Hp):a0b tab g a1j (.fptr ((evr e).drop 4))=some e.ld:=a9a _ _ _
theorem eL5 (e:Ev) (g:Hp):a0b tab g ty3 (.fptr ((evr e).drop 5))=some (.int .i64 e.a5):=id rfl
theorem eL6 (e:Ev) (g:Hp):a0b tab g ty3 (.fptr ((evr e).drop 6))=some (.int .i64 e.a6):=id rfl
theorem eL7 (e:Ev) (g:Hp):a0b tab g ty9 (.fptr ((evr e).drop 7))=some (.str e.s7):=id rfl
theorem eL8 (e:Ev) (g:Hp):a0b tab g ty9 (.fptr ((evr e).drop 8))=some (.str e.s8):=id rfl
theorem eL9 (e:Ev) (g:Hp):a0b tab g a1d (.fptr ((evr e).drop 9))=some e.fd:=b6i _ _ _
theorem lF0 (l:Lin):a0a tab a1r 0 (.fptr (a1L l))=some (.fptr (a1L l)):=id rfl
theorem lF1 (l:Lin):a0a tab a1r 1 (.fptr (a1L l))=some (.fptr [.int .i64 l.len,.str l.txt]):=id rfl
theorem lF2 (l:Lin):a0a tab a1r 2 (.fptr (a1L l))=some (.fptr [.str l.txt]):=id rfl
theorem lL0 (l:Lin) (g:Hp):a0b tab g ty3 (.fptr (a1L l))=some (.int .i64 l.off):=id rfl
theorem fF0 (p:Str × Str):a0a tab a0x 0 (.fptr (fld p))=some (.fptr (fld p)):=id rfl
theorem fF1 (p:Str × Str):a0a tab a0x 1 (.fptr (fld p))=some (.fptr [.str p.2]):=id rfl
theorem fL0 (p:Str × Str) (g:Hp):a0b tab g ty9 (.fptr (fld p))=some (.str p.1):=id rfl
theorem a1u {α:Type} (f:α→List Int) {l:List α} {n:Nat} {x:α} (h:l[n]?=some x):((l.take (n+1)).map f).flatten=((l.take n).map f).flatten++f x:=by
 rw [d7j,h];simp [-bind_some]
theorem a5L {α:Type} (f:α→List Int) (l:List α) (n:Nat):((l.take n).map f).flatten.length≤(l.map f).flatten.length:=by
 conv=>rhs;rw [← List.take_append_drop n l,d7d,List.flatten_append,d7b]
 omega
theorem d2a (e:Ev) {n0:Nat} {h0 h:Hp} {d0 d:D} {p:List Int} (B:Bw n0 h0 d0 h p d) (hn:n0≤h.length) (hb:p.length+(e.ls.map lnB).flatten.length≤900000000) (x:D) {β:Type} {K:Out→Option β} {Q:β→Prop}
  (k:∀ d' h' a b,Bw n0 h0 d0 h' (p++(e.ls.map lnB).flatten) d'→n0≤h'.length→Wp (K (.ext 0,[d',a,b],h')) Q):Wp ((a0N (a9z (.fptr (evr e))) [d,.int .i64 0,x] h).bind K) Q:=by
 refine Wp.loop (fun k ds g=>n0≤g.length∧∃ d' x,∃ n:Nat,ds=[d',.int .i64 n,x]∧k+n=e.ls.length∧Bw n0 h0 d0 g (p++((e.ls.take n).map lnB).flatten) d')
  (fun r=>r.1 = .ext 0∧n0≤r.2.2.length∧(∃ d' a b,r.2.1=[d',a,b]∧Bw n0 h0 d0 r.2.2 (p++(e.ls.map lnB).flatten) d')) e.ls.length ⟨hn,_,_,0,rfl,rfl,by simpa using B⟩ ?_ ?_
 ·rintro k ds g ⟨hg,d',x,n,rfl,hk,B⟩
  have hll:=e.hll
  simp only [a9z,a0f,a0o,bs,d6W,eF4,eL4,a2O e.hld,a0k]
  refine Wp.dif ?_ ?_
  ·intro h0
   have h0:n<e.ls.length:=dl_ h0
   obtain ⟨l,hl⟩:=gx_ h0
   have hw:=wi_ n (by omega)
   have hle:=a5L lnB e.ls (n+1)
   rw [a1u lnB hl,d7b] at hle
   have hln:(lnB l).length=20+l.txt.length:=by simp [-bind_some, lnB,a1m,a1M];omega
   have hix:a0d tab a1j e.ld (.int .i64 (n:Int))=some (.fptr (a1L l)):=by rw [a7Z e.hld];simp [-bind_some, hl]
   simp only [hix,bs,lF0,lF1,lF2,lL0,ld3,ld9,a1D]
   refine a5b B hg l.off (by simp only [d7b,d7p,a1m,a1H,a1M,a1c];omega) fun d1 g1 B1 n1=>?_
   simp only [bs]
   refine a5b B1 n1 l.len (by simp only [d7b,d7p,a1m,a1H,a1M,a1c];omega) fun d2 g2 B2 n2=>?_
   simp only [bs]
   refine a6S B2 n2 l.txt (by simp only [d7b,d7p,a1m,a1H,a1M,a1c];omega) fun d3 g3 B3 n3=>?_
   simp only [bs,a1D,a0t,hw]
   refine .some (.inl ⟨rfl,k - 1,by omega,n3,_,_,n+1,rfl,by omega,?_⟩)
   rw [a1u lnB hl]
   simpa [-bind_some, lnB] using B3
  ·intro h0
   have h0:n=e.ls.length:=by
    have:¬ (n:Int)<e.ls.length:=by simpa using h0
    omega
   subst h0
   rw [d7v] at B
   exact .some (.inr ⟨by simp,rfl,hg,_,_,_,rfl,B⟩)
 ·rintro ⟨ex,ds,g⟩ ⟨rfl,q2,d',a,b,rfl,q3⟩
  exact k d' g a b q3 q2
theorem d0Y (e:Ev) {n0:Nat} {h0 h:Hp} {d0 d:D} {p:List Int} (B:Bw n0 h0 d0 h p d) (hn:n0≤h.length) (hb:p.length+(e.fs.map fdB).flatten.length≤900000000) (x:D) {β:Type} {K:Out→Option β} {Q:β→Prop}
  (k:∀ d' h' a b,Bw n0 h0 d0 h' (p++(e.fs.map fdB).flatten) d'→n0≤h'.length→Wp (K (.ext 2,[d',a,b],h')) Q):Wp ((a0N (a9A (.fptr (evr e))) [d,.int .i64 0,x] h).bind K) Q:=by
 refine Wp.loop (fun k ds g=>n0≤g.length∧∃ d' x,∃ n:Nat,ds=[d',.int .i64 n,x]∧k+n=e.fs.length∧Bw n0 h0 d0 g (p++((e.fs.take n).map fdB).flatten) d')
  (fun r=>r.1 = .ext 2∧n0≤r.2.2.length∧(∃ d' a b,r.2.1=[d',a,b]∧Bw n0 h0 d0 r.2.2 (p++(e.fs.map fdB).flatten) d')) e.fs.length ⟨hn,_,_,0,rfl,rfl,by simpa using B⟩ ?_ ?_
 ·rintro k ds g ⟨hg,d',x,n,rfl,hk,B⟩
  have hll:=e.hl
  simp only [a9A,a0f,a0o,bs,d6W,eF9,eL9,a2v e.hfd,a0k]
  refine Wp.dif ?_ ?_
  ·intro h0
   have h0:n<e.fs.length:=dl_ h0
   obtain ⟨l,hl⟩:=gx_ h0
   have hw:=wi_ n (by omega)
   have hle:=a5L fdB e.fs (n+1)
   rw [a1u fdB hl,d7b] at hle
   have hln:(fdB l).length=8+l.1.length+l.2.length:=by simp [-bind_some, fdB,a1M];omega
   have hix:a0d tab a1d e.fd (.int .i64 (n:Int))=some (.fptr (fld l)):=by rw [a8C e.hfd];simp [-bind_some, hl]
   simp only [hix,bs,fF0,fF1,fL0,ld9,a1D]
   refine a6S B hg l.1 (by simp only [d7b,d7p,a1m,a1H,a1M,a1c];omega) fun d1 g1 B1 n1=>?_
   simp only [bs]
   refine a6S B1 n1 l.2 (by simp only [d7b,d7p,a1m,a1H,a1M,a1c];omega) fun d3 g3 B3 n3=>?_
   simp only [bs,a1D,a0t,hw]
   refine .some (.inl ⟨rfl,k - 1,by omega,n3,_,_,n+1,rfl,by omega,?_⟩)
   rw [a1u fdB hl]
   simpa [-bind_some, fdB] using B3
  ·intro h0
   have h0:n=e.fs.length:=by
    have:¬ (n:Int)<e.fs.length:=by simpa using h0
    omega
   subst h0
   rw [d7v] at B
   exact .some (.inr ⟨by simp,rfl,hg,_,_,_,rfl,B⟩)
 ·rintro ⟨ex,ds,g⟩ ⟨rfl,q2,d',a,b,rfl,q3⟩
  exact k d' g a b q3 q2
theorem d2M (i:It) (n0:Nat) (h:Hp) (hn:n0≤h.length) (hb:(a1t i).length≤900000000):∃ d' h',R b4j [.agg (itr i)] h=some (d',h')∧Bw n0 h .nils h' (a1t i) d':=by
 suffices Wp (R b4j [.agg (itr i)] h) (fun p=>Bw n0 h .nils p.2 (a1t i) p.1) by
  obtain ⟨⟨x,h'⟩,h1,h2⟩:=this
  exact ⟨x,h',h1,h2⟩
 have hbx:a3o 10 (.agg (evr i.e))=some (.fptr (evr i.e)):=a1Q 10 _ rfl
 have hbb:=hb
 simp only [a1t,a4L,a3x,d7b,a1m,a1H,a1M] at hbb
 rw [c9U]
 simp only [c5l,a1G,bs,d6W,c8I,c8J,c8K,evL,hbx,eF0,eF1,eF2,eF3,eF4,eF5,eF6,eF7,eF8,eF9,eL0,eL1,eL2,eL3,eL4,eL5,eL6,eL7,eL8,eL9,a2O i.e.hld,a2v i.e.hfd,a2a,a1D]
 have B0:Bw n0 h .nils h [] .nils:=Bw.refl (Own.nils _ _ _ _)
 refine a6S B0 hn i.r (by simp only [d7b,d7p,a1m,a1H,a1M,a1c];omega) fun d1 g1 B1 n1=>?_
 simp only [bs]
 refine a5b B1 n1 _ (by simp only [d7b,d7p,a1m,a1H,a1M,a1c];omega) fun d2 g2 B2 n2=>?_
 simp only [bs]
 refine a5b B2 n2 _ (by simp only [d7b,d7p,a1m,a1H,a1M,a1c];omega) fun d3 g3 B3 n3=>?_
 simp only [bs]
 refine a5b B3 n3 _ (by simp only [d7b,d7p,a1m,a1H,a1M,a1c];omega) fun d4 g4 B4 n4=>?_
 simp only [bs]
 refine a5b B4 n4 _ (by simp only [d7b,d7p,a1m,a1H,a1M,a1c];omega) fun d5 g5 B5 n5=>?_
 simp only [bs,a1D]
 refine b8v B5 n5 _ (by simp only [d7b,d7p,a1m,a1H,a1M,a1c];omega) fun d6 g6 B6 n6=>?_
 simp only [bs]
 have hA:[]++pS i.r++pI i.e.a0++pI i.e.a1++pI i.e.a2++pI i.e.a3++a3H 4 (IntKind.wrap .u64 i.e.ls.length)=a3x i:=by simp [-bind_some, a3x,pN]
 rw [hA] at B6
 have hAl:(a3x i).length=4+i.r.length+36:=by simp [-bind_some, a3x,a1M,a1m,a1H]
 refine d2a i.e B6 n6 (by omega) _ fun d7 g7 a b B7 n7=>?_
 simp only [bs,a0s,a0r,a0f]
 refine a5b B7 n7 _ (by simp only [d7b,d7p,a1m,a1H,a1M,a1c];omega) fun d8 g8 B8 n8=>?_
 simp only [bs]
 refine a5b B8 n8 _ (by simp only [d7b,d7p,a1m,a1H,a1M,a1c];omega) fun d9 g9 B9 n9=>?_
 simp only [bs]
 refine a6S B9 n9 _ (by simp only [d7b,d7p,a1m,a1H,a1M,a1c];omega) fun d10 g10 B10 n10=>?_
 simp only [bs]
 refine a6S B10 n10 _ (by simp only [d7b,d7p,a1m,a1H,a1M,a1c];omega) fun d11 g11 B11 n11=>?_
 simp only [bs,a1D]
 refine b8v B11 n11 _ (by simp only [d7b,d7p,a1m,a1H,a1M,a1c];omega) fun d12 g12 B12 n12=>?_
 simp only [bs]
 have hB:a3x i++(i.e.ls.map lnB).flatten++pI i.e.a5++pI i.e.a6++pS i.e.s7++pS i.e.s8++a3H 4 (IntKind.wrap .u64 i.e.fs.length)=a4L i:=by simp [-bind_some, a4L,pN]
 rw [hB] at B12
 have hBl:(a4L i).length=(a3x i).length+(i.e.ls.map lnB).flatten.length+16+(4+i.e.s7.length)+(4+i.e.s8.length)+4:=by simp only [a4L,d7b,a1m,a1M,a1H]
 refine d0Y i.e B12 n12 (by omega) _ fun d13 g13 a b B13 n13=>?_
 simp only [bs,a0s,a0r,a0f,a0i]
 exact .some B13
def RdB (h:Hp) (l:List Int) (d:D):Prop:=SlOf 1 byr l d∨∃ ob,d = .msl 1 ob 0 l.length∧h[ob]?=some (Ob.row ty5 1 (l.map byr))
theorem RdB.own {h:Hp} {n0:Nat} {l:List Int} {d:D} (ow:Own h n0 ty5 1 (l.map byr) d):RdB h l d:=by
 rcases ow with ⟨rfl,hl⟩ | ⟨o,_,rfl,hg⟩
 ·exact .inl (.inl ⟨rfl,by simpa using hl⟩)
 ·exact .inr ⟨o,by simp,hg⟩
theorem a8h {h:Hp} {l:List Int} {d:D} (hd:RdB h l d):a0y tab a0J d=some (.int .i64 l.length):=by
 rcases hd with hd | ⟨ob,rfl,_⟩
 ·exact a1P hd
 ·exact b4E _ _ _ _
theorem b8z {h:Hp} {l:List Int} {d:D} (hd:RdB h l d) (i:Nat) (z:Int) (hz:l[i]?=some z):∃ q,a0d tab a0J d (.int .i64 i)=some q∧a0b tab h ty5 q=some (.int .u8 z):=by
 rcases hd with hd | ⟨ob,rfl,ho⟩
 ·exact ⟨.fptr (byr z),by rw [c0x hd];simp [-bind_some, hz],b3G z h⟩
 ·have hlt:=(d7n.1 hz).1
  refine ⟨.ptr ob (0+i) 0,by rw [c0w];simp [-bind_some, hlt],?_⟩
  rw [d3S,a0O ho,d7k]
  simp [-bind_some, hz,byr]
theorem a4q {h:Hp} {l:List Int} {d:D} (hd:RdB h l d):a1R h 1 d=some (l.map byr):=by
 rcases hd with hd | ⟨ob,rfl,ho⟩
 ·rcases hd with ⟨rfl,rfl⟩ | ⟨b,rfl⟩
  ·rfl
  ·exact a1l _ _ _ _
 ·simp only [a1R,if_true,ho,List.drop_zero]
  rw [List.take_of_length_le (by simp)]
theorem RdB.keep {h h':Hp} {l:List Int} {d:D} (hd:RdB h l d) (hk:∀ (q T z:Nat) (rows:List (List D)),h[q]?=some (Ob.row T z rows)→h'[q]?=h[q]?):RdB h' l d:=by
 rcases hd with hd | ⟨ob,rfl,ho⟩
 ·exact .inl hd
 ·exact .inr ⟨ob,rfl,by rw [hk _ _ _ _ ho];exact ho⟩
def a2z (l:List Int):Int:=l.foldl (fun c z=>(c*31+z) % 4294967291) 1
theorem a7H {l:List Int} {n:Nat} {z:Int} (h:l[n]?=some z):a2z (l.take (n+1))=(a2z (l.take n)*31+z) % 4294967291:=by
 unfold a2z
 rw [d7j,h]
 simp [-bind_some]
theorem a3u:∀ (l:List Int),0≤a2z l∧a2z l<4294967291:=by
 intro l
 unfold a2z
 generalize hc:(1:Int)=c
 have h0:0≤c∧c<4294967291:=by omega
 clear hc
 induction l generalizing c with
 | nil=>exact h0
 | cons z r ih =>
  simp only [List.foldl_cons]
  exact ih _ (by omega)
theorem c7Y (l:List Int) (d:D) (h:Hp) (hdl:a0y tab a0J d=some (.int .i64 l.length)) (hdx:∀ (i:Nat) (z:Int),l[i]?=some z→∃ q,a0d tab a0J d (.int .i64 i)=some q∧a0b tab h ty5 q=some (.int .u8 z)) (hl:l.length≤9223372036854775806) (hu:∀ z∈l,U8 z):R a5E [d] h=some (.int .u64 (a2z l),h):=by
 apply Wp.val
 rw [c9W]
 simp only [c5n,bs,d6W]
 refine Wp.loop (fun k ds g=>g=h∧∃ x,∃ n:Nat,ds=[.int .u64 (a2z (l.take n)),.int .i64 n,x]∧k+n=l.length) (fun r=>r.1 = .ext 0∧r.2.2=h∧∃ a b,r.2.1=[.int .u64 (a2z l),a,b]) l.length ⟨rfl,_,0,rfl,rfl⟩ ?_ ?_
 ·rintro k ds g ⟨rfl,x,n,rfl,hk⟩
  simp only [b3h,a0f,a0o,bs,d6W,hdl,a0k]
  refine Wp.dif ?_ ?_
  ·intro h0
   have h0:n<l.length:=dl_ h0
   obtain ⟨z,hz⟩:=gx_ h0
   have hzu:=hu z (d7l hz)
   obtain ⟨q,q1,q2⟩:=hdx n z hz
   have hr:=a3u (l.take n)
   have hw:=wi_ n (by omega)
   unfold U8 at hzu
   have w1:IntKind.wrap .u64 (a2z (l.take n)*31)=a2z (l.take n)*31:=a1s (by omega) (by omega)
   have w2:IntKind.wrap .u64 z=z:=a1s (by omega) (by omega)
   have w3:IntKind.wrap .u64 (a2z (l.take n)*31+z)=a2z (l.take n)*31+z:=a1s (by omega) (by omega)
   have w4:(a2z (l.take n)*31+z).tmod 4294967291=a2z (l.take (n+1)):=by
    rw [a7H hz,Int.tmod_eq_emod_of_nonneg (by omega)]
   simp only [a2x,w1,q1,q2,a6e,w2,a0t,w3,bs,a3J,show ¬ ((4294967291:Int)=0) by omega,if_false,w4,hw]
   exact .some (.inl ⟨rfl,k - 1,by omega,rfl,_,n+1,rfl,by omega⟩)
  ·intro h0
   have h0:n=l.length:=by
    have:¬ (n:Int)<l.length:=by simpa using h0
    omega
   subst h0
   rw [d7v]
   exact .some (.inr ⟨by simp,rfl,rfl,_,_,rfl⟩)
 ·rintro ⟨ex,ds,g⟩ ⟨rfl,q2,a,b,rfl⟩
  simp only at q2
  subst q2
  simp only [a0s,a0r,bs,a0f,a0i]
  exact .some rfl
theorem c0Q (l:List Int) (d:D) (h:Hp) (hd:RdB h l d) (hl:l.length≤9223372036854775806) (hu:∀ z∈l,U8 z):R a5E [d] h=some (.int .u64 (a2z l),h):=c7Y l d h (a8h hd) (fun i z hz=>b8z hd i z hz) hl hu
theorem b9K (i:It):∀ z∈a1t i,U8 z:=by
 have hI:∀ n,∀ z∈pI n,U8 z:=fun n=>a5c _ _
 have hN:∀ n,∀ z∈pN n,U8 z:=fun n=>a5c _ _
 have hS:∀ s,∀ z∈pS s,U8 z:=fun s z hz=>by
  rcases d7t.1 hz with h | h
  ·exact hN _ z h
  ·exact c8f _ z h
 intro z hz
 simp only [a1t,a4L,a3x,d7t,List.mem_flatten,d7u] at hz
 rcases hz with ((((((((((((h | h) | h) | h) | h) | h) | ⟨_,⟨l,_,rfl⟩,h⟩) | h) | h) | h) | h) | h)) | ⟨_,⟨l,_,rfl⟩,h⟩
 ·exact hS _ z h
 ·exact hI _ z h
 ·exact hI _ z h
 ·exact hI _ z h
 ·exact hI _ z h
 ·exact hN _ z h
 ·simp only [lnB,d7t] at h
  rcases h with (h | h) | h
  ·exact hI _ z h
  ·exact hI _ z h
  ·exact hS _ z h
 ·exact hI _ z h
 ·exact hI _ z h
 ·exact hS _ z h
 ·exact hS _ z h
 ·exact hN _ z h
 ·simp only [fdB,d7t] at h
  rcases h with h | h
  ·exact hS _ z h
  ·exact hS _ z h
def a5x (i:It):List Int:=a3H 4 (IntKind.wrap .u64 (((a1t i).length:Int)+4))++a1t i
def a2M (i:It):List Int:=a5x i++a3H 4 (a2z (a5x i))
theorem b2l (i:It):∀ z∈a5x i,U8 z:=fun z hz=>by
 rcases d7t.1 hz with h | h
 ·exact a5c _ _ z h
 ·exact b9K i z h
theorem c2P (i:It):∀ z∈a2M i,U8 z:=fun z hz=>by
 rcases d7t.1 hz with h | h
 ·exact b2l i z h
 ·exact a5c _ _ z h
theorem a3K (i:It):(a2M i).length=(a1t i).length+8:=by
 simp only [a2M,a5x,d7b,a1c];omega
theorem d1V (i:It) (h:Hp):a0b tab h a0P (.fptr (itr i))=some (.agg (itr i)):=id rfl
theorem d2L (i:It) (c:Int) (h:Hp) (hc:∀ g,R a5C [.agg (itr i)] g=some (.int .i64 c,g)) (hb:(a1t i).length≤900000000):∃ d',R b4i [.agg (itr i)] h=some (.tup [d',.int .i64 c],h)∧SlOf 1 byr (if c=0 then a2M i else []) d':=by
 suffices Wp (R b4i [.agg (itr i)] h) (fun p=>p.2=h∧∃ d',p.1 = .tup [d',.int .i64 c]∧SlOf 1 byr (if c=0 then a2M i else []) d') by
  obtain ⟨⟨x,h'⟩,h1,rfl,d',rfl,h2⟩:=this
  exact ⟨d',h1,h2⟩
 rw [c9T]
 simp only [c5k,a1G,bs,d6W,d1V,hc,a0w]
 refine Wp.dif ?_ ?_
 ·intro h0
  have h0:¬ c=0:=by simpa using h0
  simp only [bs,a0Z]
  rw [a1a (d' := .tup [.nils,.int .i64 c]) (by simp) (.tup _ fun d hd=>by simp at hd;rcases hd with rfl | rfl <;> constructor) (Nat.le_refl _) fun _ _=>rfl]
  exact .some ⟨rfl,_,rfl,by rw [if_neg h0];exact .nils _ _⟩
 ·intro h0
  have h0:c=0:=by simpa using h0
  subst h0
  obtain ⟨d1,h1,e1,B1⟩:=d2M i h.length h (Nat.le_refl _) hb
  have w1:IntKind.wrap .i64 (((a1t i).length:Int)+4)=((a1t i).length:Int)+4:=wrap_i64 (by omega) (by omega)
  have r1:=RdB.own B1.ow
  refine Wp.step e1 ?_
  simp only [bs,a8h r1,a0t,w1,a2a]
  obtain ⟨d2,h2,e2,B2⟩:=b1R (IntKind.wrap .u64 (((a1t i).length:Int)+4)) 4 (by omega) h1.length h1 [] .nils (Nat.le_refl _) (Own.nils _ _ _ _) (by simp)
  have e2:R a2o [.nils,.int .u64 (IntKind.wrap .u64 (((a1t i).length:Int)+4)),.int .i64 4] h1=some (d2,h2):=e2
  refine Wp.step e2 ?_
  simp only [bs]
  have r2:RdB h2 (a1t i) d1:=by
   rcases B1.ow with ⟨hx,hl⟩ | ⟨o,ho,hx,hg⟩
   ·exact .inl (.inl ⟨hx,by simpa using hl⟩)
   ·refine .inr ⟨o,by rw [hx];simp [-bind_some],?_⟩
    have holt:=(d7n.1 hg).1
    rw [B2.old o holt (fun hh=>by obtain ⟨z,n,hh⟩:=hh;cases hh)]
    exact hg
  have ow2:Own h2 h.length ty5 1 ((([]:List Int)++a3H 4 (IntKind.wrap .u64 (((a1t i).length:Int)+4))).map byr) d2:=B2.ow.from B1.len
  obtain ⟨d3,h3,e3,B3⟩:=b5o (Nat.le_trans B1.len B2.len) ow2 (a4q r2) (by simp only [d7b,d7p,a1c];omega)
  refine Wp.step e3 ?_
  simp only [bs]
  have hH:[]++a3H 4 (IntKind.wrap .u64 (((a1t i).length:Int)+4))++a1t i=a5x i:=by simp [-bind_some, a5x]
  rw [hH] at B3
  have hHl:(a5x i).length=4+(a1t i).length:=by simp only [a5x,d7b,a1c]
  have e4:=c0Q (a5x i) d3 h3 (RdB.own B3.ow) (by omega) (b2l i)
  refine Wp.step e4 ?_
  simp only [bs]
  have hn3:h.length≤h3.length:=Nat.le_trans (Nat.le_trans B1.len B2.len) B3.len
  obtain ⟨d5,h5,e5,B5⟩:=b1R (a2z (a5x i)) 4 (by omega) h.length h3 (a5x i) d3 hn3 B3.ow (by omega)
  have e5:R a2o [d3,.int .u64 (a2z (a5x i)),.int .i64 4] h3=some (d5,h5):=e5
  refine Wp.step e5 ?_
  have hE:a5x i++a3H 4 (a2z (a5x i))=a2M i:=rfl
  rw [hE] at B5
  simp only [bs,a0Z]
  have hsl:=a2w (n0:=h.length) (n:=2) B5.ow (Nat.le_refl _) (fun a _=>a4i _ h5 2 a)
  have hlow:∀ q,q<h.length→h5[q]?=h[q]?:=fun q hq=>by
   have nd:∀ {d:D} {g:Hp} {l:List Int},Own g h.length ty5 1 (l.map byr) d→¬ d.inOb q:=fun ow hx=>by have:=(ow.lt hx).1;omega
   rw [B5.old q (by omega) (nd B3.ow),B3.old q (by have:=B1.len;have:=B2.len;omega) (nd ow2),B2.old q (by have:=B1.len;omega) (fun hh=>by obtain ⟨z,n,hh⟩:=hh;cases hh),
    B1.old q hq (fun hh=>by obtain ⟨z,n,hh⟩:=hh;cases hh)]
  rw [a1a (d' := .tup [frz h.length h5 3 d5,.int .i64 0]) (by simp) (by
   refine .tup _ fun d hd=>?_
   simp at hd
   rcases hd with rfl | rfl
   ·exact a1q hsl fun a _=>a6b _ a
   ·constructor) (Nat.le_trans hn3 B5.len) hlow]
  exact .some ⟨rfl,_,rfl,by simpa using hsl⟩
theorem a5o {α:Type} (f:α→List Int) (m:Nat):∀ (l:List α),(∀ a∈l,(f a).length≤m)→(l.map f).flatten.length≤l.length*m
 | [],_=>by simp
 | a::l,h=>by
  have h1:=h a (by simp)
  have h2:=a5o f m l fun b hb=>h b (by simp [-bind_some, hb])
  simp only [d7e,List.flatten_cons,d7b,d7o,Nat.succ_mul]
  omega
theorem c7B (w x b k:Nat) (hb:b<2 ^ k) (hx:x*2 ^ k+b<2 ^ w):(BitVec.ofInt w ((x*2 ^ k:Nat):Int) ||| BitVec.ofInt w (b:Int)).toNat=x*2 ^ k+b:=by
 rw [BitVec.ofInt_natCast,BitVec.ofInt_natCast,BitVec.toNat_or,BitVec.toNat_ofNat,BitVec.toNat_ofNat,Nat.mod_eq_of_lt (by omega),Nat.mod_eq_of_lt (by omega)]
 rw [← Nat.shiftLeft_eq,← Nat.shiftLeft_add_eq_or_of_lt hb,Nat.shiftLeft_eq]
theorem b1W (x:BitVec IntKind.u64.bits):IntKind.wrap .u64 (x.toNat:Int)=x.toNat:=by
 have:=x.isLt
 have h2:(2:Nat) ^ IntKind.u64.bits=18446744073709551616:=by decide
 exact a1s (by omega) (by omega)
theorem b8n {x b:Int} (k:Nat) (h0:0≤x) (hb0:0≤b) (hb:b<2 ^ k) (hx:x*2 ^ k+b<18446744073709551616):IntKind.wrap .u64 (BitVec.ofInt IntKind.u64.bits (x*2 ^ k) ||| BitVec.ofInt IntKind.u64.bits b).toNat=x*2 ^ k+b:=by
 obtain ⟨X,rfl⟩:=Int.eq_ofNat_of_zero_le h0
 obtain ⟨B,rfl⟩:=Int.eq_ofNat_of_zero_le hb0
 have e:((X:Int)*2 ^ k)=((X*2 ^ k:Nat):Int):=by push_cast;rfl
 have hB:B<2 ^ k:=by exact_mod_cast hb
 have hX:X*2 ^ k+B<2 ^ IntKind.u64.bits:=by
  have h2:(2:Nat) ^ IntKind.u64.bits=18446744073709551616:=by decide
  rw [h2]
  rw [e] at hx
  generalize X*2 ^ k=Y at hx
  omega
 have:=c7B IntKind.u64.bits X B k hB hX
 rw [e,b1W,this]
 push_cast;rfl
theorem a7z {l:List Int} {n:Nat} {z:Int} (h:l[n]?=some z):num (l.take (n+1))=num (l.take n)*256+z:=by
 unfold num
 rw [d7j,h]
 simp [-bind_some]
theorem a4N {l:List Int} {d:D} (hd:SlOf 1 byr l d) (a b:Nat) (hab:a≤b) (hb:b≤l.length):∃ d',a0A tab a0J true true false [d,.int .i64 a,.int .i64 b]=some d'∧SlOf 1 byr ((l.take b).drop a) d':=by
 have t1:tab a0J=some ti22:=id rfl
 have t2:ti22.td = .sl ty5:=id rfl
 have t3:tab ty5=some ti5:=id rfl
 have t4:ti5.sz=1:=id rfl
 simp only [a0A,a3f,bs,a2p,t1,t2,t3]
 rcases hd with ⟨rfl,rfl⟩ | ⟨f,rfl⟩
 ·have:b=0:=by simpa using hb
  subst this
  have:a=0:=by omega
  subst this
  exact ⟨_,rfl,.inl ⟨rfl,rfl⟩⟩
 ·have h1:(a:Int)≤b:=by omega
  have h2:(b:Int)≤l.length:=by omega
  simp [-bind_some, t4,h1,h2,hb,hab]
  exact .inr ⟨_,by rw [List.map_drop,List.map_take]⟩
theorem a6y (q:Nat):¬ D.inOb .nils q:=fun hh=>by obtain ⟨z,n,hh⟩:=hh;cases hh
theorem a1T {h:Hp} {n0 e z:Nat} {rows:List (List D)} {d:D} (ow:Own h n0 e z rows d) {q:Nat} (hq:d.inOb q):h[q]?=some (.row e z rows):=by
 obtain ⟨z',n,rfl⟩:=hq
 rcases ow with ⟨hd,_⟩ | ⟨o,ho,hd,hg⟩
 ·cases hd
 ·injection hd with _ h2
  subst h2
  exact hg
theorem b8o {h:Hp} {n n' e e' z z':Nat} {rows rows':List (List D)} {d d':D} (a:Own h n e z rows d) (b:Own h n' e' z' rows' d') (hne:e≠e') {q:Nat} (hq:d.inOb q):¬ d'.inOb q:=fun hx=>by
 have h1:=a1T a hq
 have h2:=a1T b hx
 rw [h1] at h2
 injection h2 with h2
 injection h2 with h3
 exact hne h3
theorem d1S (v:Int) (n0:Nat):∀ (k:Nat),k≤8→∀ (h:Hp) (l:List Int) (d a:D),n0≤h.length→Own h n0 ty5 1 (l.map byr) d→l.length+k≤1000000000→∃ d' h' b,a0N (a7s (.int .u64 v)) [d,.int .i64 (8*((k:Int) - 1)),a] h=some (.ext 0,[d',b,.bool false],h')∧Bw n0 h d h' (l++a3H k v) d':=by
 intro k
 induction k with
 | zero =>
  intro _ h l d a hn ow hr
  rw [a2c]
  refine ⟨d,h,_,by simp [-bind_some, a7s];rfl,?_⟩
  simpa [-bind_some, a3H] using Bw.refl ow
 | succ k ih =>
  intro hk h l d a hn ow hr
  have hg:(0:Int)≤8*(((k+1:Nat):Int) - 1):=by omega
  have hw1:8*(((k+1:Nat):Int) - 1)=8*(k:Int):=by omega
  have hw2:IntKind.wrap .i64 (8*(k:Int) - 8)=8*((k:Int) - 1):=by rw [wrap_i64 (by omega) (by omega)];omega
  have h8:¬ (8*(k:Int))<0:=by omega
  have hmn:min (8*(k:Int)).toNat IntKind.u64.bits=8*k:=by
   have:IntKind.u64.bits=64:=rfl
   rw [this];omega
  obtain ⟨x',g,e1,B1⟩:=b5o (y := .sl 1 true [byr (IntKind.wrap .u8 (v.fdiv (2 ^ (8*k))))]) (m:=[IntKind.wrap .u8 (v.fdiv (2 ^ (8*k)))]) hn ow (a1l _ _ _ _) (by simp;omega)
  obtain ⟨d',h',b,e2,B2⟩:=ih (by omega) g _ x' (.bool true) (Nat.le_trans hn B1.len) B1.ow (by simp;omega)
  refine ⟨d',h',b,?_,?_⟩
  ·rw [a2c]
   rw [hw1] at hg ⊢
   simp only [a7s,a0f,a0o,bs,a3s,decide_eq_true hg,a0c,if_true,a4j,h8,if_false,hmn,b3L,b6v,show ∀ z,([[D.int .u8 z]]:List (List D))=[byr z] from fun _=>rfl,e1,a0z,hw2]
   exact e2
  ·have:=B1.trans B2
   simpa [-bind_some, a3H] using this
theorem b8R (v:Int) (k:Nat) (hk:k≤8) (n0:Nat) (h:Hp) (l:List Int) (d:D) (hn:n0≤h.length) (ow:Own h n0 ty5 1 (l.map byr) d) (hr:l.length≤999999000):∃ d' h',R a4z [d,.int .u64 v,.int .i64 k] h=some (d',h')∧Bw n0 h d h' (l++a3H k v) d':=by
 obtain ⟨d',h',b,e1,B⟩:=d1S v n0 k hk h l d .any hn ow (by omega)
 refine ⟨d',h',?_,B⟩
 rw [d0c]
 have hw:IntKind.wrap .i64 ((k:Int) - 1)=(k:Int) - 1:=by rw [wrap_i64 (by omega) (by omega)]
 have hw2:IntKind.wrap .i64 (8*((k:Int) - 1))=8*((k:Int) - 1):=by rw [wrap_i64 (by omega) (by omega)]
 simp only [c5t,bs,a0z,hw,a2x,hw2,d6W,e1,a0s,a0r,a0f,a0i]
theorem c8a (l:List Int) (d:D) (h:Hp) (hd:RdB h l d) (hl:l.length≤9223372036854775806) (hu:∀ z∈l,U8 z):R b4m [d] h=some (.int .u64 (a2z l),h):=by
 apply Wp.val
 rw [d0d]
 simp only [c5u,bs,d6W,a8h hd]
 refine Wp.loop (fun k ds g=>g=h∧∃ x y,∃ n:Nat,ds=[.int .u64 (a2z (l.take n)),x,.int .i64 n,y]∧k+n=l.length) (fun r=>r.1 = .ext 0∧r.2.2=h∧∃ a b c,r.2.1=[.int .u64 (a2z l),a,b,c]) l.length ⟨rfl,_,_,0,rfl,rfl⟩ ?_ ?_
 ·rintro k ds g ⟨rfl,x,y,n,rfl,hk⟩
  simp only [b3i,a0f,a0o,bs,d6W,a0k]
  refine Wp.dif ?_ ?_
  ·intro h0
   have h0:n<l.length:=dl_ h0
   obtain ⟨z,hz⟩:=gx_ h0
   have hzu:=hu z (d7l hz)
   obtain ⟨q,q1,q2⟩:=b8z hd n z hz
   have hr:=a3u (l.take n)
   have hw:=wi_ n (by omega)
   unfold U8 at hzu
   have w1:IntKind.wrap .u64 (a2z (l.take n)*31)=a2z (l.take n)*31:=a1s (by omega) (by omega)
   have w2:IntKind.wrap .u64 z=z:=a1s (by omega) (by omega)
   have w3:IntKind.wrap .u64 (a2z (l.take n)*31+z)=a2z (l.take n)*31+z:=a1s (by omega) (by omega)
   have w4:(a2z (l.take n)*31+z).tmod 4294967291=a2z (l.take (n+1)):=by
    rw [a7H hz,Int.tmod_eq_emod_of_nonneg (by omega)]
   simp only [a2x,w1,q1,q2,a6e,w2,a0t,w3,bs,a3J,show ¬ ((4294967291:Int)=0) by omega,if_false,w4,hw]
   exact .some (.inl ⟨rfl,k - 1,by omega,rfl,_,_,n+1,rfl,by omega⟩)
  ·intro h0
   have h0:n=l.length:=by
    have:¬ (n:Int)<l.length:=by simpa using h0
    omega
   subst h0
   rw [d7v]
   exact .some (.inr ⟨by simp,rfl,rfl,_,_,_,rfl⟩)
 ·rintro ⟨ex,ds,g⟩ ⟨rfl,q2,a,b,c,rfl⟩
  simp only at q2
  subst q2
  simp only [a0s,a0r,bs,a0f,a0i]
  exact .some rfl
structure WrS (n0 oi ow:Nat) (h0:Hp) (it:List D) (g:Hp) (l:List Int):Prop where
 hi:g[oi]?=some (.row a0P 11 [it])
 hw:∃ d,g[ow]?=some (.row a2y 1 [[d]])∧Own g n0 ty5 1 (l.map byr) d
 lo:∀ q,q<n0→g[q]?=h0[q]?
 ln:n0≤g.length
theorem ldw {g:Hp} {ow:Nat} {d:D} (h:g[ow]?=some (.row a2y 1 [[d]])):a0b tab g a0J (.ptr ow 0 (0+0))=some d:=by rw [b7O,a0O h];rfl
theorem WrS.put {n0 oi ow:Nat} {h0:Hp} {it:List D} {g g':Hp} {l l':List Int} {d d':D} (s:WrS n0 oi ow h0 it g l) (hn:n0≤ow) (hw:g[ow]?=some (.row a2y 1 [[d]])) (hb:Own g n0 ty5 1 (l.map byr) d) (B:Bw n0 g d g' l' d') {β:Type} {f:Hp→Option β} {Q:β→Prop}
  (k:∀ g2,WrS n0 oi ow h0 it g2 l'→Wp (f g2) Q):Wp ((a0h tab g' a0J (.ptr ow 0 (0+0)) d').bind f) Q:=by
 have hnd:∀ {q T z:Nat} {rows:List (List D)},g[q]?=some (.row T z rows)→T≠ty5→¬ d.inOb q:=fun hq hT hx=>by
  have:=a1T hb hx
  rw [hq] at this
  injection this with this
  injection this with h1
  exact hT h1
 have keep:∀ {q T z:Nat} {rows:List (List D)},g[q]?=some (.row T z rows)→T≠ty5→g'[q]?=some (.row T z rows):=fun hq hT=>by
  rw [B.old _ (d7n.1 hq).1 (hnd hq hT)];exact hq
 have hw':=keep hw (by decide)
 have hi':=keep s.hi (by decide)
 refine c1e hw' (by rfl) (by rcases B.ow with ⟨rfl,_⟩ | ⟨o,_,rfl,_⟩ <;> rfl) (by simp) (by rcases B.ow with ⟨rfl,_⟩ | ⟨o,_,rfl,_⟩ <;> rfl) fun g2 h2 s2=>?_
 have hne:oi≠ow:=fun hh=>by
  subst hh
  rw [s.hi] at hw
  injection hw with hw
  injection hw with h1
  exact absurd h1 (by decide)
 have hc:a0F d'=[d']:=by rcases B.ow with ⟨rfl,_⟩ | ⟨o,_,rfl,_⟩ <;> rfl
 have h2:g2[ow]?=some (.row a2y 1 [[d']]):=by rw [h2,hc];rfl
 refine k g2 ⟨by rw [s2.2 oi hne];exact hi',⟨d',h2,B.ow.keep fun q _ hx=>s2.2 q fun hh=>?_⟩,fun q hq=>?_,?_⟩
 ·subst hh
  have:=a1T B.ow hx
  rw [hw'] at this
  injection this with this
  injection this with h1
  exact absurd h1 (by decide)
 ·rw [s2.2 q (by omega),B.old q (by have:=s.ln;omega) (fun hx=>by have:=(hb.lt hx).1;omega)]
  exact s.lo q hq
 ·have:=s2.1;have:=B.len;have:=s.ln;omega
theorem b9k {n0 oi ow:Nat} {h0:Hp} {it:List D} {g:Hp} {l:List Int} (s:WrS n0 oi ow h0 it g l) (hn:n0≤ow) (hl:l.length≤999999000) (t:D) (n:Int) (ht:a0q tab t=some t) (hld:a0b tab g ty3 t=some (.int .i64 n)) {β:Type} {f:D × Hp→Option β} {Q:β→Prop}
  (k:∀ g2,WrS n0 oi ow h0 it g2 (l++pI n)→Wp (f (a0l [],g2)) Q):Wp ((R b7t [.ptr ow 0 0,t] g).bind f) Q:=by
 obtain ⟨d,hw,hb⟩:=s.hw
 obtain ⟨d',g1,e1,B⟩:=b8R (IntKind.wrap .u64 n) 8 (by omega) n0 g l d s.ln hb hl
 have e1:R a4z [d,.int .u64 (IntKind.wrap .u64 n),.int .i64 8] g=some (d',g1):=e1
 rw [d0l]
 simp only [c5C,bs,a0v,a6l,ldw hw,ht,hld,a2a,e1,d6W]
 refine s.put hn hw hb B fun g2 s2=>?_
 try simp only [bs]
 exact k g2 s2
theorem c8p {n0 oi ow:Nat} {h0:Hp} {it:List D} {g:Hp} {l:List Int} (s:WrS n0 oi ow h0 it g l) (hn:n0≤ow) (hl:l.length≤999999000) (n:Nat) {β:Type} {f:D × Hp→Option β} {Q:β→Prop}
  (k:∀ g2,WrS n0 oi ow h0 it g2 (l++pN n)→Wp (f (.int .i64 n,g2)) Q):Wp ((R b7s [.ptr ow 0 0,.int .i64 n] g).bind f) Q:=by
 obtain ⟨d,hw,hb⟩:=s.hw
 obtain ⟨d',g1,e1,B⟩:=b8R (IntKind.wrap .u64 n) 4 (by omega) n0 g l d s.ln hb hl
 have e1:R a4z [d,.int .u64 (IntKind.wrap .u64 n),.int .i64 4] g=some (d',g1):=e1
 rw [d0k]
 simp only [c5B,bs,a0v,a6l,ldw hw,a2a,e1,d6W]
 refine s.put hn hw hb B fun g2 s2=>?_
 simp only [bs,a0i]
 exact k g2 s2
theorem b6g {n0 oi ow:Nat} {h0:Hp} {it:List D} {g:Hp} {l:List Int} (s:WrS n0 oi ow h0 it g l) (hn:n0≤ow) (u:Str) (hl:l.length+u.length≤999998000) (t:D) (ht:a0q tab t=some t) (hld:∀ g':Hp,g'[oi]?=some (.row a0P 11 [it])→a0b tab g' ty9 t=some (.str u)) {β:Type} {f:D × Hp→Option β} {Q:β→Prop}
  (k:∀ g2,WrS n0 oi ow h0 it g2 (l++pS u)→Wp (f (a0l [],g2)) Q):Wp ((R b7u [.ptr ow 0 0,t] g).bind f) Q:=by
 obtain ⟨d,hw,hb⟩:=s.hw
 obtain ⟨d1,g1,e1,B1⟩:=b8R (IntKind.wrap .u64 u.length) 4 (by omega) n0 g l d s.ln hb (by omega)
 have e1:R a4z [d,.int .u64 (IntKind.wrap .u64 u.length),.int .i64 4] g=some (d1,g1):=e1
 obtain ⟨d2,g2,e2,B2⟩:=c6n (Nat.le_trans s.ln B1.len) B1.ow u (by simp only [d7b,a1c];omega)
 have hi1:g1[oi]?=some (.row a0P 11 [it]):=by
  rw [B1.old oi (d7n.1 s.hi).1 (fun hx=>by
   have:=a1T hb hx
   rw [s.hi] at this
   injection this with this
   injection this with h1
   exact absurd h1 (by decide))]
  exact s.hi
 have B:=B1.trans B2
 have hpS:l++a3H 4 (IntKind.wrap .u64 u.length)++sby u=l++pS u:=by simp [-bind_some, pS,pN]
 rw [hpS] at B
 rw [d0m]
 simp only [c5D,bs,a0v,a6l,ldw hw,ht,hld g s.hi,a4X,a2a,e1,hld g1 hi1,e2,d6W]
 refine s.put hn hw hb B fun g2 s2=>?_
 simp only [bs,a1D]
 exact k g2 s2
theorem nmN (d:D):a0q tab (.fn (.method "logtide/event.number") [.iface a5j d] [])=some (.fn (.method "logtide/event.number") [.iface a5j d] []):=by kernel_rfl
theorem nmT (d:D):a0q tab (.fn (.method "logtide/event.text") [.iface a5j d] [])=some (.fn (.method "logtide/event.text") [.iface a5j d] []):=by kernel_rfl
theorem nmC (d:D):a0q tab (.fn (.method "logtide/event.count") [.iface a5j d] [])=some (.fn (.method "logtide/event.count") [.iface a5j d] []):=by kernel_rfl
theorem a2N (cs:List D):a0q tab (.fptr cs)=some (.fptr cs):=id rfl
theorem itA {g:Hp} {oi:Nat} {i:It} (h:g[oi]?=some (.row a0P 11 [itr i])):a0b tab g ty9 (.ptr oi 0 (0+0))=some (.str i.r)∧a0b tab g ty3 (.ptr oi 0 (0+1+0))=some (.int .i64 i.e.a0)∧a0b tab g ty3 (.ptr oi 0 (0+1+1))=some (.int .i64 i.e.a1) ∧
  a0b tab g ty3 (.ptr oi 0 (0+1+2))=some (.int .i64 i.e.a2)∧a0b tab g ty3 (.ptr oi 0 (0+1+3))=some (.int .i64 i.e.a3)∧a0b tab g a1j (.ptr oi 0 (0+1+4))=some i.e.ld∧a0b tab g ty3 (.ptr oi 0 (0+1+5))=some (.int .i64 i.e.a5) ∧
  a0b tab g ty3 (.ptr oi 0 (0+1+6))=some (.int .i64 i.e.a6)∧a0b tab g ty9 (.ptr oi 0 (0+1+7))=some (.str i.e.s7)∧a0b tab g ty9 (.ptr oi 0 (0+1+8))=some (.str i.e.s8)∧a0b tab g a1d (.ptr oi 0 (0+1+9))=some i.e.fd:=by
 refine ⟨?_,?_,?_,?_,?_,?_,?_,?_,?_,?_,?_⟩
 ·rw [b2D,a0O h];rfl
 ·rw [a7h,a0O h];rfl
 ·rw [a7h,a0O h];rfl
 ·rw [a7h,a0O h];rfl
 ·rw [a7h,a0O h];rfl
 ·rw [b7P,a0O h];rfl
 ·rw [a7h,a0O h];rfl
 ·rw [a7h,a0O h];rfl
 ·rw [b2D,a0O h];rfl
 ·rw [b2D,a0O h];rfl
 ·rw [c7k,a0O h];rfl
def pl4 (oi:Nat):List (List D):=[[.ptr oi 0 (0+1+0)],[.ptr oi 0 (0+1+1)],[.ptr oi 0 (0+1+2)],[.ptr oi 0 (0+1+3)]]
def b0b (i:It):List Int:=[i.e.a0,i.e.a1,i.e.a2,i.e.a3]
theorem c2X {g:Hp} {oi:Nat} {i:It} (h:g[oi]?=some (.row a0P 11 [itr i])) (n:Nat) (hn:n<4):∃ t a,a0d tab a6B (.sl 1 true (pl4 oi)) (.int .i64 n)=some (.fptr [t])∧a0q tab t=some t∧a0b tab g ty3 t=some (.int .i64 a)∧(b0b i)[n]?=some a:=by
 obtain ⟨_,h0,h1,h2,h3,_⟩:=itA h
 have:n=0∨n=1∨n=2∨n=3:=by omega
 rcases this with rfl | rfl | rfl | rfl
 ·exact ⟨_,_,by rw [b1u];rfl,a0v _ _ _ _,h0,rfl⟩
 ·exact ⟨_,_,by rw [b1u];rfl,a0v _ _ _ _,h1,rfl⟩
 ·exact ⟨_,_,by rw [b1u];rfl,a0v _ _ _ _,h2,rfl⟩
 ·exact ⟨_,_,by rw [b1u];rfl,a0v _ _ _ _,h3,rfl⟩
theorem d3D (i:It) {n0 oi ow:Nat} {h0 g:Hp} {l:List Int} (s:WrS n0 oi ow h0 (itr i) g l) (hn:n0≤ow) (hl:l.length+(a1t i).length≤900000000) {β:Type} {f:D × Hp→Option β} {Q:β→Prop}
  (k:∀ g2,WrS n0 oi ow h0 (itr i) g2 (l++a1t i)→Wp (f (a0l [],g2)) Q):Wp ((R b1f [.iface a5j (.ptr ow 0 0),.ptr oi 0 0] g).bind f) Q:=by
 have hbb:=hl
 simp only [a1t,a4L,a3x,d7b,a1m,a1H,a1M] at hbb
 have hll:=i.e.hll
 have hlf:=i.e.hl
 rw [c6J]
 simp only [c2r,bs,d6W,a0v,b2r,a4k,nmT,nmN,nmC,a3L,a2J,a4m,b2m,a9Y,a4O,a4P]
 refine b6g s hn i.r (by omega) _ (a0v _ _ _ _) (fun g' h=>(itA h).1) fun g1 s1=>?_
 simp only [bs,b3F (.ptr oi 0 (0+1+0)) (.ptr oi 0 (0+1+1)) (.ptr oi 0 (0+1+2)) (.ptr oi 0 (0+1+3)) rfl rfl rfl rfl,show ([[.ptr oi 0 (0+1+0)],[.ptr oi 0 (0+1+1)],[.ptr oi 0 (0+1+2)],[.ptr oi 0 (0+1+3)]]:List (List D))=pl4 oi from rfl,b7Q,show (pl4 oi).length=4 from rfl]
 refine Wp.loop (fun kk ds g'=>∃ a b,∃ n:Nat,ds=[a,.int .i64 n,b]∧kk+n=4∧WrS n0 oi ow h0 (itr i) g' (l++pS i.r++(((b0b i).take n).map pI).flatten))
  (fun r=>r.1 = .ext 0∧(∃ a b c,r.2.1=[a,b,c])∧WrS n0 oi ow h0 (itr i) r.2.2 (l++pS i.r++((b0b i).map pI).flatten)) 4 ⟨_,_,0,rfl,rfl,by simpa using s1⟩ ?_ ?_
 ·rintro kk ds g' ⟨a,b,n,rfl,hk,s'⟩
  simp only [a9B,a0f,a0o,bs,d6W,a0k]
  refine Wp.dif ?_ ?_
  ·intro h1
   have h1:n<4:=by
    have:(n:Int)<((4:Nat):Int):=by simpa using h1
    omega
   obtain ⟨t,v,q1,q2,q3,q4⟩:=c2X s'.hi n h1
   have hw:=wi_ n (by omega)
   have hle:=a5L pI (b0b i) n
   have hl32:((b0b i).map pI).flatten.length=32:=by simp only [b0b,d7e,d7f,List.flatten_cons,List.flatten_nil,d7b,a1m,d7p]
   simp only [q1,b1y,bs,a2J]
   refine b9k s' hn (by simp only [d7b,a1M];omega) t v q2 q3 fun g2 s2=>?_
   simp only [bs,a0t,hw]
   refine .some (.inl ⟨rfl,kk - 1,by omega,_,_,n+1,rfl,by omega,?_⟩)
   rw [a1u pI q4]
   simpa using s2
  ·intro h1
   have h1:n=4:=by
    have:¬ (n:Int)<((4:Nat):Int):=by simpa using h1
    omega
   subst h1
   exact .some (.inr ⟨by simp,rfl,⟨_,_,_,rfl⟩,s'⟩)
 rintro ⟨ex,ds,g2⟩ ⟨rfl,⟨a,b,c,rfl⟩,s2⟩
 have s2:WrS n0 oi ow h0 (itr i) g2 (l++pS i.r++((b0b i).map pI).flatten):=s2
 have h4:((b0b i).map pI).flatten=pI i.e.a0++pI i.e.a1++pI i.e.a2++pI i.e.a3:=by simp [-bind_some, b0b]
 rw [h4] at s2
 simp only [a0s,a0r,bs,d6W,a0v,a3Q,(itA s2.hi).2.2.2.2.2.1,a2O i.e.hld,nmC,a4m]
 refine c8p s2 hn (by simp only [d7b,a1m,a1M];omega) i.e.ls.length fun g3 s3=>?_
 have hA:l++pS i.r++(pI i.e.a0++pI i.e.a1++pI i.e.a2++pI i.e.a3)++pN i.e.ls.length=l++a3x i:=by simp [-bind_some, a3x]
 rw [hA] at s3
 have hAl:(a3x i).length=4+i.r.length+36:=by simp only [a3x,d7b,a1M,a1m,a1H]
 simp only [bs]
 refine Wp.loop (fun kk ds g'=>∃ a b c d,∃ n:Nat,ds=[a,b,.int .i64 n,c,d]∧kk+n=i.e.ls.length∧WrS n0 oi ow h0 (itr i) g' (l++a3x i++((i.e.ls.take n).map lnB).flatten))
  (fun r=>r.1 = .ext 2∧(∃ a b c d e,r.2.1=[a,b,c,d,e])∧WrS n0 oi ow h0 (itr i) r.2.2 (l++a3x i++(i.e.ls.map lnB).flatten)) i.e.ls.length ⟨_,_,_,_,0,rfl,rfl,by simpa using s3⟩ ?_ ?_
 ·rintro kk ds g' ⟨a,b,c,d,n,rfl,hk,s'⟩
  simp only [a7q,a0f,a0o,bs,d6W,a0k]
  refine Wp.dif ?_ ?_
  ·intro h1
   have h1:n<i.e.ls.length:=dl_ h1
   obtain ⟨x,hx⟩:=gx_ h1
   have hw:=wi_ n (by omega)
   have hix:a0d tab a1j i.e.ld (.int .i64 (n:Int))=some (.fptr (a1L x)):=by rw [a7Z i.e.hld];simp [-bind_some, hx]
   have hle:=a5L lnB i.e.ls (n+1)
   rw [a1u lnB hx,d7b] at hle
   have hln:(lnB x).length=20+x.txt.length:=by simp only [lnB,d7b,a1m,a1M];omega
   have hne:¬ (n:Int)=(i.e.ls.length:Int):=by omega
   simp only [a0v,a3Q,bs,(itA s'.hi).2.2.2.2.2.1,a2O i.e.hld,a0S,hne,decide_false,a0c,d6X,if_false,a0r,hix,a2N,lF0,lF1,lF2,nmN,nmT,a2J,a3L]
   refine b9k s' hn (by simp only [d7b];omega) _ x.off (a2N _) (lL0 x g') fun g4 s4=>?_
   simp only [bs]
   refine b9k s4 hn (by simp only [d7b,a1m];omega) _ x.len (a2N _) (ld3 _ _ _) fun g5 s5=>?_
   simp only [bs]
   refine b6g s5 hn x.txt (by simp only [d7b,a1m];omega) _ (a2N _) (fun g' _=>ld9 _ _ _) fun g6 s6=>?_
   simp only [bs,a0t,hw]
   refine .some (.inl ⟨rfl,kk - 1,by omega,_,_,_,_,n+1,rfl,by omega,?_⟩)
   rw [a1u lnB hx]
   simpa [-bind_some, lnB] using s6
  ·intro h1
   have h1:n=i.e.ls.length:=by
    have:¬ (n:Int)<i.e.ls.length:=by simpa using h1
    omega
   subst h1
   rw [d7v] at s'
   exact .some (.inr ⟨by simp,rfl,⟨_,_,_,_,_,rfl⟩,s'⟩)
 rintro ⟨ex,ds,g4⟩ ⟨rfl,⟨a,b,c,d,e,rfl⟩,s4⟩
 have s4:WrS n0 oi ow h0 (itr i) g4 (l++a3x i++(i.e.ls.map lnB).flatten):=s4
 simp only [a0s,a0r,bs,d6W,a0v,b2n,b2o,b2p,b2q,a6J,nmN,nmT,nmC,a2J,a3L,a4m]
 refine b9k s4 hn (by simp only [d7b];omega) _ i.e.a5 (a0v _ _ _ _) (itA s4.hi).2.2.2.2.2.2.1 fun g5 s5=>?_
 simp only [bs]
 refine b9k s5 hn (by simp only [d7b,a1m];omega) _ i.e.a6 (a0v _ _ _ _) (itA s5.hi).2.2.2.2.2.2.2.1 fun g6 s6=>?_
 simp only [bs]
 refine b6g s6 hn i.e.s7 (by simp only [d7b,a1m];omega) _ (a0v _ _ _ _) (fun g' h=>(itA h).2.2.2.2.2.2.2.2.1) fun g7 s7'=>?_
 simp only [bs]
 refine b6g s7' hn i.e.s8 (by simp only [d7b,a1m,a1M];omega) _ (a0v _ _ _ _) (fun g' h=>(itA h).2.2.2.2.2.2.2.2.2.1) fun g8 s8'=>?_
 simp only [bs,(itA s8'.hi).2.2.2.2.2.2.2.2.2.2,a2v i.e.hfd]
 refine c8p s8' hn (by simp only [d7b,a1m,a1M];omega) i.e.fs.length fun g9 s9=>?_
 have hB:l++a3x i++(i.e.ls.map lnB).flatten++pI i.e.a5++pI i.e.a6++pS i.e.s7++pS i.e.s8++pN i.e.fs.length=l++a4L i:=by simp [-bind_some, a4L]
 rw [hB] at s9
 have hBl:(a4L i).length=(a3x i).length+(i.e.ls.map lnB).flatten.length+16+(4+i.e.s7.length)+(4+i.e.s8.length)+4:=by simp only [a4L,d7b,a1m,a1M,a1H]
 simp only [bs]
 refine Wp.loop (fun kk ds g'=>∃ a b c,∃ n:Nat,ds=[a,.int .i64 n,b,c]∧kk+n=i.e.fs.length∧WrS n0 oi ow h0 (itr i) g' (l++a4L i++((i.e.fs.take n).map fdB).flatten))
  (fun r=>r.1 = .ext 4∧(∃ a b c d,r.2.1=[a,b,c,d])∧WrS n0 oi ow h0 (itr i) r.2.2 (l++a1t i)) i.e.fs.length ⟨_,_,_,0,rfl,rfl,by simpa using s9⟩ ?_ ?_
 ·rintro kk ds g' ⟨a,b,c,n,rfl,hk,s'⟩
  simp only [a7r,a0f,a0o,bs,d6W,a0k]
  refine Wp.dif ?_ ?_
  ·intro h1
   have h1:n<i.e.fs.length:=dl_ h1
   obtain ⟨x,hx⟩:=gx_ h1
   have hw:=wi_ n (by omega)
   have hix:a0d tab a1d i.e.fd (.int .i64 (n:Int))=some (.fptr (fld x)):=by rw [a8C i.e.hfd];simp [-bind_some, hx]
   have hle:=a5L fdB i.e.fs (n+1)
   rw [a1u fdB hx,d7b] at hle
   have hln:(fdB x).length=8+x.1.length+x.2.length:=by simp only [fdB,d7b,a1M];omega
   have hne:¬ (n:Int)=(i.e.fs.length:Int):=by omega
   simp only [a0v,a6J,bs,(itA s'.hi).2.2.2.2.2.2.2.2.2.2,a2v i.e.hfd,a0S,hne,decide_false,a0c,d6X,if_false,a0r,hix,a2N,fF0,nmN,nmT,a2J,a3L]
   refine b6g s' hn x.1 (by simp only [d7b];omega) _ (a2N _) (fun g' _=>fL0 x g') fun g4 s4=>?_
   simp only [bs,(itA s4.hi).2.2.2.2.2.2.2.2.2.2,hix,fF1]
   refine b6g s4 hn x.2 (by simp only [d7b,a1M];omega) _ (a2N _) (fun g' _=>ld9 _ _ _) fun g6 s6=>?_
   simp only [bs,a0t,hw]
   refine .some (.inl ⟨rfl,kk - 1,by omega,_,_,_,n+1,rfl,by omega,?_⟩)
   rw [a1u fdB hx]
   simpa [-bind_some, fdB] using s6
  ·intro h1
   have h1:n=i.e.fs.length:=by
    have:¬ (n:Int)<i.e.fs.length:=by simpa using h1
    omega
   subst h1
   rw [d7v] at s'
   exact .some (.inr ⟨by simp,rfl,⟨_,_,_,_,rfl⟩,by simpa [-bind_some, a1t] using s'⟩)
 rintro ⟨ex,ds,gz⟩ ⟨rfl,⟨a,b,c,d,rfl⟩,sz⟩
 simp only [a0s,a2R,bs,d6W]
 exact k gz sz
theorem c7v (g:Hp):b5q tab g a0J (.int .i64 4) (.int .i64 4)=some (.msl 1 g.length 0 4,a0I g ty5 1 ([0,0,0,0].map byr)):=by
 have h1:tab a0J=some ti22:=id rfl
 have h2:ti22.td = .sl ty5:=id rfl
 have h3:tab ty5=some ti5:=id rfl
 have h4:ti5.sz=1:=id rfl
 have h5:ti5.zero=byr 0:=id rfl
 have h6:lim 4 ti5.by_=true:=a6u (by have:ti5.by_=1:=rfl;rw [this];omega) (by omega)
 have h7:(4:Int).toNat=4:=rfl
 simp only [b5q,h1,h2,h3,h4,h5,h7,h6,show (0:Int)≤4∧(4:Int)≤4∧true=true∧0<1 from ⟨by omega,by omega,rfl,by omega⟩,if_true]
 rfl
theorem d4e {g:Hp} {o:Nat} {p m r:List Int} {y:D} (ho:g[o]?=some (.row ty5 1 ((p++r).map byr))) (hy:a1R g 1 y=some (m.map byr)) (hl:m.length=p.length):∃ g',a7M tab g a0J a0J (.msl 1 o 0 (p++r).length) y=some (.int .i64 m.length,g')∧g'[o]?=some (.row ty5 1 ((m++r).map byr))∧Same o g g':=by
 have h1:tab a0J=some ti22:=id rfl
 have h2:ti22.td = .sl ty5:=id rfl
 have h3:tab ty5=some ti5:=id rfl
 have h4:ti5.sz=1:=id rfl
 have hs:b5r g ti22 ti5 y=some (m.map byr):=by simp only [b5r,h2,h4,hy]
 have hn:b4P ti22=true:=rfl
 have hb:Nat.blt 0 1=true:=rfl
 have holt:=(d7n.1 ho).1
 have hmin:min (m.map byr).length (p++r).length=m.length:=by simp;omega
 refine ⟨g.set o (.row ty5 1 (((p++r).map byr).take 0++(m.map byr).take (p++r).length++((p++r).map byr).drop (0+m.length))),?a1,?a2,?a3⟩
 case a1=>simp only [a7M,h1,h2,hn,h3,h4,hb,hs,ho,and_self,if_true,hmin]
 case a2 =>
  rw [List.getElem?_set_self holt]
  have e1:(m.map byr).take (p++r).length=m.map byr:=List.take_of_length_le (by simp;omega)
  rw [e1,List.take_zero,List.nil_append,Nat.zero_add,hl,d7d,List.drop_left' (by simp),d7d]
 case a3=>exact ⟨by simp,fun q hq=>d7x (Ne.symm hq)⟩
theorem d2P (i:It) (c:Int) (h:Hp) (hc:∀ g,R a5D [.agg (itr i)] g=some (.int .i64 c,g)) (hb:(a1t i).length≤800000000):∃ d',R b4l [.agg (itr i)] h=some (.tup [d',.int .i64 c],h)∧SlOf 1 byr (if c=0 then a2M i else []) d':=by
 suffices Wp (R b4l [.agg (itr i)] h) (fun p=>p.2=h∧∃ d',p.1 = .tup [d',.int .i64 c]∧SlOf 1 byr (if c=0 then a2M i else []) d') by
  obtain ⟨⟨x,h'⟩,h1,rfl,d',rfl,h2⟩:=this
  exact ⟨d',h1,h2⟩
 have hi0:(a0I h a0P 11 [itr i])[h.length]?=some (.row a0P 11 [itr i]):=a1h _ _ _ _
 have ld0:a0b tab (a0I h a0P 11 [itr i]) a0P (.ptr h.length 0 0)=some (.agg (itr i)):=by rw [b0h,a0O hi0];rfl
 have hl0:(a0I h a0P 11 [itr i]).length=h.length+1:=by simp [-bind_some, a0I]
 rw [c9Z]
 simp only [c5q,a3e a0P 11 h (itr i) rfl (by omega),bs,d6W,ld0,hc,a0w]
 refine Wp.dif ?_ ?_
 ·intro h0
  have h0:¬ c=0:=by simpa using h0
  simp only [bs,a0Z]
  rw [a1a (d' := .tup [.nils,.int .i64 c]) (by simp) (.tup _ fun d hd=>by simp at hd;rcases hd with rfl | rfl <;> constructor) (by omega) fun q hq=>a0Y _ _ _ _ hq]
  exact .some ⟨rfl,_,rfl,by rw [if_neg h0];exact .nils _ _⟩
 ·intro h0
  have h0:c=0:=by simpa using h0
  subst h0
  generalize hg0:a0I h a0P 11 [itr i]=g0 at *
  have hl1:(a0I g0 ty5 1 ([0,0,0,0].map byr)).length=h.length+2:=by simp [-bind_some, a0I,hl0]
  have hb1:(a0I g0 ty5 1 ([0,0,0,0].map byr))[h.length+1]?=some (.row ty5 1 ([0,0,0,0].map byr)):=by rw [← hl0];exact a1h _ _ _ _
  have hi1:(a0I g0 ty5 1 ([0,0,0,0].map byr))[h.length]?=some (.row a0P 11 [itr i]):=by rw [a0Y _ _ _ _ (by omega)];exact hi0
  have hq1:∀ q,q<h.length→(a0I g0 ty5 1 ([0,0,0,0].map byr))[q]?=h[q]?:=fun q hq=>by rw [a0Y _ _ _ _ (by omega),← hg0,a0Y _ _ _ _ hq]
  simp only [c7v,bs,hl0]
  generalize a0I g0 ty5 1 ([0,0,0,0].map byr)=g1 at *
  simp only [b9E (.msl 1 (h.length+1) 0 4) rfl,bs,a3e a2y 1 g1 [.msl 1 (h.length+1) 0 4] rfl (by omega),hl1]
  have hw2:(a0I g1 a2y 1 [[.msl 1 (h.length+1) 0 4]])[h.length+2]?=some (.row a2y 1 [[.msl 1 (h.length+1) 0 4]]):=by rw [← hl1];exact a1h _ _ _ _
  have S0:WrS h.length h.length (h.length+2) h (itr i) (a0I g1 a2y 1 [[.msl 1 (h.length+1) 0 4]]) [0,0,0,0] :=
   ⟨by rw [a0Y _ _ _ _ (by omega)];exact hi1,⟨_,hw2,.inr ⟨h.length+1,by omega,rfl,by rw [a0Y _ _ _ _ (by omega)];exact hb1⟩⟩,fun q hq=>by rw [a0Y _ _ _ _ (by omega)];exact hq1 q hq,by simp [-bind_some, a0I];omega⟩
  refine d3D i S0 (by omega) (by simp;omega) fun g2 S=>?_
  obtain ⟨d,hw,ho⟩:=S.hw
  have ldd:=ldw hw
  have hlen:([0,0,0,0]++a1t i:List Int).length=(a1t i).length+4:=by simp
  obtain ⟨P,hP⟩:∃ P,P=a3H 4 (IntKind.wrap .u64 (((a1t i).length:Int)+4)):=⟨_,rfl⟩
  have hPl:P.length=([0,0,0,0]:List Int).length:=by rw [hP,a1c];rfl
  have hH:P++a1t i=a5x i:=by rw [hP];rfl
  have rb:=RdB.own ho
  have hli:(([0,0,0,0]++a1t i:List Int).length:Int)=((a1t i).length:Int)+4:=by rw [hlen];omega
  obtain ⟨dp,g3,e3,B3⟩:=b8R (IntKind.wrap .u64 (((a1t i).length:Int)+4)) 4 (by omega) g2.length g2 [] .nils (Nat.le_refl _) (Own.nils _ _ _ _) (by simp)
  rw [List.nil_append,← hP] at B3
  have e3:R a4z [.nils,.int .u64 (IntKind.wrap .u64 (((a1t i).length:Int)+4)),.int .i64 4] g2=some (dp,g3):=e3
  simp only [bs,a0v,a6l,ldd,a8h rb,hli,a2a]
  refine Wp.step e3 ?_
  have old3:∀ q,q<g2.length→g3[q]?=g2[q]?:=fun q hq=>B3.old q hq (a6y q)
  have hw3:g3[h.length+2]?=some (.row a2y 1 [[d]]):=by rw [old3 _ (d7n.1 hw).1];exact hw
  have ldd3:=ldw hw3
  have ho3:Own g3 h.length ty5 1 (([0,0,0,0]++a1t i:List Int).map byr) d:=ho.keep fun q _ hx=>old3 q (ho.lt hx).2
  obtain ⟨o,hon,hdo,hob⟩:=b1G ho3 (i:=0) (by simp)
  rw [d7c] at hdo
  obtain ⟨g4,e4,ho4,s4⟩:=d4e hob (a4q (RdB.own B3.ow)) hPl
  rw [← hdo] at e4
  have hne:h.length+2≠o:=fun hh=>by
   rw [hh,hob] at hw3
   injection hw3 with hw3
   injection hw3 with h1
   exact absurd h1 (by decide)
  have hw4:g4[h.length+2]?=some (.row a2y 1 [[d]]):=by rw [s4.2 _ hne];exact hw3
  have ldd4:=ldw hw4
  have ho4':g4[o]?=some (.row ty5 1 ((a5x i).map byr)):=by rw [← hH];exact ho4
  have hHl:(a5x i).length=4+(a1t i).length:=by simp only [a5x,d7b,a1c]
  have own4:Own g4 h.length ty5 1 ((a5x i).map byr) d := .inr ⟨o,hon,by rw [hdo,hlen,d7c,hHl,Nat.add_comm],ho4'⟩
  have hn4:h.length≤g4.length:=by have:=s4.1;have:=B3.len;have:=S.ln;omega
  have e5:=c8a (a5x i) _ g4 (RdB.own own4) (by omega) (b2l i)
  obtain ⟨d5,g5,e6,B5⟩:=b8R (a2z (a5x i)) 4 (by omega) h.length g4 (a5x i) _ hn4 own4 (by omega)
  have e6:R a4z [d,.int .u64 (a2z (a5x i)),.int .i64 4] g4=some (d5,g5):=e6
  simp only [bs,e4,ldd3,ldd4,e5,e6,a1D,a0Z]
  have hE:a5x i++a3H 4 (a2z (a5x i))=a2M i:=rfl
  rw [hE] at B5
  have hsl:=a2w (n0:=h.length) (n:=2) B5.ow (Nat.le_refl _) (fun a _=>a4i _ g5 2 a)
  have hlow:∀ q,q<h.length→g5[q]?=h[q]?:=fun q hq=>by
   rw [B5.old q (by omega) (fun hx=>by have:=(own4.lt hx).1;omega),s4.2 q (by omega),old3 q (by have:=S.ln;omega)]
   exact S.lo q hq
  rw [a1a (d' := .tup [frz h.length g5 3 d5,.int .i64 0]) (by simp) (by
   refine .tup _ fun d hd=>?_
   simp at hd
   rcases hd with rfl | rfl
   ·exact a1q hsl fun a _=>a6b _ a
   ·constructor) (Nat.le_trans hn4 B5.len) hlow]
  exact .some ⟨rfl,_,rfl,by simpa using hsl⟩
def bys (l:List Int):Str:=l.map fun z=>UInt8.ofNat z.toNat
theorem c2x (s:Str):bys (sby s)=s:=by
 unfold bys sby
 rw [List.map_map]
 conv=>rhs;rw [← List.map_id s]
 apply List.map_congr_left
 intro c _
 simp [-bind_some]
theorem a7L:∀ (l:List Int),a5z (l.map byr)=some (bys l)
 | []=>rfl
 | z::l=>by
  simp only [d7e,byr,a5z]
  rw [a7L l]
  rfl
theorem a3O {h:Hp} {l:List Int} {d:D} (hd:SlOf 1 byr l d):a3y h d=some (.str (bys l)):=by
 simp only [a3y,a4q (h:=h) (.inl hd),a7L]
theorem a2k:∀ (n:Nat) (l:List Int),l.length=n→(∀ z∈l,U8 z)→0≤num l∧num l<256 ^ n
 | 0,l,h,_=>by
  have:l=[]:=List.length_eq_zero_iff.1 h
  subst this
  simp [-bind_some, num]
 | n+1,l,h,hu=>by
  have hz:l[n]?=some l[n]:=d7m (by omega)
  have h1:=a7z hz
  rw [List.take_of_length_le (by omega)] at h1
  have h2:=a2k n (l.take n) (by simp;omega) fun z hz=>hu z (List.mem_of_mem_take hz)
  have h3:=hu l[n] (List.getElem_mem _)
  unfold U8 at h3
  rw [h1,Int.pow_succ]
  omega
theorem c0R (l:List Int) (d:D) (h:Hp) (hd:SlOf 1 byr l d) (hl:l.length≤8) (hu:∀ z∈l,U8 z):R a7b [d] h=some (.int .u64 (num l),h):=by
 apply Wp.val
 rw [d0e]
 simp only [c5v,bs,d6W,a1P hd]
 refine Wp.loop (fun k ds g=>g=h∧∃ x y,∃ n:Nat,ds=[.int .u64 (num (l.take n)),x,.int .i64 n,y]∧k+n=l.length) (fun r=>r.1 = .ext 0∧r.2.2=h∧∃ a b c,r.2.1=[.int .u64 (num l),a,b,c]) l.length ⟨rfl,_,_,0,rfl,rfl⟩ ?_ ?_
 ·rintro k ds g ⟨rfl,x,y,n,rfl,hk⟩
  simp only [b3j,a0f,a0o,bs,d6W,a0k]
  refine Wp.dif ?_ ?_
  ·intro h0
   have h0:n<l.length:=dl_ h0
   obtain ⟨z,hz⟩:=gx_ h0
   have hzu:=hu z (d7l hz)
   have hw:=wi_ n (by omega)
   unfold U8 at hzu
   obtain ⟨hn0,hn1⟩:=a2k n (l.take n) (by simp;omega) fun z hz=>hu z (List.mem_of_mem_take hz)
   have hb:num (l.take n)<72057594037927936:=by
    have:n=0∨n=1∨n=2∨n=3∨n=4∨n=5∨n=6∨n=7:=by omega
    rcases this with rfl | rfl | rfl | rfl | rfl | rfl | rfl | rfl <;> omega
   have m3:min ((8:Int).toNat) IntKind.u64.bits=8:=by decide
   have p3:(2:Int) ^ 8=256:=by decide
   have w1:IntKind.wrap .u64 (num (l.take n)*2 ^ 8)=num (l.take n)*2 ^ 8:=by rw [p3];exact a1s (by omega) (by omega)
   have w2:IntKind.wrap .u64 z=z:=a1s (by omega) (by omega)
   have w3:=b8n (x:=num (l.take n)) (b:=z) 8 hn0 (by omega) (by rw [p3];omega) (by rw [p3];omega)
   have hii:a0d tab a0J d (.int .i64 (n:Int))=some (.fptr (byr z)):=by rw [c0x hd];simp [-bind_some, hz]
   rw [p3,← a7z hz] at w3
   rw [p3] at w1
   simp only [hii,b3G,bs,a9P,show ¬ (8:Int)<0 by omega,if_false,m3,p3,w1,a6e,w2,b2e,w3,a0t,hw]
   exact .some (.inl ⟨rfl,k - 1,by omega,rfl,_,_,n+1,rfl,by omega⟩)
  ·intro h0
   have h0:n=l.length:=by
    have:¬ (n:Int)<l.length:=by simpa using h0
    omega
   subst h0
   rw [d7v]
   exact .some (.inr ⟨by simp,rfl,rfl,_,_,_,rfl⟩)
 ·rintro ⟨ex,ds,g⟩ ⟨rfl,q2,a,b,c,rfl⟩
  simp only at q2
  subst q2
  simp only [a0s,a0r,bs,a0f,a0i]
  exact .some rfl
abbrev Cur:=List Int × Bool
def a0G (s:Cur) (n:Int):List Int × Cur:=if s.2=true∨n<0∨(s.1.length:Int)<n then ([],(s.1,true)) else (s.1.take n.toNat,(s.1.drop n.toNat,false))
def a0Q (s:Cur):Int × Cur:=(IntKind.wrap .i64 (num (a0G s 8).1),(a0G s 8).2)
def a1z (s:Cur):Int × Cur:=(IntKind.wrap .i64 (num (a0G s 4).1),(a0G s 4).2)
def a0R (s:Cur):Option Str × Cur:=if (a0G (a1z s).2 (a1z s).1).2.2=true then (none,(a0G (a1z s).2 (a1z s).1).2) else (some (bys (a0G (a1z s).2 (a1z s).1).1),(a0G (a1z s).2 (a1z s).1).2)
def a0T (s:Cur):Int × Cur:=if (a1z s).2.2=true∨((a1z s).2.1.length:Int).tdiv 8<(a1z s).1 then (0,((a1z s).2.1,true)) else a1z s
def CuO (g:Hp) (oc:Nat) (s:Cur):Prop:=∃ d,g[oc]?=some (.row a1Z 2 [[d,.bool s.2]])∧SlOf 1 byr s.1 d∧(∀ z∈s.1,U8 z)∧s.1.length≤1000000000
theorem b9V {g:Hp} {oc:Nat} {d:D} {b:Bool} (h:g[oc]?=some (.row a1Z 2 [[d,.bool b]])):a0b tab g a0J (.ptr oc 0 (0+0))=some d∧a0b tab g ty4 (.ptr oc 0 (0+1))=some (.bool b):=⟨by rw [b7O,a0O h];rfl,by rw [d1Y,a0O h];rfl⟩
theorem a4t {s:Cur} (hu:∀ z∈s.1,U8 z) (n:Int):(∀ z∈(a0G s n).1,U8 z)∧(∀ z∈(a0G s n).2.1,U8 z)∧(a0G s n).2.1.length≤s.1.length:=by
 unfold a0G
 split
 ·exact ⟨by simp,hu,Nat.le_refl _⟩
 ·exact ⟨fun z hz=>hu z (List.mem_of_mem_take hz),fun z hz=>hu z (List.mem_of_mem_drop hz),by simp⟩
theorem a3F (s:Cur) (n:Nat):(a0G s n).1.length≤n:=by
 unfold a0G
 split
 ·simp [-bind_some]
 ·simp [-bind_some];omega
theorem c2z {g:Hp} {oc:Nat} {s:Cur} (hc:CuO g oc s) (n:Int):∃ d g',R a6s [.ptr oc 0 0,.int .i64 n] g=some (d,g')∧SlOf 1 byr (a0G s n).1 d∧CuO g' oc (a0G s n).2∧Same oc g g':=by
 suffices Wp (R a6s [.ptr oc 0 0,.int .i64 n] g) (fun p=>SlOf 1 byr (a0G s n).1 p.1∧CuO p.2 oc (a0G s n).2∧Same oc g p.2) by
  obtain ⟨⟨x,h'⟩,h1,h2⟩:=this
  exact ⟨x,h',h1,h2⟩
 obtain ⟨d,ho,hd,hu,hl⟩:=hc
 obtain ⟨l1,l2⟩:=b9V ho
 obtain ⟨b,bad⟩:=s
 simp only at ho hd hu hl l2
 rw [d0q]
 have bad1:∀ {β:Type} (F:Hp→Option β) (Q:β→Prop),(∀ g',SlOf 1 byr ([]:List Int) .nils→CuO g' oc (b,true)→Same oc g g'→Wp (F g') Q)→Wp ((a0h tab g ty4 (.ptr oc 0 (0+1)) (.bool true)).bind F) Q:=fun F Q k=>by
  refine c8R ho (by rfl) (by rfl) (by simp) (by rfl) fun g' h' s'=>?_
  exact k g' (.nils _ _) ⟨d,h',hd,hu,hl⟩ s'
 simp only [c5H,bs,a0v,a2I,a6m,l1,l2,a1P hd,a0p,d6W]
 by_cases hb:bad=true
 ·subst hb
  have ht:a0G (b,true) n=([],(b,true)):=by simp [-bind_some, a0G]
  rw [ht]
  simp only [reduceCtorEq,d6Y,if_false,bs,a0e,if_true,a0c,a0p]
  refine bad1 _ _ fun g' h1 h2 h3=>?_
  simp only [bs,a0i]
  exact .some ⟨h1,h2,h3⟩
 ·have hb:bad=false:=by simpa using hb
  subst hb
  by_cases hn:n<0
  ·have ht:a0G (b,false) n=([],(b,true)):=by simp [-bind_some, a0G,hn]
   rw [ht]
   simp only [a0p,a0v,a2I,l1,a1P hd,d6W,if_true,bs,a0k,hn,decide_true,reduceCtorEq,d6Y,d6X,if_false,a0e,a0c]
   refine bad1 _ _ fun g' h1 h2 h3=>?_
   simp only [bs,a0i]
   exact .some ⟨h1,h2,h3⟩
  ·by_cases hgt:n>(b.length:Int)
   ·have ht:a0G (b,false) n=([],(b,true)):=by simp [-bind_some, a0G,hn,hgt]
    rw [ht]
    simp only [a0p,a0v,a2I,l1,a1P hd,d6W,if_true,bs,a0k,hn,decide_false,a0u,hgt,decide_true,reduceCtorEq,d6Y,d6X,if_false,a0e,a0c]
    refine bad1 _ _ fun g' h1 h2 h3=>?_
    simp only [bs,a0i]
    exact .some ⟨h1,h2,h3⟩
   ·have ht:a0G (b,false) n=(b.take n.toNat,(b.drop n.toNat,false)):=by
      unfold a0G
      rw [if_neg (by simp only [d6X,false_or];omega)]
    rw [ht]
    obtain ⟨d1,e1,s1⟩:=a8F hd (k := .i64) (n:=n) (by omega) (by omega)
    obtain ⟨d2,e2,s2⟩:=b6e hd (k := .i64) (n:=n) (by omega) (by omega)
    simp only [a0p,a0v,a2I,l1,a1P hd,d6W,if_true,bs,a0k,hn,decide_false,a0u,hgt,reduceCtorEq,d6Y,d6X,if_false,a0e,a0c,e1,e2]
    have hcl:a0F d2=[d2]:=(a0H (a1x s2)).1
    refine c1e ho (kk:=0) (row:=[d,.bool false]) (by rfl) (by rw [hcl];rfl) (by simp) (a0H (a1x s2)).2 fun g' h' s'=>?_
    rw [hcl] at h'
    simp only [bs,a0i]
    exact .some ⟨s1,⟨d2,h',s2,fun z hz=>hu z (List.mem_of_mem_drop hz),by simp;omega⟩,s'⟩
theorem b2T (row:List D) (off:Nat) (v:D) (hv:v.one=true) (ho:off<row.length):spl row off (a0F v)=row.set off v:=by
 rw [(a0H hv).1]
 simp only [spl,List.length_singleton]
 rw [List.set_eq_take_append_cons_drop,if_pos ho]
 simp [-bind_some]
structure Cell (g:Hp) (oc o k off:Nat) (T z:Nat) (rows:List (List D)) (row:List D):Prop where
 ho:g[o]?=some (.row T z rows)
 hr:rows[k]?=some row
 lt:off<row.length
 ne:o≠oc
def Wrt (g g':Hp) (oc o:Nat):Prop:=g'.length=g.length∧∀ q,q≠oc→q≠o→g'[q]?=g[q]?
theorem c2y {g:Hp} {oc:Nat} {s:Cur} (hc:CuO g oc s) {o k off T z:Nat} {rows:List (List D)} {row:List D} (C:Cell g oc o k off T z rows row) {β:Type} {f:D × Hp→Option β} {Q:β→Prop}
  (K:∀ g',CuO g' oc (a0Q s).2→g'[o]?=some (.row T z (rows.set k (row.set off (.int .i64 (a0Q s).1))))→Wrt g g' oc o→Wp (f (a0l [],g')) Q):Wp ((R b4o [.ptr oc 0 0,.ptr o k off] g).bind f) Q:=by
 obtain ⟨d,g1,e1,h1,h2,h3⟩:=c2z hc 8
 have hu:=hc.choose_spec.2.2.1
 have e2:=c0R _ d g1 h1 (a3F s 8) (a4t hu 8).1
 have ho1:g1[o]?=some (.row T z rows):=by rw [h3.2 o C.ne];exact C.ho
 rw [d0o]
 simp only [c5F,bs,e1,e2,a3r,a0v,d6W]
 refine b5k ho1 C.hr (by rfl) (by have:=C.lt;omega) (by rfl) fun g2 p2 s2=>?_
 try simp only [bs]
 rw [b2T _ _ _ rfl C.lt] at p2
 refine K g2 ?_ p2 ⟨by rw [s2.1,h3.1],fun q q1 q2=>by rw [s2.2 q q2,h3.2 q q1]⟩
 obtain ⟨dd,x1,x2⟩:=h2
 exact ⟨dd,by rw [s2.2 oc (Ne.symm C.ne)];exact x1,x2⟩
theorem c6v {g:Hp} {oc:Nat} {s:Cur} (hc:CuO g oc s):∃ d g1,R a6s [.ptr oc 0 0,.int .i64 4] g=some (d,g1)∧R a7b [d] g1=some (.int .u64 (num (a0G s 4).1),g1)∧CuO g1 oc (a1z s).2∧Same oc g g1:=by
 obtain ⟨d,g1,e1,h1,h2,h3⟩:=c2z hc 4
 have hu:=hc.choose_spec.2.2.1
 exact ⟨d,g1,e1,c0R _ d g1 h1 (Nat.le_trans (a3F s 4) (by omega)) (a4t hu 4).1,h2,h3⟩
theorem b9L {g:Hp} {oc:Nat} {s:Cur} (hc:CuO g oc s) {o k off T z:Nat} {rows:List (List D)} {row:List D} (C:Cell g oc o k off T z rows row) {u:Str} (hold:row[off]?=some (.str u)) {β:Type} {f:D × Hp→Option β} {Q:β→Prop}
  (K:∀ g',CuO g' oc (a0R s).2→g'[o]?=some (.row T z (rows.set k (row.set off (.str ((a0R s).1.getD u)))))→Wrt g g' oc o→Wp (f (a0l [],g')) Q):Wp ((R b4p [.ptr oc 0 0,.ptr o k off] g).bind f) Q:=by
 obtain ⟨d,g1,e1,e2,h2,h3⟩:=c6v hc
 obtain ⟨d3,g3,e3,q1,q2,q3⟩:=c2z h2 (a1z s).1
 have e3:R a6s [.ptr oc 0 0,.int .i64 (IntKind.wrap .i64 (num (a0G s 4).1))] g1=some (d3,g3):=e3
 have st13:Same oc g g3:=h3.trans q3
 have ho3:g3[o]?=some (.row T z rows):=by rw [st13.2 o C.ne];exact C.ho
 obtain ⟨dd,x1,x2⟩:=q2
 have l2:=(b9V x1).2
 rw [d0p]
 simp only [c5G,bs,e1,e2,a3r,e3,a0v,a6m,l2,a1y,d6W]
 cases hbad:(a0G (a1z s).2 (a1z s).1).2.2 with
 | true =>
  have ht:a0R s=(none,(a0G (a1z s).2 (a1z s).1).2):=by unfold a0R;rw [if_pos hbad]
  rw [ht] at K
  simp only [hbad,d7h,a0c,d6X,if_false,bs,a2R]
  refine K g3 ⟨dd,x1,x2⟩ ?_ ⟨st13.1,fun q a _=>st13.2 q a⟩
  rw [ho3]
  have hrs:row.set off (.str u)=row:=by
   have hlt:=C.lt
   have:row[off] = .str u:=(d7n.1 hold).2
   rw [← this,List.set_getElem_self]
  have hrr:rows.set k row=rows:=by
   obtain ⟨hk1,hk2⟩:=d7n.1 C.hr
   rw [← hk2,List.set_getElem_self]
  simp only [Option.getD_none,hrs,hrr]
 | false =>
  have ht:a0R s=(some (bys (a0G (a1z s).2 (a1z s).1).1),(a0G (a1z s).2 (a1z s).1).2):=by unfold a0R;rw [if_neg (by rw [hbad];simp [-bind_some])]
  rw [ht] at K
  simp only [hbad,d7i,a0c,if_true,a3O q1,bs,d6W]
  refine c4H ho3 C.hr (by rfl) (by have:=C.lt;omega) (by rfl) fun g2 p2 s2=>?_
  rw [b2T _ _ _ rfl C.lt] at p2
  simp only [bs,a2R]
  exact K g2 ⟨dd,by rw [s2.2 oc (Ne.symm C.ne)];exact x1,x2⟩ p2 ⟨by rw [s2.1,st13.1],fun q a b=>by rw [s2.2 q b,st13.2 q a]⟩
theorem c8Z {g:Hp} {oc:Nat} {s:Cur} (hc:CuO g oc s) (m:D) {β:Type} {f:D × Hp→Option β} {Q:β→Prop}
  (K:∀ g',CuO g' oc (a0T s).2→Same oc g g'→Wp (f (.int .i64 (a0T s).1,g')) Q):Wp ((R b4n [.ptr oc 0 0,m] g).bind f) Q:=by
 obtain ⟨d,g1,e1,e2,h2,h3⟩:=c6v hc
 obtain ⟨dd,x1,x2,x3,x4⟩:=h2
 obtain ⟨l1,l2⟩:=b9V x1
 rw [d0n]
 have hn:(a1z s).1=IntKind.wrap .i64 (num (a0G s 4).1):=rfl
 have wq:IntKind.wrap .i64 (((a1z s).2.1.length:Int).tdiv 8)=((a1z s).2.1.length:Int).tdiv 8:=by
  rw [Int.tdiv_eq_ediv_of_nonneg (by omega)]
  exact wrap_i64 (by omega) (by omega)
 have bad1:∀ {γ:Type} (F:Hp→Option γ) (Q:γ→Prop),(∀ g',CuO g' oc ((a1z s).2.1,true)→Same oc g g'→Wp (F g') Q)→Wp ((a0h tab g1 ty4 (.ptr oc 0 (0+1)) (.bool true)).bind F) Q:=fun F Q k=>by
  refine c8R x1 (by rfl) (by rfl) (by simp) (by rfl) fun g' h' s'=>?_
  exact k g' ⟨dd,h',x2,x3,x4⟩ (h3.trans s')
 simp only [c5E,bs,e1,e2,a3r,← hn,a0v,a2I,a6m,l1,l2,a0p,a1P x2,d6W]
 cases hb:(a1z s).2.2 with
 | true =>
  have ht:a0T s=(0,((a1z s).2.1,true)):=by unfold a0T;rw [if_pos (.inl hb)]
  rw [ht] at K
  simp only [a0p,a0v,a2I,l1,a1P x2,reduceCtorEq,d6Y,if_false,bs,a0e,if_true,a0c,d6W]
  refine bad1 _ _ fun g' h1 h2=>?_
  simp only [bs,a0i]
  exact K g' h1 h2
 | false =>
  by_cases hgt:(a1z s).1>((a1z s).2.1.length:Int).tdiv 8
  ·have ht:a0T s=(0,((a1z s).2.1,true)):=by unfold a0T;rw [if_pos (.inr hgt)]
   rw [ht] at K
   simp only [a0p,a0v,a2I,l1,a1P x2,if_true,bs,a9O,show ¬ ((8:Int)=0) by omega,if_false,wq,a0u,hgt,decide_true,reduceCtorEq,d6Y,d6X,a0e,a0c,d6W]
   refine bad1 _ _ fun g' h1 h2=>?_
   simp only [bs,a0i]
   exact K g' h1 h2
  ·have ht:a0T s=a1z s:=by unfold a0T;rw [if_neg (by rw [hb];simp only [d6X,false_or];exact hgt)]
   rw [ht] at K
   simp only [a0p,a0v,a2I,l1,a1P x2,if_true,bs,a9O,show ¬ ((8:Int)=0) by omega,if_false,wq,a0u,hgt,decide_false,reduceCtorEq,d6Y,d6X,a0e,a0c,d6W,a0i]
   exact K g1 ⟨dd,x1,x2,x3,x4⟩ h3
def a4G (s:Cur):Lin × Cur:=(⟨(a0Q s).1,(a0Q (a0Q s).2).1,(a0R (a0Q (a0Q s).2).2).1.getD []⟩,(a0R (a0Q (a0Q s).2).2).2)
def a4p:Nat→Cur→List Lin × Cur
 | 0,s=>([],s)
 | n+1,s=>((a4G s).1::(a4p n (a4G s).2).1,(a4p n (a4G s).2).2)
def fdS (s:Cur):(Str × Str) × Cur:=(((a0R s).1.getD [],(a0R (a0R s).2).1.getD []),(a0R (a0R s).2).2)
def a4F:Nat→Cur→List (Str × Str) × Cur
 | 0,s=>([],s)
 | n+1,s=>((fdS s).1::(a4F n (fdS s).2).1,(a4F n (fdS s).2).2)
theorem c8N (d:D):a0q tab (.fn (.method "logtide/event.number") [.iface a4g d] [])=some (.fn (.method "logtide/event.number") [.iface a4g d] []):=by kernel_rfl
theorem c8O (d:D):a0q tab (.fn (.method "logtide/event.text") [.iface a4g d] [])=some (.fn (.method "logtide/event.text") [.iface a4g d] []):=by kernel_rfl
theorem d2g (d:D):a0q tab (.fn (.method "logtide/event.count") [.iface a4g d] [])=some (.fn (.method "logtide/event.count") [.iface a4g d] []):=by kernel_rfl
structure ViS (n0 oi oc:Nat) (h0 g:Hp) (row:List D) (s:Cur):Prop where
 hi:g[oi]?=some (.row a0P 11 [row])
 hc:CuO g oc s
 lo:∀ q,q<n0→g[q]?=h0[q]?
 ni:n0≤oi
 nc:n0≤oc
theorem ViS.ne {n0 oi oc:Nat} {h0 g:Hp} {row:List D} {s:Cur} (v:ViS n0 oi oc h0 g row s):oi≠oc:=fun hh=>by
 obtain ⟨d,h1,_⟩:=v.hc
 rw [← hh,v.hi] at h1
 injection h1 with h1
 injection h1 with h2
 exact absurd h2 (by decide)
theorem ViS.ln {n0 oi oc:Nat} {h0 g:Hp} {row:List D} {s:Cur} (v:ViS n0 oi oc h0 g row s):n0≤g.length:=by
 have:=(d7n.1 v.hi).1
 have:=v.ni
 omega
theorem a2m {g:Hp} {n e z o T z':Nat} {rows:List (List D)} {rr:List (List D)} {d:D} (ow:Own g n e z rows d) (ho:g[o]?=some (.row T z' rr)) (hne:e≠T) {q:Nat} (hq:d.inOb q):q≠o:=fun hh=>by
 have:=a1T ow hq
 rw [hh,ho] at this
 injection this with this
 injection this with h2
 exact hne h2.symm
theorem Own.wrt {g g':Hp} {oc o n e z:Nat} {rows:List (List D)} {d:D} (ow:Own g n e z rows d) (hw:Wrt g g' oc o) {T1 z1 T2 z2:Nat} {r1 r2:List (List D)} (h1:g[oc]?=some (.row T1 z1 r1)) (h2:g[o]?=some (.row T2 z2 r2)) (e1:e≠T1) (e2:e≠T2):Own g' n e z rows d :=
 ow.keep fun q _ hx=>hw.2 q (a2m ow h1 e1 hx) (a2m ow h2 e2 hx)
theorem c4G {n0 oi oc:Nat} {h0 g:Hp} {row:List D} {s:Cur} (v:ViS n0 oi oc h0 g row s) (off:Nat) (hoff:off<row.length) {β:Type} {f:D × Hp→Option β} {Q:β→Prop}
  (K:∀ g',ViS n0 oi oc h0 g' (row.set off (.int .i64 (a0Q s).1)) (a0Q s).2→Wrt g g' oc oi→Wp (f (a0l [],g')) Q):Wp ((R b4o [.ptr oc 0 0,.ptr oi 0 off] g).bind f) Q :=
 c2y v.hc ⟨v.hi,rfl,hoff,v.ne⟩ fun g' h1 h2 h3=>K g' ⟨h2,h1,fun q hq=>by rw [h3.2 q (by have:=v.nc;omega) (by have:=v.ni;omega)];exact v.lo q hq,v.ni,v.nc⟩ h3
theorem c4m {n0 oi oc:Nat} {h0 g:Hp} {row:List D} {s:Cur} (v:ViS n0 oi oc h0 g row s) (off:Nat) {u:Str} (hu:row[off]?=some (.str u)) {β:Type} {f:D × Hp→Option β} {Q:β→Prop}
  (K:∀ g',ViS n0 oi oc h0 g' (row.set off (.str ((a0R s).1.getD u))) (a0R s).2→Wrt g g' oc oi→Wp (f (a0l [],g')) Q):Wp ((R b4p [.ptr oc 0 0,.ptr oi 0 off] g).bind f) Q :=
 b9L v.hc ⟨v.hi,rfl,(d7n.1 hu).1,v.ne⟩ hu fun g' h1 h2 h3=>K g' ⟨h2,h1,fun q hq=>by rw [h3.2 q (by have:=v.nc;omega) (by have:=v.ni;omega)];exact v.lo q hq,v.ni,v.nc⟩ h3
theorem c2i {n0 oi oc:Nat} {h0 g:Hp} {row:List D} {s:Cur} (v:ViS n0 oi oc h0 g row s) (m:D) {β:Type} {f:D × Hp→Option β} {Q:β→Prop}
  (K:∀ g',ViS n0 oi oc h0 g' row (a0T s).2→Wrt g g' oc oi→Wp (f (.int .i64 (a0T s).1,g')) Q):Wp ((R b4n [.ptr oc 0 0,m] g).bind f) Q :=
 c8Z v.hc m fun g' h1 h2=>K g' ⟨by rw [h2.2 oi v.ne];exact v.hi,h1,fun q hq=>by rw [h2.2 q (by have:=v.nc;omega)];exact v.lo q hq,v.ni,v.nc⟩ ⟨h2.1,fun q a _=>h2.2 q a⟩
theorem a6Y {g:Hp} {oc:Nat} {s:Cur} (hc:CuO g oc s):0≤(a0T s).1∧(a0T s).1≤1000000000:=by
 obtain ⟨d,h1,h2,h3,h4⟩:=hc
 have h5:=a4t h3 4
 have hl:(a0G s 4).1.length≤4:=a3F s 4
 obtain ⟨r0,r1⟩:=a2k _ _ rfl h5.1
 have r2:num (a0G s 4).1<4294967296:=by
  have hc:(a0G s 4).1.length=0∨(a0G s 4).1.length=1∨(a0G s 4).1.length=2∨(a0G s 4).1.length=3∨(a0G s 4).1.length=4:=by omega
  rcases hc with h | h | h | h | h <;> rw [h] at r1 <;> omega
 have hn:(a1z s).1=num (a0G s 4).1:=wrap_i64 (by omega) (by omega)
 unfold a0T
 split
 ·exact ⟨by simp,by simp⟩
 ·rename_i hh
  have h6:((a1z s).2.1.length:Int)≤1000000000:=by
   have:(a1z s).2.1.length≤s.1.length:=h5.2.2
   omega
  rw [Int.tdiv_eq_ediv_of_nonneg (by omega)] at hh
  have h7:¬ ((a1z s).2.1.length:Int) / 8<(a1z s).1:=fun hx=>hh (.inr hx)
  rw [hn] at h7
  rw [hn]
  omega
def itc (r:Str) (a0 a1 a2 a3:Int) (ld:D) (a5 a6:Int) (s7 s8:Str) (fd:D):List D:=[.str r,.int .i64 a0,.int .i64 a1,.int .i64 a2,.int .i64 a3,ld,.int .i64 a5,.int .i64 a6,.str s7,.str s8,fd]
theorem c3i {g:Hp} {oi:Nat} {r:Str} {a0 a1 a2 a3:Int} {ld:D} {a5 a6:Int} {t7 t8:Str} {fd:D} (h:g[oi]?=some (.row a0P 11 [itc r a0 a1 a2 a3 ld a5 a6 t7 t8 fd])):a0b tab g a1j (.ptr oi 0 (0+1+4))=some ld∧a0b tab g a1d (.ptr oi 0 (0+1+9))=some fd:=⟨by rw [b7P,a0O h];rfl,by rw [c7k,a0O h];rfl⟩
def a3G:List D:=[.int .i64 0,.int .i64 0,.str []]
theorem c8k {n0 oi oc:Nat} {h0:Hp} {r:Str} {a0 a1 a2 a3:Int} {a5 a6:Int} {t7 t8:Str} {fd:D} {g:Hp} {s:Cur} (N:Nat) (hN:N≤1000000000) {pp:D × Hp} (hpp:pp.1 = .int .i64 N) (v:ViS n0 oi oc h0 g (itc r a0 a1 a2 a3 .nils a5 a6 t7 t8 fd) s) (hfd:fd = .nils) (x1 x2 x3 x4:D) {β:Type} {K:Out→Option β} {Q:β→Prop}
  (k:∀ g' ld b1 b2 b3 b4 b5,ViS n0 oi oc h0 g' (itc r a0 a1 a2 a3 ld a5 a6 t7 t8 fd) (a4p N s).2→Own g' n0 a1r 3 ((a4p N s).1.map a1L) ld→Wp (K (.ext 2,[b1,b2,b3,b4,b5],g')) Q):Wp ((a0N (a7q (.iface a4g (.ptr oc 0 0)) (.ptr oi 0 (0+1)) pp) [x1,x2,.int .i64 0,x3,x4] g).bind K) Q:=by
 refine Wp.loop (fun kk ds g'=>∃ b1 b2 b4 b5 ld,∃ n:Nat,∃ L:List Lin,∃ s':Cur,ds=[b1,b2,.int .i64 n,b4,b5]∧kk+n=N∧ViS n0 oi oc h0 g' (itc r a0 a1 a2 a3 ld a5 a6 t7 t8 fd) s'∧Own g' n0 a1r 3 (L.map a1L) ld∧L.length=n∧L++(a4p (N - n) s').1=(a4p N s).1∧(a4p (N - n) s').2=(a4p N s).2)
  (fun r2=>r2.1 = .ext 2∧∃ b1 b2 b3 b4 b5 ld,r2.2.1=[b1,b2,b3,b4,b5]∧ViS n0 oi oc h0 r2.2.2 (itc r a0 a1 a2 a3 ld a5 a6 t7 t8 fd) (a4p N s).2∧Own r2.2.2 n0 a1r 3 ((a4p N s).1.map a1L) ld) N ⟨_,_,_,_,.nils,0,[],s,rfl,rfl,v,Own.nils _ _ _ _,rfl,by simp,by simp⟩ ?_ ?_
 ·rintro kk ds g' ⟨b1,b2,b4,b5,ld,n,L,s',rfl,hk,v',ow,hL,e1,e2⟩
  simp only [a7q,a0f,a0o,bs,d6W,hpp,a0k]
  refine Wp.dif ?_ ?_
  ·intro h1
   have h1:n<N:=by
    have:(n:Int)<(N:Int):=by simpa using h1
    omega
   have hw:=wi_ n (by omega)
   have hll:((L.map a1L).length:Int)=n:=by simp [-bind_some, hL]
   have hbz:a0W tab a1j 1 [0] [.agg a3G]=some (.sl 3 true [a3G]):=id rfl
   have hzl:a0K tab a1r [] []=some (.agg a3G):=id rfl
   simp only [a0v,a3Q,(c3i v'.hi).1,c1E ow,hll,bs,a0S,decide_true,a0c,if_true,hzl,hbz,d6W]
   refine b9m (ys:=[a3G]) v'.ln ow (a1l _ _ _ _) (by simp;omega) fun ld2 g2 ow2 len2 bel2 old2 _=>?_
   obtain ⟨dc,c1,c2,c3,c4⟩:=v'.hc
   have hi2:g2[oi]?=some (.row a0P 11 [itc r a0 a1 a2 a3 ld a5 a6 t7 t8 fd]):=by rw [old2 oi (d7n.1 v'.hi).1 (fun hx=>a2m ow v'.hi (by decide) hx rfl)];exact v'.hi
   have hc2:g2[oc]?=some (.row a1Z 2 [[dc,.bool s'.2]]):=by rw [old2 oc (d7n.1 c1).1 (fun hx=>a2m ow c1 (by decide) hx rfl)];exact c1
   simp only [bs]
   refine b9r hi2 (by rfl) (by rw [(a0H (a2l ow2)).1];rfl) (by simp [-bind_some, itc]) (a0H (a2l ow2)).2 fun g3 p3 s3=>?_
   rw [(a0H (a2l ow2)).1] at p3
   have p3:g3[oi]?=some (.row a0P 11 [itc r a0 a1 a2 a3 ld2 a5 a6 t7 t8 fd]):=p3
   have hc3:g3[oc]?=some (.row a1Z 2 [[dc,.bool s'.2]]):=by rw [s3.2 oc (Ne.symm v'.ne)];exact hc2
   have ow3:Own g3 n0 a1r 3 (L.map a1L++[a3G]) ld2:=ow2.keep fun q _ hx=>s3.2 q (a2m ow2 hi2 (by decide) hx)
   have v3:ViS n0 oi oc h0 g3 (itc r a0 a1 a2 a3 ld2 a5 a6 t7 t8 fd) s':=⟨p3,⟨dc,hc3,c2,c3,c4⟩,fun q hq=>by rw [s3.2 q (by have:=v'.ni;omega),bel2 q hq];exact v'.lo q hq,v'.ni,v'.nc⟩
   obtain ⟨ol,hol,hld2,ho3⟩:=b1G ow3 (i:=n) (by simp;omega)
   have hlen3:(L.map a1L++[a3G]).length=n+1:=by simp [-bind_some, hL]
   have hrn:(L.map a1L++[a3G])[n]?=some a3G:=by rw [List.getElem?_append_right (by simp [-bind_some, hL])];simp [-bind_some, hL]
   have hne3:ol≠oc:=fun hh=>by rw [hh,hc3] at ho3;injection ho3 with ho3;injection ho3 with h2;exact absurd h2 (by decide)
   have hne3i:ol≠oi:=fun hh=>by rw [hh,p3] at ho3;injection ho3 with ho3;injection ho3 with h2;exact absurd h2 (by decide)
   have i0:(0:Int)≤(n:Int)∧(n:Int)<(((L.map a1L++[a3G]).length:Nat):Int):=by omega
   have hix:a0d tab a1j ld2 (.int .i64 (n:Int))=some (.ptr ol n 0):=by rw [hld2,c7a,if_pos i0];simp [-bind_some]
   simp only [bs,a0r,a0v,a3Q,(c3i v3.hi).1,hix,a3l,a3m,a3n,c8N,c8O,a1W,a3g,d6W]
   refine c2y v3.hc ⟨ho3,hrn,by simp [-bind_some, a3G],hne3⟩ fun g4 q1 q2 q3=>?_
   have hsn:∀ (x:List D),(L.map a1L++[a3G]).set n x=L.map a1L++[x]:=fun x=>by rw [List.set_append_right _ _ (by simp [-bind_some, hL])];simp [-bind_some, hL]
   rw [hsn] at q2
   have hgn:∀ (x:List D),(L.map a1L++[x])[n]?=some x:=fun x=>by rw [List.getElem?_append_right (by simp [-bind_some, hL])];simp [-bind_some, hL]
   have hsn':∀ (y x:List D),(L.map a1L++[y]).set n x=L.map a1L++[x]:=fun y x=>by rw [List.set_append_right _ _ (by simp [-bind_some, hL])];simp [-bind_some, hL]
   simp only [bs]
   refine c2y q1 ⟨q2,hgn _,by simp [-bind_some, a3G],hne3⟩ fun g5 q4 q5 q6=>?_
   rw [hsn'] at q5
   simp only [bs]
   refine b9L q4 ⟨q5,hgn _,by simp [-bind_some, a3G],hne3⟩ (u:=[]) (by rfl) fun g6 q7 q8 q9=>?_
   rw [hsn'] at q8
   have q8:g6[ol]?=some (.row a1r 3 (L.map a1L++[a1L (a4G s').1])):=q8
   simp only [bs,a0t,hw]
   have hN:N - n=(N - (n+1))+1:=by omega
   rw [hN] at e1 e2
   refine .some (.inl ⟨rfl,kk - 1,by omega,_,_,_,_,ld2,n+1,L++[(a4G s').1],(a4G s').2,rfl,by omega,⟨?_,q7,fun q hq=>?_,v'.ni,v'.nc⟩,?_,by simp [-bind_some, hL],?_,?_⟩)
   ·rw [q9.2 oi v3.ne (Ne.symm hne3i),q6.2 oi v3.ne (Ne.symm hne3i),q3.2 oi v3.ne (Ne.symm hne3i)];exact p3
   ·have a1:=v'.nc
    rw [q9.2 q (by omega) (by omega),q6.2 q (by omega) (by omega),q3.2 q (by omega) (by omega)]
    exact v3.lo q hq
   ·refine .inr ⟨ol,hol,?_,by rw [q8];simp [-bind_some]⟩
    rw [hld2,hlen3];simp [-bind_some, hL]
   ·rw [← e1];simp [-bind_some, a4p]
   ·rw [← e2];simp [-bind_some, a4p]
  ·intro h1
   have h1:n=N:=by
    have:¬ (n:Int)<(N:Int):=by simpa using h1
    omega
   subst h1
   rw [Nat.sub_self] at e1 e2
   have f1:L++[]=(a4p n s).1:=e1
   have f2:s'=(a4p n s).2:=e2
   rw [List.append_nil] at f1
   rw [f2] at v'
   exact .some (.inr ⟨by simp,rfl,_,_,_,_,_,ld,rfl,v',by rw [← f1];exact ow⟩)
 ·rintro ⟨ex,ds,g'⟩ ⟨rfl,b1,b2,b3,b4,b5,ld,rfl,v',ow⟩
  exact k g' ld b1 b2 b3 b4 b5 v' ow
def a8u:List D:=[.str [],.str []]
theorem c4i {n0 oi oc:Nat} {h0:Hp} {r:Str} {a0 a1 a2 a3:Int} {a5 a6:Int} {t7 t8:Str} {ld:D} {L:List Lin} {g:Hp} {s:Cur} (N:Nat) (hN:N≤1000000000) {pp:D × Hp} (hpp:pp.1 = .int .i64 N) (v:ViS n0 oi oc h0 g (itc r a0 a1 a2 a3 ld a5 a6 t7 t8 .nils) s) (hld:Own g n0 a1r 3 (L.map a1L) ld) (x1 x2 x3:D) {β:Type} {K:Out→Option β} {Q:β→Prop}
  (k:∀ g' fd b1 b2 b3 b4,ViS n0 oi oc h0 g' (itc r a0 a1 a2 a3 ld a5 a6 t7 t8 fd) (a4F N s).2→Own g' n0 a1r 3 (L.map a1L) ld→Own g' n0 a0x 2 ((a4F N s).1.map fld) fd→Wp (K (.ext 4,[b1,b2,b3,b4],g')) Q):Wp ((a0N (a7r (.iface a4g (.ptr oc 0 0)) (.ptr oi 0 (0+1)) pp) [x1,.int .i64 0,x2,x3] g).bind K) Q:=by
 refine Wp.loop (fun kk ds g'=>∃ b1 b4 b5 fd,∃ n:Nat,∃ M:List (Str × Str),∃ s':Cur,ds=[b1,.int .i64 n,b4,b5]∧kk+n=N∧ViS n0 oi oc h0 g' (itc r a0 a1 a2 a3 ld a5 a6 t7 t8 fd) s'∧Own g' n0 a1r 3 (L.map a1L) ld∧Own g' n0 a0x 2 (M.map fld) fd∧M.length=n∧M++(a4F (N - n) s').1=(a4F N s).1∧(a4F (N - n) s').2=(a4F N s).2)
  (fun r2=>r2.1 = .ext 4∧∃ b1 b2 b3 b4 fd,r2.2.1=[b1,b2,b3,b4]∧ViS n0 oi oc h0 r2.2.2 (itc r a0 a1 a2 a3 ld a5 a6 t7 t8 fd) (a4F N s).2∧Own r2.2.2 n0 a1r 3 (L.map a1L) ld∧Own r2.2.2 n0 a0x 2 ((a4F N s).1.map fld) fd) N ⟨_,_,_,.nils,0,[],s,rfl,rfl,v,hld,Own.nils _ _ _ _,rfl,by simp,by simp⟩ ?_ ?_
 ·rintro kk ds g' ⟨b1,b4,b5,fd,n,M,s',rfl,hk,v',owL,ow,hL,e1,e2⟩
  simp only [a7r,a0f,a0o,bs,d6W,hpp,a0k]
  refine Wp.dif ?_ ?_
  ·intro h1
   have h1:n<N:=by
    have:(n:Int)<(N:Int):=by simpa using h1
    omega
   have hw:=wi_ n (by omega)
   have hll:((M.map fld).length:Int)=n:=by simp [-bind_some, hL]
   have hbz:a0W tab a1d 1 [0] [.agg a8u]=some (.sl 2 true [a8u]):=id rfl
   have hzl:a0K tab a0x [] []=some (.agg a8u):=id rfl
   simp only [a0v,a6J,(c3i v'.hi).2,c1F ow,hll,bs,a0S,decide_true,a0c,if_true,hzl,hbz,d6W]
   refine c1d (ys:=[a8u]) v'.ln ow (a1l _ _ _ _) (by simp;omega) fun fd2 g2 ow2 len2 bel2 old2 _=>?_
   obtain ⟨dc,c1,c2,c3,c4⟩:=v'.hc
   have hi2:g2[oi]?=some (.row a0P 11 [itc r a0 a1 a2 a3 ld a5 a6 t7 t8 fd]):=by rw [old2 oi (d7n.1 v'.hi).1 (fun hx=>a2m ow v'.hi (by decide) hx rfl)];exact v'.hi
   have hc2:g2[oc]?=some (.row a1Z 2 [[dc,.bool s'.2]]):=by rw [old2 oc (d7n.1 c1).1 (fun hx=>a2m ow c1 (by decide) hx rfl)];exact c1
   have owL2:Own g2 n0 a1r 3 (L.map a1L) ld:=owL.keep fun q _ hx=>old2 q (owL.lt hx).2 (b8o owL ow (by decide) hx)
   simp only [bs]
   refine c8r hi2 (by rfl) (by rw [(a0H (a2l ow2)).1];rfl) (by simp [-bind_some, itc]) (a0H (a2l ow2)).2 fun g3 p3 s3=>?_
   rw [(a0H (a2l ow2)).1] at p3
   have p3:g3[oi]?=some (.row a0P 11 [itc r a0 a1 a2 a3 ld a5 a6 t7 t8 fd2]):=p3
   have hc3:g3[oc]?=some (.row a1Z 2 [[dc,.bool s'.2]]):=by rw [s3.2 oc (Ne.symm v'.ne)];exact hc2
   have ow3:Own g3 n0 a0x 2 (M.map fld++[a8u]) fd2:=ow2.keep fun q _ hx=>s3.2 q (a2m ow2 hi2 (by decide) hx)
   have owL3:Own g3 n0 a1r 3 (L.map a1L) ld:=owL2.keep fun q _ hx=>s3.2 q (a2m owL2 hi2 (by decide) hx)
   have v3:ViS n0 oi oc h0 g3 (itc r a0 a1 a2 a3 ld a5 a6 t7 t8 fd2) s':=⟨p3,⟨dc,hc3,c2,c3,c4⟩,fun q hq=>by rw [s3.2 q (by have:=v'.ni;omega),bel2 q hq];exact v'.lo q hq,v'.ni,v'.nc⟩
   obtain ⟨ol,hol,hld2,ho3⟩:=b1G ow3 (i:=n) (by simp;omega)
   have hlen3:(M.map fld++[a8u]).length=n+1:=by simp [-bind_some, hL]
   have hrn:(M.map fld++[a8u])[n]?=some a8u:=by rw [List.getElem?_append_right (by simp [-bind_some, hL])];simp [-bind_some, hL]
   have hne3:ol≠oc:=fun hh=>by rw [hh,hc3] at ho3;injection ho3 with ho3;injection ho3 with h2;exact absurd h2 (by decide)
   have hne3i:ol≠oi:=fun hh=>by rw [hh,p3] at ho3;injection ho3 with ho3;injection ho3 with h2;exact absurd h2 (by decide)
   have i0:(0:Int)≤(n:Int)∧(n:Int)<(((M.map fld++[a8u]).length:Nat):Int):=by omega
   have hix:a0d tab a1d fd2 (.int .i64 (n:Int))=some (.ptr ol n 0):=by rw [hld2,a8B,if_pos i0];simp [-bind_some]
   simp only [bs,a0r,a0v,a6J,(c3i v3.hi).2,hix,a6k,a9X,c8N,c8O,a1W,a3g,d6W]
   have hsn:∀ (x:List D),(M.map fld++[a8u]).set n x=M.map fld++[x]:=fun x=>by rw [List.set_append_right _ _ (by simp [-bind_some, hL])];simp [-bind_some, hL]
   have hgn:∀ (x:List D),(M.map fld++[x])[n]?=some x:=fun x=>by rw [List.getElem?_append_right (by simp [-bind_some, hL])];simp [-bind_some, hL]
   have hsn':∀ (y x:List D),(M.map fld++[y]).set n x=M.map fld++[x]:=fun y x=>by rw [List.set_append_right _ _ (by simp [-bind_some, hL])];simp [-bind_some, hL]
   refine b9L v3.hc ⟨ho3,hrn,by simp [-bind_some, a8u],hne3⟩ (u:=[]) (by rfl) fun g4 q1 q2 q3=>?_
   rw [hsn] at q2
   have hi4:g4[oi]?=some (.row a0P 11 [itc r a0 a1 a2 a3 ld a5 a6 t7 t8 fd2]):=by rw [q3.2 oi v3.ne (Ne.symm hne3i)];exact p3
   simp only [bs,(c3i hi4).2,hix,a9X,a0v,a3g]
   refine b9L q1 ⟨q2,hgn _,by simp [-bind_some, a8u],hne3⟩ (u:=[]) (by rfl) fun g6 q7 q8 q9=>?_
   rw [hsn'] at q8
   have q8:g6[ol]?=some (.row a0x 2 (M.map fld++[fld (fdS s').1])):=q8
   simp only [bs,a0t,hw]
   have hN:N - n=(N - (n+1))+1:=by omega
   rw [hN] at e1 e2
   have keepL:Own g6 n0 a1r 3 (L.map a1L) ld:=by
    have k4:Own g4 n0 a1r 3 (L.map a1L) ld:=owL3.keep fun q _ hx=>q3.2 q (a2m owL3 hc3 (by decide) hx) (a2m owL3 ho3 (by decide) hx)
    obtain ⟨dd,y1,_⟩:=q1
    exact k4.keep fun q _ hx=>q9.2 q (a2m k4 y1 (by decide) hx) (a2m k4 q2 (by decide) hx)
   refine .some (.inl ⟨rfl,kk - 1,by omega,_,_,_,fd2,n+1,M++[(fdS s').1],(fdS s').2,rfl,by omega,⟨?_,q7,fun q hq=>?_,v'.ni,v'.nc⟩,keepL,?_,by simp [-bind_some, hL],?_,?_⟩)
   ·rw [q9.2 oi v3.ne (Ne.symm hne3i)];exact hi4
   ·have a1:=v'.nc
    rw [q9.2 q (by omega) (by omega),q3.2 q (by omega) (by omega)]
    exact v3.lo q hq
   ·refine .inr ⟨ol,hol,?_,by rw [q8];simp [-bind_some]⟩
    rw [hld2,hlen3];simp [-bind_some, hL]
   ·rw [← e1];simp [-bind_some, a4F]
   ·rw [← e2];simp [-bind_some, a4F]
  ·intro h1
   have h1:n=N:=by
    have:¬ (n:Int)<(N:Int):=by simpa using h1
    omega
   subst h1
   rw [Nat.sub_self] at e1 e2
   have f1:M++[]=(a4F n s).1:=e1
   have f2:s'=(a4F n s).2:=e2
   rw [List.append_nil] at f1
   rw [f2] at v'
   exact .some (.inr ⟨by simp,rfl,_,_,_,_,fd,rfl,v',owL,by rw [← f1];exact ow⟩)
 ·rintro ⟨ex,ds,g'⟩ ⟨rfl,b1,b2,b3,b4,fd,rfl,v',owL,ow⟩
  exact k g' fd b1 b2 b3 b4 v' owL ow
structure RI where
 r:Str
 a0:Int
 a1:Int
 a2:Int
 a3:Int
 ls:List Lin
 a5:Int
 a6:Int
 t7:Str
 t8:Str
 fs:List (Str × Str)
def a3U (s:Cur):Cur:=(a0Q (a0Q (a0Q (a0Q (a0R s).2).2).2).2).2
def a6W (s:Cur):Cur:=(a4p (a0T (a3U s)).1.toNat (a0T (a3U s)).2).2
def a5T (s:Cur):Cur:=(a0R (a0R (a0Q (a0Q (a6W s)).2).2).2).2
def a1V (s:Cur):RI :=
 { r:=(a0R s).1.getD [],a0:=(a0Q (a0R s).2).1,a1:=(a0Q (a0Q (a0R s).2).2).1,a2:=(a0Q (a0Q (a0Q (a0R s).2).2).2).1,a3:=(a0Q (a0Q (a0Q (a0Q (a0R s).2).2).2).2).1,
   ls:=(a4p (a0T (a3U s)).1.toNat (a0T (a3U s)).2).1,a5:=(a0Q (a6W s)).1,a6:=(a0Q (a0Q (a6W s)).2).1,t7:=(a0R (a0Q (a0Q (a6W s)).2).2).1.getD [],t8:=(a0R (a0R (a0Q (a0Q (a6W s)).2).2).2).1.getD [],
   fs:=(a4F (a0T (a5T s)).1.toNat (a0T (a5T s)).2).1 }
def a6C (s:Cur):Cur:=(a4F (a0T (a5T s)).1.toNat (a0T (a5T s)).2).2
def RI.row (x:RI) (ld fd:D):List D:=itc x.r x.a0 x.a1 x.a2 x.a3 ld x.a5 x.a6 x.t7 x.t8 fd
theorem d3y {n0 oi oc:Nat} {h0 g:Hp} {s:Cur} (v:ViS n0 oi oc h0 g (itc [] 0 0 0 0 .nils 0 0 [] [] .nils) s) {β:Type} {f:D × Hp→Option β} {Q:β→Prop}
  (k:∀ g2 ld fd,ViS n0 oi oc h0 g2 ((a1V s).row ld fd) (a6C s)→Own g2 n0 a1r 3 ((a1V s).ls.map a1L) ld→Own g2 n0 a0x 2 ((a1V s).fs.map fld) fd→Wp (f (a0l [],g2)) Q):Wp ((R b1f [.iface a4g (.ptr oc 0 0),.ptr oi 0 0] g).bind f) Q:=by
 rw [c6J]
 simp only [c2r,bs,d6W,a0v,b2r,a4k,c8O,c8N,d2g,a3g,a1W,a4n,b2m,a9Y,a4O,a4P]
 refine c4m v 0 (u:=[]) (by rfl) fun g1 v1 _=>?_
 have v1:ViS n0 oi oc h0 g1 (itc (a1V s).r 0 0 0 0 .nils 0 0 [] [] .nils) (a0R s).2:=v1
 simp only [bs,b3F (.ptr oi 0 (0+1+0)) (.ptr oi 0 (0+1+1)) (.ptr oi 0 (0+1+2)) (.ptr oi 0 (0+1+3)) rfl rfl rfl rfl,show ([[.ptr oi 0 (0+1+0)],[.ptr oi 0 (0+1+1)],[.ptr oi 0 (0+1+2)],[.ptr oi 0 (0+1+3)]]:List (List D))=pl4 oi from rfl,b7Q,show (pl4 oi).length=4 from rfl]
 refine Wp.loop (fun kk ds g'=>∃ a b,∃ n:Nat,ds=[a,.int .i64 n,b]∧kk+n=4∧((n=0∧ViS n0 oi oc h0 g' (itc (a1V s).r 0 0 0 0 .nils 0 0 [] [] .nils) (a0R s).2)∨(n=1∧ViS n0 oi oc h0 g' (itc (a1V s).r (a1V s).a0 0 0 0 .nils 0 0 [] [] .nils) (a0Q (a0R s).2).2) ∨
   (n=2∧ViS n0 oi oc h0 g' (itc (a1V s).r (a1V s).a0 (a1V s).a1 0 0 .nils 0 0 [] [] .nils) (a0Q (a0Q (a0R s).2).2).2)∨(n=3∧ViS n0 oi oc h0 g' (itc (a1V s).r (a1V s).a0 (a1V s).a1 (a1V s).a2 0 .nils 0 0 [] [] .nils) (a0Q (a0Q (a0Q (a0R s).2).2).2).2) ∨
   (n=4∧ViS n0 oi oc h0 g' (itc (a1V s).r (a1V s).a0 (a1V s).a1 (a1V s).a2 (a1V s).a3 .nils 0 0 [] [] .nils) (a3U s))))
  (fun r=>r.1 = .ext 0∧(∃ a b c,r.2.1=[a,b,c])∧ViS n0 oi oc h0 r.2.2 (itc (a1V s).r (a1V s).a0 (a1V s).a1 (a1V s).a2 (a1V s).a3 .nils 0 0 [] [] .nils) (a3U s)) 4 ⟨_,_,0,rfl,rfl,.inl ⟨rfl,v1⟩⟩ ?_ ?_
 ·rintro kk ds g' ⟨a,b,n,rfl,hk,hv⟩
  simp only [a9B,a0f,a0o,bs,d6W,a0k]
  have ix:∀ j:Nat,j<4→a0d tab a6B (.sl 1 true (pl4 oi)) (.int .i64 j)=some (.fptr [.ptr oi 0 (0+1+j)]):=fun j hj=>by
   have:j=0∨j=1∨j=2∨j=3:=by omega
   rcases this with rfl | rfl | rfl | rfl <;> (rw [b1u];rfl)
  rcases hv with ⟨rfl,v'⟩ | ⟨rfl,v'⟩ | ⟨rfl,v'⟩ | ⟨rfl,v'⟩ | ⟨rfl,v'⟩
  ·simp only [show decide (((0:Nat):Int)<((4:Nat):Int))=true from rfl,a0c,if_true,ix 0 (by omega),b1y,bs,a1W]
   refine c4G v' (0+1+0) (by simp [-bind_some, itc]) fun g2 v2 _=>?_
   simp only [bs,a0t]
   exact .some (.inl ⟨rfl,3,by omega,_,_,1,rfl,rfl,.inr (.inl ⟨rfl,v2⟩)⟩)
  ·simp only [show decide (((1:Nat):Int)<((4:Nat):Int))=true from rfl,a0c,if_true,ix 1 (by omega),b1y,bs,a1W]
   refine c4G v' (0+1+1) (by simp [-bind_some, itc]) fun g2 v2 _=>?_
   simp only [bs,a0t]
   exact .some (.inl ⟨rfl,2,by omega,_,_,2,rfl,rfl,.inr (.inr (.inl ⟨rfl,v2⟩))⟩)
  ·simp only [show decide (((2:Nat):Int)<((4:Nat):Int))=true from rfl,a0c,if_true,ix 2 (by omega),b1y,bs,a1W]
   refine c4G v' (0+1+2) (by simp [-bind_some, itc]) fun g2 v2 _=>?_
   simp only [bs,a0t]
   exact .some (.inl ⟨rfl,1,by omega,_,_,3,rfl,rfl,.inr (.inr (.inr (.inl ⟨rfl,v2⟩)))⟩)
  ·simp only [show decide (((3:Nat):Int)<((4:Nat):Int))=true from rfl,a0c,if_true,ix 3 (by omega),b1y,bs,a1W]
   refine c4G v' (0+1+3) (by simp [-bind_some, itc]) fun g2 v2 _=>?_
   simp only [bs,a0t]
   exact .some (.inl ⟨rfl,0,by omega,_,_,4,rfl,rfl,.inr (.inr (.inr (.inr ⟨rfl,v2⟩)))⟩)
  ·simp only [show decide (((4:Nat):Int)<((4:Nat):Int))=false from rfl,a0c,d6X,if_false]
   exact .some (.inr ⟨by simp,rfl,⟨_,_,_,rfl⟩,v'⟩)
 rintro ⟨ex,ds,g2⟩ ⟨rfl,⟨a,b,c,rfl⟩,v2⟩
 have v2:ViS n0 oi oc h0 g2 (itc (a1V s).r (a1V s).a0 (a1V s).a1 (a1V s).a2 (a1V s).a3 .nils 0 0 [] [] .nils) (a3U s):=v2
 simp only [a0s,a0r,bs,d6W,a0v,a3Q,(c3i v2.hi).1,c7o,d2g,a4n]
 have hcr:=a6Y v2.hc
 refine c2i v2 _ fun g3 v3 _=>?_
 obtain ⟨N,hN⟩:∃ N:Nat,(a0T (a3U s)).1=N:=⟨(a0T (a3U s)).1.toNat,by omega⟩
 have hNt:(a0T (a3U s)).1.toNat=N:=by omega
 simp only [bs]
 refine c8k N (by omega) (by rw [hN]) v3 rfl _ _ _ _ fun g4 ld b1 b2 b3 b4 b5 v4 ow4=>?_
 have hB:(a4p N (a0T (a3U s)).2).2=a6W s:=by unfold a6W;rw [hNt]
 have hL:(a4p N (a0T (a3U s)).2).1=(a1V s).ls:=by unfold a1V;simp only [hNt]
 rw [hB] at v4
 rw [hL] at ow4
 simp only [a0s,a0r,bs,d6W,a0v,b2n,b2o,b2p,b2q,a6J,c8N,c8O,d2g,a1W,a3g,a4n]
 have keep:∀ {g g':Hp} {row:List D} {s':Cur},Own g n0 a1r 3 ((a1V s).ls.map a1L) ld→ViS n0 oi oc h0 g row s'→Wrt g g' oc oi→Own g' n0 a1r 3 ((a1V s).ls.map a1L) ld:=fun ow v w=>by
  obtain ⟨d,h1,_⟩:=v.hc
  exact Own.wrt ow w h1 v.hi (by decide) (by decide)
 refine c4G v4 (0+1+5) (by simp [-bind_some, itc]) fun g5 v5 w5=>?_
 have ow5:=keep ow4 v4 w5
 have v5:ViS n0 oi oc h0 g5 (itc (a1V s).r (a1V s).a0 (a1V s).a1 (a1V s).a2 (a1V s).a3 ld (a1V s).a5 0 [] [] .nils) (a0Q (a6W s)).2:=v5
 simp only [bs]
 refine c4G v5 (0+1+6) (by simp [-bind_some, itc]) fun g6 v6 w6=>?_
 have ow6:=keep ow5 v5 w6
 have v6:ViS n0 oi oc h0 g6 (itc (a1V s).r (a1V s).a0 (a1V s).a1 (a1V s).a2 (a1V s).a3 ld (a1V s).a5 (a1V s).a6 [] [] .nils) (a0Q (a0Q (a6W s)).2).2:=v6
 simp only [bs]
 refine c4m v6 (0+1+7) (u:=[]) (by rfl) fun g7 v7 w7=>?_
 have ow7:=keep ow6 v6 w7
 have v7:ViS n0 oi oc h0 g7 (itc (a1V s).r (a1V s).a0 (a1V s).a1 (a1V s).a2 (a1V s).a3 ld (a1V s).a5 (a1V s).a6 (a1V s).t7 [] .nils) (a0R (a0Q (a0Q (a6W s)).2).2).2:=v7
 simp only [bs]
 refine c4m v7 (0+1+8) (u:=[]) (by rfl) fun g8 v8 w8=>?_
 have ow8:=keep ow7 v7 w8
 have v8:ViS n0 oi oc h0 g8 (itc (a1V s).r (a1V s).a0 (a1V s).a1 (a1V s).a2 (a1V s).a3 ld (a1V s).a5 (a1V s).a6 (a1V s).t7 (a1V s).t8 .nils) (a5T s):=v8
 simp only [bs,(c3i v8.hi).2,c7p]
 have hcr2:=a6Y v8.hc
 refine c2i v8 _ fun g9 v9 w9=>?_
 have ow9:=keep ow8 v8 w9
 obtain ⟨M,hM⟩:∃ M:Nat,(a0T (a5T s)).1=M:=⟨(a0T (a5T s)).1.toNat,by omega⟩
 have hMt:(a0T (a5T s)).1.toNat=M:=by omega
 simp only [bs]
 refine c4i M (by omega) (by rw [hM]) v9 ow9 _ _ _ fun g10 fd b1 b2 b3 b4 v10 owL owF=>?_
 have hE:(a4F M (a0T (a5T s)).2).2=a6C s:=by unfold a6C;rw [hMt]
 have hF:(a4F M (a0T (a5T s)).2).1=(a1V s).fs:=by unfold a1V;simp only [hMt]
 rw [hE] at v10
 rw [hF] at owF
 simp only [a0s,a2R,bs,d6W]
 exact k g10 ld fd v10 owL owF
theorem c0K (z:Int) (l:List Int):num (z::l)=z*256 ^ l.length+num l:=by
 have key:∀ (l:List Int) (c:Int),l.foldl (fun v b=>v*256+b) c=c*256 ^ l.length+l.foldl (fun v b=>v*256+b) 0:=by
  intro l
  induction l with
  | nil=>intro c;simp [-bind_some]
  | cons a r ih =>
   intro c
   simp only [List.foldl_cons,d7o]
   rw [ih (c*256+a),ih (0*256+a),Int.pow_succ]
   generalize (256:Int) ^ r.length=P
   generalize List.foldl (fun v b=>v*256+b) 0 r=F
   simp only [Int.add_mul,Int.zero_mul,Int.zero_add]
   rw [Int.mul_assoc,Int.mul_comm 256 P,Int.add_assoc]
 unfold num
 simp only [List.foldl_cons]
 rw [key l (0*256+z)]
 simp [-bind_some]
theorem a5s:∀ (k:Nat) (v:Int),0≤v→num (a3H k v)=v % 256 ^ k
 | 0,v,_=>by simp [-bind_some, a3H,num]
 | k+1,v,h=>by
  simp only [a3H]
  rw [c0K,a1c,a5s k v h,a7E]
  have hP:(2:Int) ^ (8*k)=256 ^ k:=by rw [Int.pow_mul];rfl
  rw [hP]
  have hpos:(0:Int)<256 ^ k:=Int.pow_pos (by omega)
  rw [Int.fdiv_eq_ediv_of_nonneg _ (by omega)]
  rw [Int.pow_succ]
  generalize (256:Int) ^ k=P at hpos
  have h1:=Int.mul_ediv_add_emod v P
  have h2:=Int.mul_ediv_add_emod (v / P) 256
  have h3:=Int.emod_nonneg v (show P≠0 by omega)
  have h4:=Int.emod_lt_of_pos v hpos
  have h5:=Int.emod_nonneg (v / P) (show (256:Int)≠0 by omega)
  have h6:=Int.emod_lt_of_pos (v / P) (show (0:Int)<256 by omega)
  generalize v % P=r at *
  generalize hq:v / P=q at *
  generalize q % 256=s at *
  generalize q / 256=t at *
  have e:v=(s*P+r)+(P*256)*t:=by
   rw [← h1,← h2]
   simp only [Int.mul_add,Int.add_mul]
   rw [Int.mul_comm P s,← Int.mul_assoc P 256 t]
   omega
  rw [e,Int.add_mul_emod_self_left]
  have hsP:s*P+P≤P*256:=by
   have:(s+1)*P≤256*P:=Int.mul_le_mul_of_nonneg_right (by omega) (by omega)
   rw [Int.add_mul,Int.one_mul,Int.mul_comm 256 P] at this
   exact this
  have hs0:0≤s*P:=Int.mul_nonneg h5 (by omega)
  exact (Int.emod_eq_of_lt (by omega) (by omega)).symm
def I64 (n:Int):Prop := -9223372036854775808≤n∧n<9223372036854775808
theorem a6D (n:Int):IntKind.wrap .u64 n=n % 18446744073709551616:=by
 unfold IntKind.wrap
 simp [-bind_some, IntKind.signed,IntKind.bits,IntKind.min,IntKind.max]
theorem c7C:(256:Int) ^ 8=18446744073709551616:=by decide
theorem a6z:(256:Int) ^ 4=4294967296:=by decide
theorem c7y {n:Int} (h:I64 n):IntKind.wrap .i64 (num (pI n))=n:=by
 unfold pI
 rw [a5s 8 _ (by rw [a6D];omega),c7C,a6D]
 unfold I64 at h
 unfold IntKind.wrap
 simp [-bind_some, IntKind.signed,IntKind.bits,IntKind.min,IntKind.max]
 omega
theorem c1M {n:Nat} (h:n<4294967296):num (pN n)=n:=by
 unfold pN
 rw [a1s (by omega) (by omega),a5s 4 _ (by omega),a6z]
 omega
theorem a8p (p r:List Int) (n:Nat) (hn:p.length=n):a0G (p++r,false) n=(p,(r,false)):=by
 unfold a0G
 rw [if_neg (by simp;omega)]
 subst hn
 simp [-bind_some]
theorem a2f {n:Int} (h:I64 n) (r:List Int):a0Q (pI n++r,false)=(n,(r,false)):=by
 unfold a0Q
 rw [show (8:Int)=((8:Nat):Int) from rfl,a8p (pI n) r 8 (a1m n),c7y h]
theorem a7y {n:Nat} (h:n<4294967296) (r:List Int):a1z (pN n++r,false)=((n:Int),(r,false)):=by
 unfold a1z
 rw [show (4:Int)=((4:Nat):Int) from rfl,a8p (pN n) r 4 (a1H n),c1M h]
 rw [wrap_i64 (by omega) (by omega)]
theorem a2Y {s:Str} (h:s.length<4294967296) (r:List Int):a0R (pS s++r,false)=(some s,(r,false)):=by
 have e:pS s++r=pN s.length++(sby s++r):=by simp [-bind_some, pS]
 unfold a0R
 rw [e,a7y h,a8p (sby s) r s.length (a6U s)]
 simp [-bind_some, c2x]
theorem a8N {n:Nat} (h:n<4294967296) (r:List Int) (hr:8*n≤r.length):a0T (pN n++r,false)=((n:Int),(r,false)):=by
 unfold a0T
 rw [a7y h,if_neg]
 simp only [d6X,false_or]
 rw [Int.tdiv_eq_ediv_of_nonneg (by omega)]
 omega
structure LnR (l:Lin):Prop where
 o:I64 l.off
 n:I64 l.len
 t:l.txt.length<4294967296
theorem c0C {l:Lin} (h:LnR l) (r:List Int):a4G (lnB l++r,false)=(l,(r,false)):=by
 have e:lnB l++r=pI l.off++(pI l.len++(pS l.txt++r)):=by simp [-bind_some, lnB]
 unfold a4G
 rw [e,a2f h.o]
 simp only
 rw [a2f h.n]
 simp only
 rw [a2Y h.t]
 rfl
theorem b4F:∀ (ls:List Lin),(∀ l∈ls,LnR l)→∀ r,a4p ls.length ((ls.map lnB).flatten++r,false)=(ls,(r,false))
 | [],_,r=>rfl
 | l::ls,h,r=>by
  have e:((l::ls).map lnB).flatten++r=lnB l++((ls.map lnB).flatten++r):=by simp
  rw [e,d7o]
  unfold a4p
  rw [c0C (h l (by simp))]
  simp only
  rw [b4F ls (fun x hx=>h x (by simp [-bind_some, hx])) r]
theorem c2T {p:Str × Str} (h1:p.1.length<4294967296) (h2:p.2.length<4294967296) (r:List Int):fdS (fdB p++r,false)=(p,(r,false)):=by
 have e:fdB p++r=pS p.1++(pS p.2++r):=by simp [-bind_some, fdB]
 unfold fdS
 rw [e,a2Y h1]
 simp only
 rw [a2Y h2]
 rfl
theorem b3U:∀ (fs:List (Str × Str)),(∀ p∈fs,p.1.length<4294967296∧p.2.length<4294967296)→∀ r,a4F fs.length ((fs.map fdB).flatten++r,false)=(fs,(r,false))
 | [],_,r=>rfl
 | p::fs,h,r=>by
  have e:((p::fs).map fdB).flatten++r=fdB p++((fs.map fdB).flatten++r):=by simp
  rw [e,d7o]
  unfold a4F
  rw [c2T (h p (by simp)).1 (h p (by simp)).2]
  simp only
  rw [b3U fs (fun x hx=>h x (by simp [-bind_some, hx])) r]
structure ItR (i:It):Prop where
 r:i.r.length<4294967296
 a0:I64 i.e.a0
 a1:I64 i.e.a1
 a2:I64 i.e.a2
 a3:I64 i.e.a3
 nl:i.e.ls.length<4294967296
 ls:∀ l∈i.e.ls,LnR l
 a5:I64 i.e.a5
 a6:I64 i.e.a6
 t7:i.e.s7.length<4294967296
 t8:i.e.s8.length<4294967296
 nf:i.e.fs.length<4294967296
 fs:∀ p∈i.e.fs,p.1.length<4294967296∧p.2.length<4294967296
def a1Y (i:It):RI:=⟨i.r,i.e.a0,i.e.a1,i.e.a2,i.e.a3,i.e.ls,i.e.a5,i.e.a6,i.e.s7,i.e.s8,i.e.fs⟩
theorem a6q {α:Type} (f:α→List Int) (m:Nat):∀ (l:List α),(∀ a∈l,m≤(f a).length)→m*l.length≤(l.map f).flatten.length
 | [],_=>by simp
 | a::l,h=>by
  have h1:=h a (by simp)
  have h2:=a6q f m l fun b hb=>h b (by simp [-bind_some, hb])
  simp only [d7e,List.flatten_cons,d7b,d7o,Nat.mul_succ]
  omega
theorem c1a {i:It} (h:ItR i) (r:List Int):a1V (a1t i++r,false)=a1Y i∧a6C (a1t i++r,false)=(r,false):=by
 have e:a1t i++r=pS i.r++(pI i.e.a0++(pI i.e.a1++(pI i.e.a2++(pI i.e.a3++(pN i.e.ls.length++((i.e.ls.map lnB).flatten++(pI i.e.a5++(pI i.e.a6++(pS i.e.s7++(pS i.e.s8++(pN i.e.fs.length++((i.e.fs.map fdB).flatten++r)))))))))))):=by simp [-bind_some, a1t,a4L,a3x]
 have hl8:=a6q lnB 8 i.e.ls fun l _=>by simp only [lnB,d7b,a1m,a1M];omega
 have hf8:=a6q fdB 8 i.e.fs fun l _=>by simp only [fdB,d7b,a1M];omega
 rw [e]
 have hA:a3U (pS i.r++(pI i.e.a0++(pI i.e.a1++(pI i.e.a2++(pI i.e.a3++(pN i.e.ls.length++((i.e.ls.map lnB).flatten++(pI i.e.a5++(pI i.e.a6++(pS i.e.s7++(pS i.e.s8++(pN i.e.fs.length++((i.e.fs.map fdB).flatten++r)))))))))))),false)=(pN i.e.ls.length++((i.e.ls.map lnB).flatten++(pI i.e.a5++(pI i.e.a6++(pS i.e.s7++(pS i.e.s8++(pN i.e.fs.length++((i.e.fs.map fdB).flatten++r))))))),false):=by
  unfold a3U
  rw [a2Y h.r];simp only
  rw [a2f h.a0];simp only
  rw [a2f h.a1];simp only
  rw [a2f h.a2];simp only
  rw [a2f h.a3]
 have hc1:=a8N h.nl ((i.e.ls.map lnB).flatten++(pI i.e.a5++(pI i.e.a6++(pS i.e.s7++(pS i.e.s8++(pN i.e.fs.length++((i.e.fs.map fdB).flatten++r))))))) (by rw [d7b];omega)
 have hls:=b4F i.e.ls h.ls (pI i.e.a5++(pI i.e.a6++(pS i.e.s7++(pS i.e.s8++(pN i.e.fs.length++((i.e.fs.map fdB).flatten++r))))))
 have hB:a6W (pS i.r++(pI i.e.a0++(pI i.e.a1++(pI i.e.a2++(pI i.e.a3++(pN i.e.ls.length++((i.e.ls.map lnB).flatten++(pI i.e.a5++(pI i.e.a6++(pS i.e.s7++(pS i.e.s8++(pN i.e.fs.length++((i.e.fs.map fdB).flatten++r)))))))))))),false)=(pI i.e.a5++(pI i.e.a6++(pS i.e.s7++(pS i.e.s8++(pN i.e.fs.length++((i.e.fs.map fdB).flatten++r))))),false):=by
  unfold a6W
  rw [hA,hc1];simp only [d7g]
  rw [hls]
 have hC:a5T (pS i.r++(pI i.e.a0++(pI i.e.a1++(pI i.e.a2++(pI i.e.a3++(pN i.e.ls.length++((i.e.ls.map lnB).flatten++(pI i.e.a5++(pI i.e.a6++(pS i.e.s7++(pS i.e.s8++(pN i.e.fs.length++((i.e.fs.map fdB).flatten++r)))))))))))),false)=(pN i.e.fs.length++((i.e.fs.map fdB).flatten++r),false):=by
  unfold a5T
  rw [hB,a2f h.a5];simp only
  rw [a2f h.a6];simp only
  rw [a2Y h.t7];simp only
  rw [a2Y h.t8]
 have hc2:=a8N h.nf ((i.e.fs.map fdB).flatten++r) (by rw [d7b];omega)
 have hfs:=b3U i.e.fs h.fs r
 refine ⟨?_,?_⟩
 ·unfold a1V a1Y
  rw [hA,hB,hC,hc1,hc2]
  simp only [d7g]
  rw [hls,hfs,a2Y h.r]
  simp only [Option.getD_some]
  rw [a2f h.a0];simp only
  rw [a2f h.a1];simp only
  rw [a2f h.a2];simp only
  rw [a2f h.a3,a2f h.a5];simp only
  rw [a2f h.a6];simp only
  rw [a2Y h.t7];simp only [Option.getD_some]
  rw [a2Y h.t8]
  simp only [Option.getD_some]
 ·unfold a6C
  rw [hC,hc2]
  simp only [d7g]
  rw [hfs]
theorem a7A {h:Hp} {n1 e z:Nat} {α:Type} {f:α→List D} {l:List α} {d:D} {n:Nat} (hd:Own h n1 e z (l.map f) d) (hr:∀ a∈l,∀ d∈f a,a8t h n d=d):SlOf z f l (a8t h (n+1) d):=by
 rcases hd with ⟨rfl,hn⟩ | ⟨o,ho,rfl,hg⟩
 ·exact .inl ⟨rfl,by simpa using hn⟩
 ·refine .inr ⟨false,?_⟩
  simp only [a8t,hg,List.drop_zero]
  rw [List.take_of_length_le (by simp)]
  congr 1
  rw [List.map_map]
  refine List.map_congr_left fun a ha=>?_
  simp only [Function.comp]
  conv=>rhs;rw [← List.map_id (f a)]
  exact List.map_congr_left fun d hd=>hr a ha d hd
theorem b7V (h:Hp) (n:Nat) (l:Lin):∀ d∈a1L l,a8t h n d=d:=by
 intro d hd
 simp only [a1L,d7s,List.not_mem_nil,or_false] at hd
 cases n <;> rcases hd with rfl | rfl | rfl <;> rfl
theorem c0q (h:Hp) (n:Nat) (p:Str × Str):∀ d∈fld p,a8t h n d=d:=by
 intro d hd
 simp only [fld,d7s,List.not_mem_nil,or_false] at hd
 cases n <;> rcases hd with rfl | rfl <;> rfl
theorem b0v (s:Cur) (n:Int):(a0G s n).2.1.length≤s.1.length:=by
 unfold a0G
 split
 ·exact Nat.le_refl _
 ·simp [-bind_some]
theorem a3R (s:Cur):(a0Q s).2.1.length≤s.1.length:=b0v s 8
theorem a8d (s:Cur):(a1z s).2.1.length≤s.1.length:=b0v s 4
theorem a3N (s:Cur):(a0R s).2.1.length≤s.1.length:=by
 have h1:=b0v (a1z s).2 (a1z s).1
 have h2:=a8d s
 unfold a0R
 split
 ·simp only;omega
 ·simp only;omega
theorem a7J (s:Cur):(a0T s).1.toNat≤s.1.length∧(a0T s).2.1.length≤s.1.length:=by
 have h2:=a8d s
 unfold a0T
 split
 ·exact ⟨by simp,h2⟩
 ·rename_i hh
  refine ⟨?_,h2⟩
  have h3:¬ ((a1z s).2.1.length:Int).tdiv 8<(a1z s).1:=fun hx=>hh (.inr hx)
  rw [Int.tdiv_eq_ediv_of_nonneg (by omega)] at h3
  omega
theorem b7S (s:Cur):(a4G s).2.1.length≤s.1.length:=by
 have h1:=a3R s
 have h2:=a3R (a0Q s).2
 have h3:=a3N (a0Q (a0Q s).2).2
 unfold a4G
 simp only
 omega
theorem b2E:∀ (n:Nat) (s:Cur),(a4p n s).1.length=n∧(a4p n s).2.1.length≤s.1.length
 | 0,s=>⟨rfl,Nat.le_refl _⟩
 | n+1,s=>by
  have h1:=b2E n (a4G s).2
  have h2:=b7S s
  exact ⟨by simp [-bind_some, a4p,h1.1],Nat.le_trans h1.2 h2⟩
theorem b3V:∀ (n:Nat) (s:Cur),(a4F n s).1.length=n
 | 0,s=>rfl
 | n+1,s=>by simp [-bind_some, a4F,b3V n]
theorem b2V (s:Cur):(a3U s).1.length≤s.1.length:=by
 have h0:=a3N s
 have h1:=a3R (a0R s).2
 have h2:=a3R (a0Q (a0R s).2).2
 have h3:=a3R (a0Q (a0Q (a0R s).2).2).2
 have h4:=a3R (a0Q (a0Q (a0Q (a0R s).2).2).2).2
 unfold a3U
 omega
theorem c4j (s:Cur):(a5T s).1.length≤s.1.length:=by
 have h0:=b2V s
 have h1:=(a7J (a3U s)).2
 have h2:=(b2E (a0T (a3U s)).1.toNat (a0T (a3U s)).2).2
 have hB:(a6W s).1.length≤s.1.length:=by unfold a6W;omega
 have h3:=a3R (a6W s)
 have h4:=a3R (a0Q (a6W s)).2
 have h5:=a3N (a0Q (a0Q (a6W s)).2).2
 have h6:=a3N (a0R (a0Q (a0Q (a6W s)).2).2).2
 unfold a5T
 omega
theorem c1b (s:Cur):(a1V s).ls.length≤s.1.length∧(a1V s).fs.length≤s.1.length:=by
 have h0:=b2V s
 have h1:=(a7J (a3U s)).1
 have h2:=(b2E (a0T (a3U s)).1.toNat (a0T (a3U s)).2).1
 have h3:=c4j s
 have h4:=(a7J (a5T s)).1
 have h5:=b3V (a0T (a5T s)).1.toNat (a0T (a5T s)).2
 refine ⟨?_,?_⟩
 ·show (a4p (a0T (a3U s)).1.toNat (a0T (a3U s)).2).1.length≤_
  omega
 ·show (a4F (a0T (a5T s)).1.toNat (a0T (a5T s)).2).1.length≤_
  omega
def c4B (x:RI) (ld fd:D) (h1:SlOf 3 a1L x.ls ld) (h2:SlOf 2 fld x.fs fd) (h3:x.ls.length≤9223372036854775807) (h4:x.fs.length≤9223372036854775807):It:=⟨x.r,⟨x.a0,x.a1,x.a2,x.a3,x.ls,ld,x.a5,x.a6,x.t7,x.t8,x.fs,fd,h2,h4,h1,h3⟩⟩
theorem b8f (x:RI) (ld fd:D) (h1:SlOf 3 a1L x.ls ld) (h2:SlOf 2 fld x.fs fd) (h3:x.ls.length≤9223372036854775807) (h4:x.fs.length≤9223372036854775807):a1Y (c4B x ld fd h1 h2 h3 h4)=x:=rfl
def a5K (c:Int) (l:List Int):Int × Int × RI :=
 if l.length<4 then (14,0,⟨[],0,0,0,0,[],0,0,[],[],[]⟩)
 else if num (l.take 4)<4∨(l.length:Int) - 4<num (l.take 4) then (14,0,⟨[],0,0,0,0,[],0,0,[],[],[]⟩)
 else if a2z (l.take (num (l.take 4)).toNat)≠num ((l.drop (num (l.take 4)).toNat).take 4) then (15,0,⟨[],0,0,0,0,[],0,0,[],[],[]⟩)
 else if (a6C ((l.take (num (l.take 4)).toNat).drop 4,false)).2=true∨0<(a6C ((l.take (num (l.take 4)).toNat).drop 4,false)).1.length∨c≠0 then (1,0,⟨[],0,0,0,0,[],0,0,[],[],[]⟩)
 else (0,4+num (l.take 4),a1V ((l.take (num (l.take 4)).toNat).drop 4,false))
def zit:It:=⟨[],⟨0,0,0,0,[],.nils,0,0,[],[],[],.nils,SlOf.nils _ _,by simp,SlOf.nils _ _,by simp⟩⟩
theorem a3P:a1Y zit=⟨[],0,0,0,0,[],0,0,[],[],[]⟩:=rfl
theorem b6L {h g:Hp} {a b:Int} {j:It} (hl:h.length≤g.length) (hb:∀ q,q<h.length→g[q]?=h[q]?):scope h g (.tup [.agg (itr j),.int .i64 a,.int .i64 b])=some (.tup [.agg (itr j),.int .i64 a,.int .i64 b],h):=by
 refine a1a ?_ ?_ hl hb
 ·have h1:(itr j).map (frz h.length g 2)=itr j:=by
    conv=>rhs;rw [← List.map_id (itr j)]
    exact List.map_congr_left fun d hd=>a4V _ g 1 j d hd
  show D.tup [D.agg ((itr j).map (frz h.length g 2)),.int .i64 a,.int .i64 b]=_
  rw [h1]
 ·refine .tup _ fun d hd=>?_
  simp at hd
  rcases hd with rfl | rfl | rfl
  ·exact b1t _ j
  ·constructor
  ·constructor
theorem a6P (a b c:D):a0l [a,b,c] = .tup [a,b,c]:=rfl
theorem c7Z (l:List Int) (d:D) (c:Int) (h:Hp) (hd:SlOf 1 byr l d) (hl:l.length≤1000000000) (hu:∀ z∈l,U8 z)
  (hck:∀ j:It,a1Y j=a1V ((l.take (num (l.take 4)).toNat).drop 4,false)→∀ g,R a5D [.agg (itr j)] g=some (.int .i64 c,g)) :
  ∃ j:It,R a8U [d] h=some (.tup [.agg (itr j),.int .i64 (a5K c l).2.1,.int .i64 (a5K c l).1],h)∧a1Y j=(a5K c l).2.2:=by
 suffices Wp (R a8U [d] h) (fun p=>p.2=h∧∃ j:It,p.1 = .tup [.agg (itr j),.int .i64 (a5K c l).2.1,.int .i64 (a5K c l).1]∧a1Y j=(a5K c l).2.2) by
  obtain ⟨⟨x,h'⟩,h1,rfl,j,rfl,h2⟩:=this
  exact ⟨j,h1,h2⟩
 have hz74:([.str [],.int .i64 0,.int .i64 0,.int .i64 0,.int .i64 0,.nils,.int .i64 0,.int .i64 0,.str [],.str [],.nils]:List D)=itr zit:=rfl
 have hbz:a0K tab a0P [] []=some (.agg (itr zit)):=id rfl
 -- a way out with an error: the result's variable is stored to and read
 have out:∀ (g:Hp) (row:List D) (a b:Int),g[h.length]?=some (.row a0P 11 [row])→row.length=11→h.length≤g.length→(∀ q,q<h.length→g[q]?=h[q]?)→(a,b,a1Y zit)=((a5K c l).2.1,(a5K c l).1,(a5K c l).2.2) →
   Wp ((a0h tab g a0P (.ptr h.length 0 0) (.agg (itr zit))).bind fun h'=>(a0b tab h' a0P (.ptr h.length 0 0)).bind fun d=>scope h h' (a0l [d,.int .i64 a,.int .i64 b])) (fun p=>p.2=h∧∃ j:It,p.1 = .tup [.agg (itr j),.int .i64 (a5K c l).2.1,.int .i64 (a5K c l).1]∧a1Y j=(a5K c l).2.2):=by
  intro g row a b hg hr hgl hgb he
  injection he with he1 he2
  injection he2 with he2 he3
  refine b2X hg (by rfl) (by rfl) (by rw [hr];exact Nat.le_refl _) (by rfl) fun g' h' s'=>?_
  have h':g'[h.length]?=some (.row a0P 11 [itr zit]):=by
   rw [h']
   have hs:spl row 0 (a0F (.agg (itr zit)))=itr zit:=by
    have h11:(itr zit).length=11:=rfl
    simp [-bind_some, spl,a0F,hr,h11]
   rw [hs];rfl
  have ld:a0b tab g' a0P (.ptr h.length 0 0)=some (.agg (itr zit)):=by rw [b0h,a0O h'];rfl
  rw [ld]
  simp only [bs,a6P]
  rw [b6L (by rw [s'.1];exact hgl) (fun q hq=>by rw [s'.2 q (by omega)];exact hgb q hq)]
  exact .some ⟨rfl,zit,by rw [he1,he2],he3⟩
 rw [d0a]
 simp only [c5r,hz74,bs,d6W,a1P hd,a0k,hbz]
 have hp2:(a0I h a0P 11 [itr zit])[h.length]?=some (.row a0P 11 [itr zit]):=a1h _ _ _ _
 have hq2:∀ q,q<h.length→(a0I h a0P 11 [itr zit])[q]?=h[q]?:=fun q hq=>a0Y _ _ _ _ hq
 have hl2:(a0I h a0P 11 [itr zit]).length=h.length+1:=by simp [-bind_some, a0I]
 generalize a0I h a0P 11 [itr zit]=g1 at *
 refine Wp.dif ?_ ?_
 ·intro h0
  have h0:l.length<4:=by
   have:(l.length:Int)<4:=by simpa using h0
   omega
  have hz:a5K c l=(14,0,⟨[],0,0,0,0,[],0,0,[],[],[]⟩):=by unfold a5K;rw [if_pos h0]
  exact out g1 _ 0 14 hp2 rfl (by omega) hq2 (by rw [hz,a3P])
 intro h0
 have h0:¬ l.length<4:=by
  have:¬ (l.length:Int)<4:=by simpa using h0
  omega
 obtain ⟨d4,e4,s4'⟩:=a8F hd (k := .i64) (n:=4) (by omega) (by omega)
 have s4':SlOf 1 byr (l.take 4) d4:=s4'
 have hl4:(l.take 4).length=4:=by simp;omega
 have hu4:∀ z∈l.take 4,U8 z:=fun z hz=>hu z (List.mem_of_mem_take hz)
 have e14:=c0R _ d4 g1 s4' (by omega) hu4
 obtain ⟨n0,n1⟩:=a2k 4 _ hl4 hu4
 rw [a6z] at n1
 have w5:IntKind.wrap .i64 (num (l.take 4))=num (l.take 4):=wrap_i64 (by omega) (by omega)
 have w6:IntKind.wrap .i64 ((l.length:Int) - 4)=(l.length:Int) - 4:=wrap_i64 (by omega) (by omega)
 generalize hN:num (l.take 4)=N at *
 obtain ⟨n,rfl⟩:=Int.eq_ofNat_of_zero_le n0
 simp only [d7g] at hck
 simp only [bs,e4,e14,a3r,w5,a0k,a0p]
 by_cases hbad:(n:Int)<4∨(l.length:Int) - 4<(n:Int)
 ·have hz:a5K c l=(14,0,⟨[],0,0,0,0,[],0,0,[],[],[]⟩):=by unfold a5K;rw [if_neg h0,hN,if_pos hbad]
  by_cases c1:(n:Int)<4
  ·simp only [c1,decide_true,reduceCtorEq,d6Y,if_false,bs,a0e,if_true,a0c]
   exact out g1 _ 0 14 hp2 rfl (by omega) hq2 (by rw [hz,a3P])
  ·have c2:(n:Int)>(l.length:Int) - 4:=by omega
   simp only [c1,decide_false,if_true,bs,a1P hd,a0z,w6,a0u,c2,decide_true,reduceCtorEq,d6Y,d6X,if_false,a0e,a0c]
   exact out g1 _ 0 14 hp2 rfl (by omega) hq2 (by rw [hz,a3P])
 have c1:¬ (n:Int)<4:=by omega
 have c2:¬ (n:Int)>(l.length:Int) - 4:=by omega
 simp only [c1,decide_false,if_true,bs,a1P hd,a0z,w6,a0u,c2,reduceCtorEq,d6Y,d6X,if_false,a0e,a0c]
 obtain ⟨dn,en,sn⟩:=a8F hd (k := .i64) (n:=(n:Int)) (by omega) (by omega)
 rw [d7g] at sn
 have e29:=c8a (l.take n) dn g1 (.inl sn) (by simp;omega) (fun z hz=>hu z (List.mem_of_mem_take hz))
 have w7:IntKind.wrap .i64 ((n:Int)+4)=((n+4:Nat):Int):=by rw [wrap_i64 (by omega) (by omega)];omega
 obtain ⟨dc,ec,sc⟩:=a4N hd n (n+4) (by omega) (by omega)
 have lc:(l.take (n+4)).drop n=(l.drop n).take 4:=by rw [List.drop_take];congr 1;omega
 rw [lc] at sc
 have e35:=c0R _ dc g1 sc (by simp;omega) (fun z hz=>hu z (List.mem_of_mem_drop (List.mem_of_mem_take hz)))
 simp only [en,e29,a0t,w7,ec,e35,bs,a0w]
 refine Wp.dif ?_ ?_
 ·intro h1
  have h1:a2z (l.take n)≠num ((l.drop n).take 4):=by simpa using h1
  have hz:a5K c l=(15,0,⟨[],0,0,0,0,[],0,0,[],[],[]⟩):=by unfold a5K;rw [if_neg h0,hN,if_neg hbad];simp only [d7g];rw [if_pos h1]
  exact out g1 _ 0 15 hp2 rfl (by omega) hq2 (by rw [hz,a3P])
 intro h1
 have h1:¬ a2z (l.take n)≠num ((l.drop n).take 4):=by simpa using h1
 obtain ⟨db,eb,sb⟩:=a4N hd 4 n (by omega) (by omega)
 have eb:a0A tab a0J true true false [d,.int .i64 4,.int .i64 n]=some db:=eb
 have hp6:(a0I g1 a0P 11 [itr zit])[h.length+1]?=some (.row a0P 11 [itr zit]):=by rw [← hl2];exact a1h _ _ _ _
 have hp62:(a0I g1 a0P 11 [itr zit])[h.length]?=some (.row a0P 11 [itr zit]):=by rw [a0Y _ _ _ _ (by omega)];exact hp2
 have hl6:(a0I g1 a0P 11 [itr zit]).length=h.length+2:=by simp [-bind_some, a0I,hl2]
 have hq6:∀ q,q<h.length→(a0I g1 a0P 11 [itr zit])[q]?=h[q]?:=fun q hq=>by rw [a0Y _ _ _ _ (by omega)];exact hq2 q hq
 simp only [bs,hl2]
 generalize a0I g1 a0P 11 [itr zit]=g2 at *
 have hbc:a0K tab a1Z [0] [db]=some (.agg [db,.bool false]):=b9F db (a1x sb)
 simp only [eb,hbc,bs,a3e a1Z 2 g2 [db,.bool false] rfl (by omega),hl6]
 have hc0:(a0I g2 a1Z 2 [[db,.bool false]])[h.length+2]?=some (.row a1Z 2 [[db,.bool false]]):=by rw [← hl6];exact a1h _ _ _ _
 have hi0:(a0I g2 a1Z 2 [[db,.bool false]])[h.length+1]?=some (.row a0P 11 [itr zit]):=by rw [a0Y _ _ _ _ (by omega)];exact hp6
 have hr0:(a0I g2 a1Z 2 [[db,.bool false]])[h.length]?=some (.row a0P 11 [itr zit]):=by rw [a0Y _ _ _ _ (by omega)];exact hp62
 have hq0:∀ q,q<h.length+1→(a0I g2 a1Z 2 [[db,.bool false]])[q]?=g2[q]?:=fun q hq=>a0Y _ _ _ _ (by omega)
 generalize a0I g2 a1Z 2 [[db,.bool false]]=g3 at *
 have V0:ViS (h.length+1) (h.length+1) (h.length+2) g2 g3 (itc [] 0 0 0 0 .nils 0 0 [] [] .nils) ((l.take n).drop 4,false) :=
  ⟨hi0,⟨db,hc0,sb,fun z hz=>hu z (List.mem_of_mem_take (List.mem_of_mem_drop hz)),by simp;omega⟩,hq0,by omega,by omega⟩
 refine d3y V0 fun g4 ld fd V4 owL owF=>?_
 generalize hSt:(((l.take n).drop 4,false):Cur)=st at *
 obtain ⟨dd,k1,k2,k3,k4⟩:=V4.hc
 obtain ⟨m1,m2⟩:=b9V k1
 have hr4:g4[h.length]?=some (.row a0P 11 [itr zit]):=by rw [V4.lo h.length (by omega)];exact hp62
 have hq4:∀ q,q<h.length→g4[q]?=h[q]?:=fun q hq=>by rw [V4.lo q (by omega)];exact hq6 q hq
 have hl4':h.length≤g4.length:=by have:=(d7n.1 hr4).1;omega
 have ldi:a0b tab g4 a0P (.ptr (h.length+1) 0 0)=some (.agg ((a1V st).row ld fd)):=by rw [b0h,a0O V4.hi];rfl
 have hsl:st.1.length≤1000000000:=by rw [← hSt];simp [-bind_some];omega
 obtain ⟨hLl,hFl⟩:=c1b st
 have hLl:(a1V st).ls.length≤9223372036854775807:=by omega
 have hFl:(a1V st).fs.length≤9223372036854775807:=by omega
 simp only [bs,a0v,a2I,a6m,m1,m2,a0p,a1P k2]
 have hzd:∀ x:Prop,a5K c l=if (a6C st).2=true∨0<(a6C st).1.length∨c≠0 then (1,0,⟨[],0,0,0,0,[],0,0,[],[],[]⟩) else (0,4+(n:Int),a1V st):=fun _=>by
  unfold a5K
  rw [if_neg h0,hN,if_neg hbad]
  simp only [d7g]
  rw [if_neg h1,hSt]
 have hzd:=hzd True
 cases hbd:(a6C st).2 with
 | true =>
  have hz:a5K c l=(1,0,⟨[],0,0,0,0,[],0,0,[],[],[]⟩):=by rw [hzd,if_pos (.inl hbd)]
  simp only [reduceCtorEq,d6Y,if_false,bs,a0e,if_true,a0p,a1f,a0c]
  exact out g4 _ 0 1 hr4 rfl hl4' hq4 (by rw [hz,a3P])
 | false =>
  simp only [if_true,bs,a0v,a2I,m1,a1P k2,a0u]
  by_cases hlen:0<(a6C st).1.length
  ·have hz:a5K c l=(1,0,⟨[],0,0,0,0,[],0,0,[],[],[]⟩):=by rw [hzd,if_pos (.inr (.inl hlen))]
   have hd1:decide (((a6C st).1.length:Int)>0)=true:=by simp only [decide_eq_true_eq];omega
   simp only [hd1,reduceCtorEq,d6Y,d6X,if_false,bs,a0e,if_true,a0p,a1f,a0c]
   exact out g4 _ 0 1 hr4 rfl hl4' hq4 (by rw [hz,a3P])
  ·have hd1:decide (((a6C st).1.length:Int)>0)=false:=by simp only [decide_eq_false_iff_not];omega
   have sL:=a7A (n:=1) owL (fun a _=>b7V g4 1 a)
   have sF:=a7A (n:=1) owF (fun a _=>c0q g4 1 a)
   have hsn:a8t g4 3 (.agg ((a1V st).row ld fd)) = .agg (itr (c4B (a1V st) _ _ sL sF hLl hFl)):=rfl
   have hcall:=hck (c4B (a1V st) _ _ sL sF hLl hFl) (b8f _ _ _ _ _ _ _) (g4.map fun _ => .dead)
   have hokv:(D.agg ((a1V st).row ld fd)).okv=true:=by
    clear hcall hsn sL sF V4 ldi
    rcases owL with ⟨rfl,_⟩ | ⟨_,_,rfl,_⟩ <;> rcases owF with ⟨rfl,_⟩ | ⟨_,_,rfl,_⟩ <;> rfl
   have hcB:a4M R a5D [.agg ((a1V st).row ld fd)] g4=some (.int .i64 c,g4):=by
    unfold a4M
    simp only [d7e,d7f,hsn,hcall]
    rfl
   simp only [hd1,if_true,d6X,if_false,bs,a0e,a0p,ldi,a1f,hcB,a0w]
   by_cases hc:c=0
   ·have hz:a5K c l=(0,4+(n:Int),a1V st):=by
      rw [hzd,if_neg]
      rintro (hx | hx | hx)
      ·rw [hbd] at hx;cases hx
      ·exact hlen hx
      ·exact hx hc
    rw [hc] at hz
    have w8:IntKind.wrap .i64 (4+(n:Int))=4+(n:Int):=wrap_i64 (by omega) (by omega)
    simp only [hc,ne_eq,not_true,decide_false,a0c,d6X,if_false,bs,ldi,a0t,w8]
    refine b2X (kk:=0) (off:=0) (row:=itr zit) (v := .agg ((a1V st).row ld fd)) hr4 (by rfl) (by rfl) (by exact Nat.le_refl _) hokv fun g5 h5 s5=>?_
    have h5:g5[h.length]?=some (.row a0P 11 [(a1V st).row ld fd]):=h5
    have ld5:a0b tab g5 a0P (.ptr h.length 0 0)=some (.agg ((a1V st).row ld fd)):=by rw [b0h,a0O h5];rfl
    have owL5:Own g5 (h.length+1) a1r 3 ((a1V st).ls.map a1L) ld:=owL.keep fun q hq _=>s5.2 q (by omega)
    have owF5:Own g5 (h.length+1) a0x 2 ((a1V st).fs.map fld) fd:=owF.keep fun q hq _=>s5.2 q (by omega)
    have fL:=a2w (n0:=h.length) (n:=1) owL5 (by omega) (fun a _=>a5q _ g5 1 a)
    have fF:=a2w (n0:=h.length) (n:=1) owF5 (by omega) (fun a _=>b0a _ g5 1 a)
    simp only [ld5,bs,a6P]
    rw [a1a (d' := .tup [.agg (itr (c4B (a1V st) _ _ fL fF hLl hFl)),.int .i64 (4+(n:Int)),.int .i64 0]) rfl (by
     refine .tup _ fun d hd=>?_
     simp at hd
     rcases hd with rfl | rfl | rfl
     ·exact b1t _ _
     ·constructor
     ·constructor) (by rw [s5.1];exact hl4') (fun q hq=>by rw [s5.2 q (by omega)];exact hq4 q hq)]
    exact .some ⟨rfl,_,by rw [hz],by rw [hz];rfl⟩
   ·have hz:a5K c l=(1,0,⟨[],0,0,0,0,[],0,0,[],[],[]⟩):=by rw [hzd,if_pos (.inr (.inr hc))]
    simp only [hc,ne_eq,not_false_eq_true,decide_true,a0c,if_true,bs]
    exact out g4 _ 0 1 hr4 rfl hl4' hq4 (by rw [hz,a3P])
structure RG (hs:Int) (i:It):Prop where
 fs:i.e.fs.length≤20
 ok:itE i=0
 host:i.e.a0=hs
 r:(i.r==([42]:Str))=false
 bl:(a1t i).length≤20000
 rd:ItR i
theorem b8J {i j:It} (h:a1Y i=a1Y j):a2M i=a2M j∧itE i=itE j∧(∀ hs,RG hs i→RG hs j)∧a5Q i j=true:=by
 obtain ⟨r,⟨a0,a1,a2,a3,ls,ld,a5,a6,s7,s8,fs,fd,p1,p2,p3,p4⟩⟩:=i
 obtain ⟨r',⟨a0',a1',a2',a3',ls',ld',a5',a6',s7',s8',fs',fd',p1',p2',p3',p4'⟩⟩:=j
 simp only [a1Y,RI.mk.injEq] at h
 obtain ⟨rfl,rfl,rfl,rfl,rfl,rfl,rfl,rfl,rfl,rfl,rfl⟩:=h
 refine ⟨rfl,rfl,fun hs g=>⟨g.fs,g.ok,g.host,g.r,g.bl,⟨g.rd.r,g.rd.a0,g.rd.a1,g.rd.a2,g.rd.a3,g.rd.nl,g.rd.ls,g.rd.a5,g.rd.a6,g.rd.t7,g.rd.t8,g.rd.nf,g.rd.fs⟩⟩,?_⟩
 simp [-bind_some, a5Q,a6A]
end Go.Proofs.YtjmndhbabkjebaaGreatDoor

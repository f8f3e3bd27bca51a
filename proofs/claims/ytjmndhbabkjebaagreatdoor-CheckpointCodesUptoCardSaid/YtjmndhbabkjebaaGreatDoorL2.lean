/- Laws, on plain data, about functions that the statement reaches. -/
import Derived.Test.YtjmndhbabkjebaaGreatDoorL1
set_option linter.unusedSimpArgs false
set_option linter.unusedVariables false
set_option linter.unnecessarySimpa false
set_option maxRecDepth 100000
namespace Go.Proofs.YtjmndhbabkjebaaGreatDoor
open Go.Eng Go.Pi
open Option (bind_some)
theorem c6Y {α:Type} {c:α→α→Int} {S Pre:α→α→Prop} (o:SOrd c S Pre) {A1 A2 B1 B2 C1 C2:List α} (hA:(A1++A2).Pairwise S) (hB:(B1++B2).Pairwise S) (hp:∀ x∈A1++A2,∀ y∈B1++B2,Pre x y)
  (h1:A1=[]∨B2=[]∨∃ x y r s,A1=r++[x]∧B2=y::s∧¬ c y x<0) (h2:A2=[]∨B1=[]∨∃ x y r s,B1=r++[y]∧A2=x::s∧c y x<0)
  (p1:C1.Perm (A1++B1)) (s1:C1.Pairwise S) (p2:C2.Perm (A2++B2)) (s2:C2.Pairwise S):(C1++C2).Perm ((A1++A2)++(B1++B2))∧(C1++C2).Pairwise S:=by
 rw [List.pairwise_append] at hA hB
 have x1:∀ x∈A1,∀ y∈B2,S x y:=by
  intro x hx y hy
  rcases h1 with rfl | rfl | ⟨u,v,r,s,rfl,rfl,huv⟩
  ·cases hx
  ·cases hy
  ·have huv:S u v:=o.ge u v (hp u (by simp) v (by simp)) huv
   have q1:x=u∨S x u:=by
    have:=hA.1
    rw [List.pairwise_append] at this
    rcases d7y.1 hx with hx | hx
    ·exact .inr (this.2.2 x hx u (by simp))
    ·simp at hx;exact .inl hx
   have q2:y=v∨S v y:=by
    have:=hB.2.1
    rw [List.pairwise_cons] at this
    rcases d7x.1 hy with rfl | hy
    ·exact .inl rfl
    ·exact .inr (this.1 y hy)
   rcases q1 with rfl | q1 <;> rcases q2 with rfl | q2
   ·exact huv
   ·exact o.tr _ _ _ huv q2
   ·exact o.tr _ _ _ q1 huv
   ·exact o.tr _ _ _ (o.tr _ _ _ q1 huv) q2
 have x2:∀ y∈B1,∀ x∈A2,S y x:=by
  intro y hy x hx
  rcases h2 with rfl | rfl | ⟨u,v,r,s,rfl,rfl,huv⟩
  ·cases hx
  ·cases hy
  ·have huv:S v u:=o.lt u v (hp u (by simp) v (by simp)) huv
   have q1:y=v∨S y v:=by
    have:=hB.1
    rw [List.pairwise_append] at this
    rcases d7y.1 hy with hy | hy
    ·exact .inr (this.2.2 y hy v (by simp))
    ·simp at hy;exact .inl hy
   have q2:x=u∨S u x:=by
    have:=hA.2.1
    rw [List.pairwise_cons] at this
    rcases d7x.1 hx with rfl | hx
    ·exact .inl rfl
    ·exact .inr (this.1 x hx)
   rcases q1 with rfl | q1 <;> rcases q2 with rfl | q2
   ·exact huv
   ·exact o.tr _ _ _ huv q2
   ·exact o.tr _ _ _ q1 huv
   ·exact o.tr _ _ _ (o.tr _ _ _ q1 huv) q2
 refine ⟨?_,List.pairwise_append.2 ⟨s1,s2,fun a ha b hb=>?_⟩⟩
 ·refine (p1.append p2).trans ?_
  have:(B1++(A2++B2)).Perm (A2++(B1++B2)):=by
   rw [← List.append_assoc,← List.append_assoc]
   exact List.perm_append_comm.append_right B2
  simpa using this.append_left A1
 ·rcases d7y.1 (p1.mem_iff.1 ha) with ha | ha <;> rcases d7y.1 (p2.mem_iff.1 hb) with hb | hb
  ·exact hA.2.2 a ha b hb
  ·exact x1 a ha b hb
  ·exact x2 a ha b hb
  ·exact hB.2.2 a ha b hb
def U8 (z:Int):Prop:=0≤z∧z<256
theorem U8.u32 {z:Int} (h:U8 z):U32 z:=⟨h.1,by have:=h.2;omega⟩
def num (l:List Int):Int:=l.foldl (fun v b=>v*256+b) 0
theorem a6J (n:Int):IntKind.wrap .u8 n=n % 256:=by
 unfold IntKind.wrap
 simp [-bind_some, IntKind.signed,IntKind.bits,IntKind.min,IntKind.max]
def rdN:Nat→List Int→List (List Int) × Nat
 | 0,_=>([],0)
 | k+1,r=>if r.length<8∨(num (r.take 4)).toNat<1∨8388608<(num (r.take 4)).toNat∨r.length - 8<(num (r.take 4)).toNat∨num ((r.drop 4).take 4)≠crc (r.take 4++(r.drop 8).take (num (r.take 4)).toNat) then ([],0)
  else ((r.drop 8).take (num (r.take 4)).toNat::(rdN k (r.drop (8+(num (r.take 4)).toNat))).1,8+(num (r.take 4)).toNat+(rdN k (r.drop (8+(num (r.take 4)).toNat))).2)
def rd (r:List Int):List (List Int) × Nat:=rdN r.length r
def a3B:Nat→Int→List Int
 | 0,_=>[]
 | n+1,v=>IntKind.wrap .u8 (v.fdiv (2 ^ (8*n)))::a3B n v
theorem a1b:∀ (n:Nat) (v:Int),(a3B n v).length=n
 | 0,v=>rfl
 | n+1,v=>by simp [-bind_some, a3B,a1b n v]
theorem a4t:∀ (n:Nat) (v:Int),∀ z∈a3B n v,U8 z
 | 0,v,z,hz=>by cases hz
 | n+1,v,z,hz=>by
  rcases d7x.1 hz with rfl | hz
  ·rw [a6J];unfold U8;omega
  ·exact a4t n v z hz
def sby (s:Str):List Int:=s.map fun c=>(c.toNat:Int)
theorem a6X (s:Str):(sby s).length=s.length:=by simp [-bind_some, sby]
theorem c8o (s:Str):∀ z∈sby s,U8 z:=by
 intro z hz
 obtain ⟨c,_,rfl⟩:=d7z.1 hz
 have:=c.toNat_lt
 unfold U8
 omega
theorem c1a (s:Str):a1h s=(sby s).map byr:=by simp [-bind_some, a1h,sby,byr,List.map_map,Function.comp_def]
structure Bw (n0:Nat) (h:Hp) (d:D) (h':Hp) (l:List Int) (d':D):Prop where
 ow:Own h' n0 ty5 1 (l.map byr) d'
 len:h.length≤h'.length
 old:∀ q,q<h.length→¬ d.inOb q→h'[q]?=h[q]?
 new:∀ q,d'.inOb q→d.inOb q∨h.length≤q
theorem Bw.trans {n0:Nat} {h h1 h2:Hp} {d d1 d2:D} {l1 l2:List Int} (a:Bw n0 h d h1 l1 d1) (b:Bw n0 h1 d1 h2 l2 d2):Bw n0 h d h2 l2 d2 :=
 ⟨b.ow,Nat.le_trans a.len b.len,fun q hq hd=>(b.old q (Nat.lt_of_lt_of_le hq a.len) fun hx=>by rcases a.new q hx with h1 | h1;exact hd h1;omega).trans (a.old q hq hd),
  fun q hq=>by rcases b.new q hq with h1 | h1;exact a.new q h1;exact .inr (Nat.le_trans a.len h1)⟩
theorem Bw.refl {n0:Nat} {h:Hp} {d:D} {l:List Int} (ow:Own h n0 ty5 1 (l.map byr) d):Bw n0 h d h l d:=⟨ow,Nat.le_refl _,fun _ _ _=>rfl,fun _ hq => .inl hq⟩
theorem Bw.low {n0:Nat} {h h':Hp} {d d':D} {l l0:List Int} (b:Bw n0 h d h' l d') (ow:Own h n0 ty5 1 (l0.map byr) d) (hn:n0≤h.length):∀ q,q<n0→h'[q]?=h[q]?:=fun q hq=>b.old q (by omega) fun hx=>by have:=(ow.lt hx).1;omega
theorem b5o {n0:Nat} {h:Hp} {d y:D} {l m:List Int} (hn:n0≤h.length) (ow:Own h n0 ty5 1 (l.map byr) d) (hy:a1R h 1 y=some (m.map byr)) (hl:l.length+m.length≤1000000000):∃ d' h',a0F tab h a0N a0N d y=some (d',h')∧Bw n0 h d h' (l++m) d':=by
 have key:=@b2V h n0 hn (l.map byr) d y ow _ hy (by simp;omega) _ (fun r=>some r) (fun r=>Bw n0 h d r.2 (l++m) r.1) (fun x' h' a b _ c e => .some ⟨by rw [d7j];exact a,b,c,e⟩)
 obtain ⟨⟨x',g⟩,e1,B⟩:=key
 refine ⟨x',g,?_,B⟩
 cases hq:a0F tab h a0N a0N d y with
 | none=>rw [hq] at e1;cases e1
 | some r=>rw [hq] at e1;exact e1
theorem c9i (h:Hp) (x:D) (s:Str):a0F tab h a0N ty9 x (.str s)=a0F tab h a0N a0N x (.sl 1 true (a1h s)):=id rfl
theorem c6q {n0:Nat} {h:Hp} {d:D} {l:List Int} (hn:n0≤h.length) (ow:Own h n0 ty5 1 (l.map byr) d) (s:Str) (hl:l.length+s.length≤1000000000):∃ d' h',a0F tab h a0N ty9 d (.str s)=some (d',h')∧Bw n0 h d h' (l++sby s) d':=by
 rw [c9i,c1a]
 exact b5o hn ow (a1d _ _ _ _) (by rw [a6X];exact hl)
theorem d2c (v:Int) (n0:Nat):∀ (k:Nat),k≤8→∀ (h:Hp) (l:List Int) (d a:D),n0≤h.length→Own h n0 ty5 1 (l.map byr) d→l.length+k≤1000000000→∃ d' h' b,a0P (a7t (.int .u64 v)) [d,.int .i64 ((k:Int) - 1),a] h=some (.ext 0,[d',b,.bool false],h')∧Bw n0 h d h' (l++a3B k v) d':=by
 intro k
 induction k with
 | zero =>
  intro _ h l d a hn ow hr
  rw [a2c]
  refine ⟨d,h,_,by simp [-bind_some, a7t];rfl,?_⟩
  simpa [-bind_some, a3B] using Bw.refl ow
 | succ k ih =>
  intro hk h l d a hn ow hr
  have hg:(0:Int)≤((k+1:Nat):Int) - 1:=by omega
  have hw1:IntKind.wrap .i64 (8*(((k+1:Nat):Int) - 1))=8*(k:Int):=by rw [wrap_i64 (by omega) (by omega)];omega
  have hw2:IntKind.wrap .i64 (((k+1:Nat):Int) - 1 - 1)=(k:Int) - 1:=by rw [wrap_i64 (by omega) (by omega)];omega
  have hw3:IntKind.wrap .u64 (8*(k:Int))=8*(k:Int):=a1w (by omega) (by omega)
  have h8:¬ (8*(k:Int))<0:=by omega
  have hmn:min (8*(k:Int)).toNat IntKind.u64.bits=8*k:=by
   have:IntKind.u64.bits=64:=rfl
   rw [this];omega
  obtain ⟨x',g,e1,B1⟩:=b5o (y := .sl 1 true [byr (IntKind.wrap .u8 (v.fdiv (2 ^ (8*k))))]) (m:=[IntKind.wrap .u8 (v.fdiv (2 ^ (8*k)))]) hn ow (a1d _ _ _ _) (by simp;omega)
  obtain ⟨d',h',b,e2,B2⟩:=ih (by omega) g _ x' (.bool true) (Nat.le_trans hn B1.len) B1.ow (by simp;omega)
  refine ⟨d',h',b,?_,?_⟩
  ·rw [a2c]
   simp only [a7t,a0g,a0q,bs,a3x,decide_eq_true hg,a0d,if_true,a2D,hw1,a7O,hw3,a4l,h8,if_false,hmn,b3I,b6z,show ∀ z,([[D.int .u8 z]]:List (List D))=[byr z] from fun _=>rfl,e1,a0D,hw2]
   exact e2
  ·have:=B1.trans B2
   simpa [-bind_some, a3B] using this
theorem b0A (v:Int) (k:Nat) (hk:k≤8) (n0:Nat) (h:Hp) (l:List Int) (d:D) (hn:n0≤h.length) (ow:Own h n0 ty5 1 (l.map byr) d) (hr:l.length≤999999000):∃ d' h',R a2l [d,.int .u64 v,.int .i64 k] h=some (d',h')∧Bw n0 h d h' (l++a3B k v) d':=by
 obtain ⟨d',h',b,e1,B⟩:=d2c v n0 k hk h l d .any hn ow (by omega)
 refine ⟨d',h',?_,B⟩
 rw [d0j]
 have hw:IntKind.wrap .i64 ((k:Int) - 1)=(k:Int) - 1:=by rw [wrap_i64 (by omega) (by omega)]
 simp only [c5v,bs,a0D,hw,d7c,e1,a0r,a0s,a0g,a0j]
def pI (n:Int):List Int:=a3B 8 (IntKind.wrap .u64 n)
def pN (n:Nat):List Int:=a3B 4 (IntKind.wrap .u64 n)
def pS (s:Str):List Int:=pN s.length++sby s
theorem a1k (n:Int):(pI n).length=8:=a1b _ _
theorem a1G (n:Nat):(pN n).length=4:=a1b _ _
theorem a1z (s:Str):(pS s).length=4+s.length:=by simp [-bind_some, pS,a1G,a6X]
theorem d2V (n:Int) (n0:Nat) (h:Hp) (l:List Int) (d:D) (hn:n0≤h.length) (ow:Own h n0 ty5 1 (l.map byr) d) (hr:l.length≤999999000):∃ d' h',R a4R [d,.int .i64 n] h=some (d',h')∧Bw n0 h d h' (l++pI n) d':=by
 obtain ⟨d',h',e1,B⟩:=b0A (IntKind.wrap .u64 n) 8 (by omega) n0 h l d hn ow hr
 refine ⟨d',h',?_,B⟩
 rw [d0m]
 have e1:R a2l [d,.int .u64 (IntKind.wrap .u64 n),.int .i64 8] h=some (d',h'):=e1
 simp only [c5y,bs,a2b,e1,a0j]
theorem d2U (s:Str) (n0:Nat) (h:Hp) (l:List Int) (d:D) (hn:n0≤h.length) (ow:Own h n0 ty5 1 (l.map byr) d) (hr:l.length+s.length≤999998000):∃ d' h',R a6x [d,.str s] h=some (d',h')∧Bw n0 h d h' (l++pS s) d':=by
 obtain ⟨d1,h1,e1,B1⟩:=b0A (IntKind.wrap .u64 s.length) 4 (by omega) n0 h l d hn ow (by omega)
 obtain ⟨d2,h2,e2,B2⟩:=c6q (Nat.le_trans hn B1.len) B1.ow s (by simp [-bind_some, a1b];omega)
 have B:=B1.trans B2
 refine ⟨d2,h2,?_,by simpa [-bind_some, pS,pN] using B⟩
 rw [d0l]
 have e1:R a2l [d,.int .u64 (IntKind.wrap .u64 s.length),.int .i64 4] h=some (d1,h1):=e1
 simp only [c5x,bs,a4W,a2b,e1,e2,a0j]
theorem a6V {n0:Nat} {h0 h:Hp} {d0 d:D} {l:List Int} (B:Bw n0 h0 d0 h l d) (hn:n0≤h.length) (s:Str) (hr:l.length+s.length≤999998000) {β:Type} {f:D × Hp→Option β} {Q:β→Prop}
  (k:∀ d' h',Bw n0 h0 d0 h' (l++pS s) d'→n0≤h'.length→Wp (f (d',h')) Q):Wp ((R a6x [d,.str s] h).bind f) Q:=by
 obtain ⟨d',h',e,B1⟩:=d2U s n0 h l d hn B.ow hr
 exact Wp.step e (k d' h' (B.trans B1) (Nat.le_trans hn B1.len))
theorem a5b {n0:Nat} {h0 h:Hp} {d0 d:D} {l:List Int} (B:Bw n0 h0 d0 h l d) (hn:n0≤h.length) (n:Int) (hr:l.length≤999999000) {β:Type} {f:D × Hp→Option β} {Q:β→Prop}
  (k:∀ d' h',Bw n0 h0 d0 h' (l++pI n) d'→n0≤h'.length→Wp (f (d',h')) Q):Wp ((R a4R [d,.int .i64 n] h).bind f) Q:=by
 obtain ⟨d',h',e,B1⟩:=d2V n n0 h l d hn B.ow hr
 exact Wp.step e (k d' h' (B.trans B1) (Nat.le_trans hn B1.len))
theorem b8y {n0:Nat} {h0 h:Hp} {d0 d:D} {l:List Int} (B:Bw n0 h0 d0 h l d) (hn:n0≤h.length) (v:Int) (hr:l.length≤999999000) {β:Type} {f:D × Hp→Option β} {Q:β→Prop}
  (k:∀ d' h',Bw n0 h0 d0 h' (l++a3B 4 v) d'→n0≤h'.length→Wp (f (d',h')) Q):Wp ((R a2l [d,.int .u64 v,.int .i64 4] h).bind f) Q:=by
 obtain ⟨d',h',e,B1⟩:=b0A v 4 (by omega) n0 h l d hn B.ow hr
 exact Wp.step e (k d' h' (B.trans B1) (Nat.le_trans hn B1.len))
theorem b3B {n0:Nat} {h0 h:Hp} {d0 d y:D} {l m:List Int} (B:Bw n0 h0 d0 h l d) (hn:n0≤h.length) (hy:a1R h 1 y=some (m.map byr)) (hl:l.length+m.length≤1000000000) {β:Type} {f:D × Hp→Option β} {Q:β→Prop}
  (k:∀ d' h',Bw n0 h0 d0 h' (l++m) d'→n0≤h'.length→Wp (f (d',h')) Q):Wp ((a0F tab h a0N a0N d y).bind f) Q:=by
 obtain ⟨d',h',e,B1⟩:=b5o hn B.ow hy hl
 exact Wp.step e (k d' h' (B.trans B1) (Nat.le_trans hn B1.len))
def lnB (l:Lin):List Int:=pI l.off++pI l.len++pS l.txt
def fdB (f:Str × Str):List Int:=pS f.1++pS f.2
def a3o (i:It):List Int:=pS i.r++pI i.e.a0++pI i.e.a1++pI i.e.a2++pI i.e.a3++pN i.e.ls.length
def a4k (i:It):List Int:=a3o i++(i.e.ls.map lnB).flatten++pI i.e.a5++pI i.e.a6++pS i.e.s7++pS i.e.s8++pN i.e.fs.length
def a1r (i:It):List Int:=a4k i++(i.e.fs.map fdB).flatten
theorem eF0 (e:Ev):a0a tab a0E 0 (.fptr (evr e))=some (.fptr ((evr e).drop 0)):=id rfl
theorem eF1 (e:Ev):a0a tab a0E 1 (.fptr (evr e))=some (.fptr ((evr e).drop 1)):=id rfl
theorem eF2 (e:Ev):a0a tab a0E 2 (.fptr (evr e))=some (.fptr ((evr e).drop 2)):=id rfl
theorem eF3 (e:Ev):a0a tab a0E 3 (.fptr (evr e))=some (.fptr ((evr e).drop 3)):=id rfl
theorem eF4 (e:Ev):a0a tab a0E 4 (.fptr (evr e))=some (.fptr ((evr e).drop 4)):=id rfl
theorem eF5 (e:Ev):a0a tab a0E 5 (.fptr (evr e))=some (.fptr ((evr e).drop 5)):=id rfl
theorem eF6 (e:Ev):a0a tab a0E 6 (.fptr (evr e))=some (.fptr ((evr e).drop 6)):=id rfl
theorem eF7 (e:Ev):a0a tab a0E 7 (.fptr (evr e))=some (.fptr ((evr e).drop 7)):=id rfl
theorem eF8 (e:Ev):a0a tab a0E 8 (.fptr (evr e))=some (.fptr ((evr e).drop 8)):=id rfl
theorem eF9 (e:Ev):a0a tab a0E 9 (.fptr (evr e))=some (.fptr ((evr e).drop 9)):=id rfl
theorem eL0 (e:Ev) (g:Hp):a0b tab g ty3 (.fptr ((evr e).drop 0))=some (.int .i64 e.a0):=id rfl
theorem eL1 (e:Ev) (g:Hp):a0b tab g ty3 (.fptr ((evr e).drop 1))=some (.int .i64 e.a1):=id rfl
theorem eL2 (e:Ev) (g:Hp):a0b tab g ty3 (.fptr ((evr e).drop 2))=some (.int .i64 e.a2):=id rfl
theorem eL3 (e:Ev) (g:Hp):a0b tab g ty3 (.fptr ((evr e).drop 3))=some (.int .i64 e.a3):=id rfl
theorem eL4 (e:Ev) (g:Hp):a0b tab g a1i (.fptr ((evr e).drop 4))=some e.ld:=a9i _ _ _
theorem eL5 (e:Ev) (g:Hp):a0b tab g ty3 (.fptr ((evr e).drop 5))=some (.int .i64 e.a5):=id rfl
theorem eL6 (e:Ev) (g:Hp):a0b tab g ty3 (.fptr ((evr e).drop 6))=some (.int .i64 e.a6):=id rfl
theorem eL7 (e:Ev) (g:Hp):a0b tab g ty9 (.fptr ((evr e).drop 7))=some (.str e.s7):=id rfl
theorem eL8 (e:Ev) (g:Hp):a0b tab g ty9 (.fptr ((evr e).drop 8))=some (.str e.s8):=id rfl
theorem eL9 (e:Ev) (g:Hp):a0b tab g a1e (.fptr ((evr e).drop 9))=some e.fd:=b6m _ _ _
theorem lF0 (l:Lin):a0a tab a1o 0 (.fptr (a1p l))=some (.fptr (a1p l)):=id rfl
theorem lF1 (l:Lin):a0a tab a1o 1 (.fptr (a1p l))=some (.fptr [.int .i64 l.len,.str l.txt]):=id rfl
theorem lF2 (l:Lin):a0a tab a1o 2 (.fptr (a1p l))=some (.fptr [.str l.txt]):=id rfl
theorem lL0 (l:Lin) (g:Hp):a0b tab g ty3 (.fptr (a1p l))=some (.int .i64 l.off):=id rfl
theorem fF0 (p:Str × Str):a0a tab a0x 0 (.fptr (fld p))=some (.fptr (fld p)):=id rfl
theorem fF1 (p:Str × Str):a0a tab a0x 1 (.fptr (fld p))=some (.fptr [.str p.2]):=id rfl
theorem fL0 (p:Str × Str) (g:Hp):a0b tab g ty9 (.fptr (fld p))=some (.str p.1):=id rfl
theorem a1y {α:Type} (f:α→List Int) {l:List α} {n:Nat} {x:α} (h:l[n]?=some x):((l.take (n+1)).map f).flatten=((l.take n).map f).flatten++f x:=by
 rw [d7o,h];simp [-bind_some]
theorem a5P {α:Type} (f:α→List Int) (l:List α) (n:Nat):((l.take n).map f).flatten.length≤(l.map f).flatten.length:=by
 conv=>rhs;rw [← List.take_append_drop n l,d7j,List.flatten_append,d7h]
 omega
theorem d2k (e:Ev) {n0:Nat} {h0 h:Hp} {d0 d:D} {p:List Int} (B:Bw n0 h0 d0 h p d) (hn:n0≤h.length) (hb:p.length+(e.ls.map lnB).flatten.length≤900000000) (x:D) {β:Type} {K:Out→Option β} {Q:β→Prop}
  (k:∀ d' h' a b,Bw n0 h0 d0 h' (p++(e.ls.map lnB).flatten) d'→n0≤h'.length→Wp (K (.ext 0,[d',a,b],h')) Q):Wp ((a0P (a9E (.fptr (evr e))) [d,.int .i64 0,x] h).bind K) Q:=by
 refine Wp.loop (fun k ds g=>n0≤g.length∧∃ d' x,∃ n:Nat,ds=[d',.int .i64 n,x]∧k+n=e.ls.length∧Bw n0 h0 d0 g (p++((e.ls.take n).map lnB).flatten) d')
  (fun r=>r.1 = .ext 0∧n0≤r.2.2.length∧(∃ d' a b,r.2.1=[d',a,b]∧Bw n0 h0 d0 r.2.2 (p++(e.ls.map lnB).flatten) d')) e.ls.length ⟨hn,_,_,0,rfl,rfl,by simpa using B⟩ ?_ ?_
 ·rintro k ds g ⟨hg,d',x,n,rfl,hk,B⟩
  have hll:=e.hll
  simp only [a9E,a0g,a0q,bs,d7c,eF4,eL4,a2P e.hld,a0n]
  refine Wp.dif ?_ ?_
  ·intro h0
   have h0:n<e.ls.length:=dl_ h0
   obtain ⟨l,hl⟩:=gx_ h0
   have hw:=wi_ n (by omega)
   have hle:=a5P lnB e.ls (n+1)
   rw [a1y lnB hl,d7h] at hle
   have hln:(lnB l).length=20+l.txt.length:=by simp [-bind_some, lnB,a1k,a1z];omega
   have hix:a0c tab a1i e.ld (.int .i64 (n:Int))=some (.fptr (a1p l)):=by rw [a8e e.hld];simp [-bind_some, hl]
   simp only [hix,bs,lF0,lF1,lF2,lL0,ld3,ld9,a1H]
   refine a5b B hg l.off (by simp only [d7h,d7u,a1k,a1G,a1z,a1b];omega) fun d1 g1 B1 n1=>?_
   simp only [bs]
   refine a5b B1 n1 l.len (by simp only [d7h,d7u,a1k,a1G,a1z,a1b];omega) fun d2 g2 B2 n2=>?_
   simp only [bs]
   refine a6V B2 n2 l.txt (by simp only [d7h,d7u,a1k,a1G,a1z,a1b];omega) fun d3 g3 B3 n3=>?_
   simp only [bs,a1H,a0t,hw]
   refine .some (.inl ⟨rfl,k - 1,by omega,n3,_,_,n+1,rfl,by omega,?_⟩)
   rw [a1y lnB hl]
   simpa [-bind_some, lnB] using B3
  ·intro h0
   have h0:n=e.ls.length:=by
    have:¬ (n:Int)<e.ls.length:=by simpa using h0
    omega
   subst h0
   rw [d7A] at B
   exact .some (.inr ⟨by simp,rfl,hg,_,_,_,rfl,B⟩)
 ·rintro ⟨ex,ds,g⟩ ⟨rfl,q2,d',a,b,rfl,q3⟩
  exact k d' g a b q3 q2
theorem d1h (e:Ev) {n0:Nat} {h0 h:Hp} {d0 d:D} {p:List Int} (B:Bw n0 h0 d0 h p d) (hn:n0≤h.length) (hb:p.length+(e.fs.map fdB).flatten.length≤900000000) (x:D) {β:Type} {K:Out→Option β} {Q:β→Prop}
  (k:∀ d' h' a b,Bw n0 h0 d0 h' (p++(e.fs.map fdB).flatten) d'→n0≤h'.length→Wp (K (.ext 2,[d',a,b],h')) Q):Wp ((a0P (a9F (.fptr (evr e))) [d,.int .i64 0,x] h).bind K) Q:=by
 refine Wp.loop (fun k ds g=>n0≤g.length∧∃ d' x,∃ n:Nat,ds=[d',.int .i64 n,x]∧k+n=e.fs.length∧Bw n0 h0 d0 g (p++((e.fs.take n).map fdB).flatten) d')
  (fun r=>r.1 = .ext 2∧n0≤r.2.2.length∧(∃ d' a b,r.2.1=[d',a,b]∧Bw n0 h0 d0 r.2.2 (p++(e.fs.map fdB).flatten) d')) e.fs.length ⟨hn,_,_,0,rfl,rfl,by simpa using B⟩ ?_ ?_
 ·rintro k ds g ⟨hg,d',x,n,rfl,hk,B⟩
  have hll:=e.hl
  simp only [a9F,a0g,a0q,bs,d7c,eF9,eL9,a2w e.hfd,a0n]
  refine Wp.dif ?_ ?_
  ·intro h0
   have h0:n<e.fs.length:=dl_ h0
   obtain ⟨l,hl⟩:=gx_ h0
   have hw:=wi_ n (by omega)
   have hle:=a5P fdB e.fs (n+1)
   rw [a1y fdB hl,d7h] at hle
   have hln:(fdB l).length=8+l.1.length+l.2.length:=by simp [-bind_some, fdB,a1z];omega
   have hix:a0c tab a1e e.fd (.int .i64 (n:Int))=some (.fptr (fld l)):=by rw [a8K e.hfd];simp [-bind_some, hl]
   simp only [hix,bs,fF0,fF1,fL0,ld9,a1H]
   refine a6V B hg l.1 (by simp only [d7h,d7u,a1k,a1G,a1z,a1b];omega) fun d1 g1 B1 n1=>?_
   simp only [bs]
   refine a6V B1 n1 l.2 (by simp only [d7h,d7u,a1k,a1G,a1z,a1b];omega) fun d3 g3 B3 n3=>?_
   simp only [bs,a1H,a0t,hw]
   refine .some (.inl ⟨rfl,k - 1,by omega,n3,_,_,n+1,rfl,by omega,?_⟩)
   rw [a1y fdB hl]
   simpa [-bind_some, fdB] using B3
  ·intro h0
   have h0:n=e.fs.length:=by
    have:¬ (n:Int)<e.fs.length:=by simpa using h0
    omega
   subst h0
   rw [d7A] at B
   exact .some (.inr ⟨by simp,rfl,hg,_,_,_,rfl,B⟩)
 ·rintro ⟨ex,ds,g⟩ ⟨rfl,q2,d',a,b,rfl,q3⟩
  exact k d' g a b q3 q2
theorem d2T (i:It) (n0:Nat) (h:Hp) (hn:n0≤h.length) (hb:(a1r i).length≤900000000):∃ d' h',R b4h [.agg (itr i)] h=some (d',h')∧Bw n0 h .nils h' (a1r i) d':=by
 suffices Wp (R b4h [.agg (itr i)] h) (fun p=>Bw n0 h .nils p.2 (a1r i) p.1) by
  obtain ⟨⟨x,h'⟩,h1,h2⟩:=this
  exact ⟨x,h',h1,h2⟩
 have hbx:a3s 10 (.agg (evr i.e))=some (.fptr (evr i.e)):=a1T 10 _ rfl
 have hbb:=hb
 simp only [a1r,a4k,a3o,d7h,a1k,a1G,a1z] at hbb
 rw [d0i]
 simp only [c5u,a1M,bs,d7c,c8L,c8M,c8N,evL,hbx,eF0,eF1,eF2,eF3,eF4,eF5,eF6,eF7,eF8,eF9,eL0,eL1,eL2,eL3,eL4,eL5,eL6,eL7,eL8,eL9,a2P i.e.hld,a2w i.e.hfd,a2b,a1H]
 have B0:Bw n0 h .nils h [] .nils:=Bw.refl (Own.nils _ _ _ _)
 refine a6V B0 hn i.r (by simp only [d7h,d7u,a1k,a1G,a1z,a1b];omega) fun d1 g1 B1 n1=>?_
 simp only [bs]
 refine a5b B1 n1 _ (by simp only [d7h,d7u,a1k,a1G,a1z,a1b];omega) fun d2 g2 B2 n2=>?_
 simp only [bs]
 refine a5b B2 n2 _ (by simp only [d7h,d7u,a1k,a1G,a1z,a1b];omega) fun d3 g3 B3 n3=>?_
 simp only [bs]
 refine a5b B3 n3 _ (by simp only [d7h,d7u,a1k,a1G,a1z,a1b];omega) fun d4 g4 B4 n4=>?_
 simp only [bs]
 refine a5b B4 n4 _ (by simp only [d7h,d7u,a1k,a1G,a1z,a1b];omega) fun d5 g5 B5 n5=>?_
 simp only [bs,a1H]
 refine b8y B5 n5 _ (by simp only [d7h,d7u,a1k,a1G,a1z,a1b];omega) fun d6 g6 B6 n6=>?_
 simp only [bs]
 have hA:[]++pS i.r++pI i.e.a0++pI i.e.a1++pI i.e.a2++pI i.e.a3++a3B 4 (IntKind.wrap .u64 i.e.ls.length)=a3o i:=by simp [-bind_some, a3o,pN]
 rw [hA] at B6
 have hAl:(a3o i).length=4+i.r.length+36:=by simp [-bind_some, a3o,a1z,a1k,a1G]
 refine d2k i.e B6 n6 (by omega) _ fun d7 g7 a b B7 n7=>?_
 simp only [bs,a0r,a0s,a0g]
 refine a5b B7 n7 _ (by simp only [d7h,d7u,a1k,a1G,a1z,a1b];omega) fun d8 g8 B8 n8=>?_
 simp only [bs]
 refine a5b B8 n8 _ (by simp only [d7h,d7u,a1k,a1G,a1z,a1b];omega) fun d9 g9 B9 n9=>?_
 simp only [bs]
 refine a6V B9 n9 _ (by simp only [d7h,d7u,a1k,a1G,a1z,a1b];omega) fun d10 g10 B10 n10=>?_
 simp only [bs]
 refine a6V B10 n10 _ (by simp only [d7h,d7u,a1k,a1G,a1z,a1b];omega) fun d11 g11 B11 n11=>?_
 simp only [bs,a1H]
 refine b8y B11 n11 _ (by simp only [d7h,d7u,a1k,a1G,a1z,a1b];omega) fun d12 g12 B12 n12=>?_
 simp only [bs]
 have hB:a3o i++(i.e.ls.map lnB).flatten++pI i.e.a5++pI i.e.a6++pS i.e.s7++pS i.e.s8++a3B 4 (IntKind.wrap .u64 i.e.fs.length)=a4k i:=by simp [-bind_some, a4k,pN]
 rw [hB] at B12
 have hBl:(a4k i).length=(a3o i).length+(i.e.ls.map lnB).flatten.length+16+(4+i.e.s7.length)+(4+i.e.s8.length)+4:=by simp only [a4k,d7h,a1k,a1z,a1G]
 refine d1h i.e B12 n12 (by omega) _ fun d13 g13 a b B13 n13=>?_
 simp only [bs,a0r,a0s,a0g,a0j]
 exact .some B13
def RdB (h:Hp) (l:List Int) (d:D):Prop:=SlOf 1 byr l d∨∃ ob,d = .msl 1 ob 0 l.length∧h[ob]?=some (Ob.row ty5 1 (l.map byr))
theorem RdB.own {h:Hp} {n0:Nat} {l:List Int} {d:D} (ow:Own h n0 ty5 1 (l.map byr) d):RdB h l d:=by
 rcases ow with ⟨rfl,hl⟩ | ⟨o,_,rfl,hg⟩
 ·exact .inl (.inl ⟨rfl,by simpa using hl⟩)
 ·exact .inr ⟨o,by simp,hg⟩
theorem a8n {h:Hp} {l:List Int} {d:D} (hd:RdB h l d):a0y tab a0N d=some (.int .i64 l.length):=by
 rcases hd with hd | ⟨ob,rfl,_⟩
 ·exact a1Z hd
 ·exact a7m _ _ _ _
theorem b8D {h:Hp} {l:List Int} {d:D} (hd:RdB h l d) (i:Nat) (z:Int) (hz:l[i]?=some z):∃ q,a0c tab a0N d (.int .i64 i)=some q∧a0b tab h ty5 q=some (.int .u8 z):=by
 rcases hd with hd | ⟨ob,rfl,ho⟩
 ·exact ⟨.fptr (byr z),by rw [c0A hd];simp [-bind_some, hz],b3D z h⟩
 ·have hlt:=(d7s.1 hz).1
  refine ⟨.ptr ob (0+i) 0,by rw [b5C];simp [-bind_some, hlt],?_⟩
  rw [c8P,a0I ho,d7p]
  simp [-bind_some, hz,byr]
theorem a4u {h:Hp} {l:List Int} {d:D} (hd:RdB h l d):a1R h 1 d=some (l.map byr):=by
 rcases hd with hd | ⟨ob,rfl,ho⟩
 ·rcases hd with ⟨rfl,rfl⟩ | ⟨b,rfl⟩
  ·rfl
  ·exact a1d _ _ _ _
 ·simp only [a1R,if_true,ho,List.drop_zero]
  rw [List.take_of_length_le (by simp)]
theorem RdB.keep {h h':Hp} {l:List Int} {d:D} (hd:RdB h l d) (hk:∀ (q T z:Nat) (rows:List (List D)),h[q]?=some (Ob.row T z rows)→h'[q]?=h[q]?):RdB h' l d:=by
 rcases hd with hd | ⟨ob,rfl,ho⟩
 ·exact .inl hd
 ·exact .inr ⟨ob,rfl,by rw [hk _ _ _ _ ho];exact ho⟩
def a2t (l:List Int):Int:=l.foldl (fun c z=>(c*31+z) % 4294967291) 1
theorem a7L {l:List Int} {n:Nat} {z:Int} (h:l[n]?=some z):a2t (l.take (n+1))=(a2t (l.take n)*31+z) % 4294967291:=by
 unfold a2t
 rw [d7o,h]
 simp [-bind_some]
theorem a3A:∀ (l:List Int),0≤a2t l∧a2t l<4294967291:=by
 intro l
 unfold a2t
 generalize hc:(1:Int)=c
 have h0:0≤c∧c<4294967291:=by omega
 clear hc
 induction l generalizing c with
 | nil=>exact h0
 | cons z r ih =>
  simp only [List.foldl_cons]
  exact ih _ (by omega)
theorem c2g (l:List Int) (d:D) (h:Hp) (hdl:a0y tab a0N d=some (.int .i64 l.length)) (hdx:∀ (i:Nat) (z:Int),l[i]?=some z→∃ q,a0c tab a0N d (.int .i64 i)=some q∧a0b tab h ty5 q=some (.int .u8 z)) (hl:l.length≤9223372036854775806) (hu:∀ z∈l,U8 z):R a4Q [d] h=some (.int .u64 (a2t l),h):=by
 apply Wp.val
 rw [d0k]
 simp only [c5w,bs,d7c]
 refine Wp.loop (fun k ds g=>g=h∧∃ x,∃ n:Nat,ds=[.int .u64 (a2t (l.take n)),.int .i64 n,x]∧k+n=l.length) (fun r=>r.1 = .ext 0∧r.2.2=h∧∃ a b,r.2.1=[.int .u64 (a2t l),a,b]) l.length ⟨rfl,_,0,rfl,rfl⟩ ?_ ?_
 ·rintro k ds g ⟨rfl,x,n,rfl,hk⟩
  simp only [b3h,a0g,a0q,bs,d7c,hdl,a0n]
  refine Wp.dif ?_ ?_
  ·intro h0
   have h0:n<l.length:=dl_ h0
   obtain ⟨z,hz⟩:=gx_ h0
   have hzu:=hu z (d7q hz)
   obtain ⟨q,q1,q2⟩:=hdx n z hz
   have hr:=a3A (l.take n)
   have hw:=wi_ n (by omega)
   unfold U8 at hzu
   have w1:IntKind.wrap .u64 (a2t (l.take n)*31)=a2t (l.take n)*31:=a1w (by omega) (by omega)
   have w2:IntKind.wrap .u64 z=z:=a1w (by omega) (by omega)
   have w3:IntKind.wrap .u64 (a2t (l.take n)*31+z)=a2t (l.take n)*31+z:=a1w (by omega) (by omega)
   have w4:(a2t (l.take n)*31+z).tmod 4294967291=a2t (l.take (n+1)):=by
    rw [a7L hz,Int.tmod_eq_emod_of_nonneg (by omega)]
   simp only [a2D,w1,q1,q2,a6i,w2,a0t,w3,bs,a3j,show ¬ ((4294967291:Int)=0) by omega,if_false,w4,hw]
   exact .some (.inl ⟨rfl,k - 1,by omega,rfl,_,n+1,rfl,by omega⟩)
  ·intro h0
   have h0:n=l.length:=by
    have:¬ (n:Int)<l.length:=by simpa using h0
    omega
   subst h0
   rw [d7A]
   exact .some (.inr ⟨by simp,rfl,rfl,_,_,rfl⟩)
 ·rintro ⟨ex,ds,g⟩ ⟨rfl,q2,a,b,rfl⟩
  simp only at q2
  subst q2
  simp only [a0r,a0s,bs,a0g,a0j]
  exact .some rfl
theorem c0X (l:List Int) (d:D) (h:Hp) (hd:RdB h l d) (hl:l.length≤9223372036854775806) (hu:∀ z∈l,U8 z):R a4Q [d] h=some (.int .u64 (a2t l),h):=c2g l d h (a8n hd) (fun i z hz=>b8D hd i z hz) hl hu
theorem b9I (i:It):∀ z∈a1r i,U8 z:=by
 have hI:∀ n,∀ z∈pI n,U8 z:=fun n=>a4t _ _
 have hN:∀ n,∀ z∈pN n,U8 z:=fun n=>a4t _ _
 have hS:∀ s,∀ z∈pS s,U8 z:=fun s z hz=>by
  rcases d7y.1 hz with h | h
  ·exact hN _ z h
  ·exact c8o _ z h
 intro z hz
 simp only [a1r,a4k,a3o,d7y,List.mem_flatten,d7z] at hz
 rcases hz with ((((((((((((h | h) | h) | h) | h) | h) | ⟨_,⟨l,_,rfl⟩,h⟩) | h) | h) | h) | h) | h)) | ⟨_,⟨l,_,rfl⟩,h⟩
 ·exact hS _ z h
 ·exact hI _ z h
 ·exact hI _ z h
 ·exact hI _ z h
 ·exact hI _ z h
 ·exact hN _ z h
 ·simp only [lnB,d7y] at h
  rcases h with (h | h) | h
  ·exact hI _ z h
  ·exact hI _ z h
  ·exact hS _ z h
 ·exact hI _ z h
 ·exact hI _ z h
 ·exact hS _ z h
 ·exact hS _ z h
 ·exact hN _ z h
 ·simp only [fdB,d7y] at h
  rcases h with h | h
  ·exact hS _ z h
  ·exact hS _ z h
def a5y (i:It):List Int:=a3B 4 (IntKind.wrap .u64 (((a1r i).length:Int)+4))++a1r i
def a2N (i:It):List Int:=a5y i++a3B 4 (a2t (a5y i))
theorem b2n (i:It):∀ z∈a5y i,U8 z:=fun z hz=>by
 rcases d7y.1 hz with h | h
 ·exact a4t _ _ z h
 ·exact b9I i z h
theorem c2W (i:It):∀ z∈a2N i,U8 z:=fun z hz=>by
 rcases d7y.1 hz with h | h
 ·exact b2n i z h
 ·exact a4t _ _ z h
theorem a3y (i:It):(a2N i).length=(a1r i).length+8:=by
 simp only [a2N,a5y,d7h,a1b];omega
theorem d2g (i:It) (h:Hp):a0b tab h a0L (.fptr (itr i))=some (.agg (itr i)):=id rfl
theorem d2S (i:It) (c:Int) (h:Hp) (hc:∀ g,R a6w [.agg (itr i)] g=some (.int .i64 c,g)) (hb:(a1r i).length≤900000000):∃ d',R b4g [.agg (itr i)] h=some (.tup [d',.int .i64 c],h)∧SlOf 1 byr (if c=0 then a2N i else []) d':=by
 suffices Wp (R b4g [.agg (itr i)] h) (fun p=>p.2=h∧∃ d',p.1 = .tup [d',.int .i64 c]∧SlOf 1 byr (if c=0 then a2N i else []) d') by
  obtain ⟨⟨x,h'⟩,h1,rfl,d',rfl,h2⟩:=this
  exact ⟨d',h1,h2⟩
 rw [d0h]
 simp only [c5t,a1M,bs,d7c,d2g,hc,a0w]
 refine Wp.dif ?_ ?_
 ·intro h0
  have h0:¬ c=0:=by simpa using h0
  simp only [bs,a1c]
  rw [a1n (d' := .tup [.nils,.int .i64 c]) (by simp) (.tup _ fun d hd=>by simp at hd;rcases hd with rfl | rfl <;> constructor) (Nat.le_refl _) fun _ _=>rfl]
  exact .some ⟨rfl,_,rfl,by rw [if_neg h0];exact .nils _ _⟩
 ·intro h0
  have h0:c=0:=by simpa using h0
  subst h0
  obtain ⟨d1,h1,e1,B1⟩:=d2T i h.length h (Nat.le_refl _) hb
  have w1:IntKind.wrap .i64 (((a1r i).length:Int)+4)=((a1r i).length:Int)+4:=wrap_i64 (by omega) (by omega)
  have r1:=RdB.own B1.ow
  refine Wp.step e1 ?_
  simp only [bs,a8n r1,a0t,w1,a2b]
  obtain ⟨d2,h2,e2,B2⟩:=b0A (IntKind.wrap .u64 (((a1r i).length:Int)+4)) 4 (by omega) h1.length h1 [] .nils (Nat.le_refl _) (Own.nils _ _ _ _) (by simp)
  have e2:R a2l [.nils,.int .u64 (IntKind.wrap .u64 (((a1r i).length:Int)+4)),.int .i64 4] h1=some (d2,h2):=e2
  refine Wp.step e2 ?_
  simp only [bs]
  have r2:RdB h2 (a1r i) d1:=by
   rcases B1.ow with ⟨hx,hl⟩ | ⟨o,ho,hx,hg⟩
   ·exact .inl (.inl ⟨hx,by simpa using hl⟩)
   ·refine .inr ⟨o,by rw [hx];simp [-bind_some],?_⟩
    have holt:=(d7s.1 hg).1
    rw [B2.old o holt (fun hh=>by obtain ⟨z,n,hh⟩:=hh;cases hh)]
    exact hg
  have ow2:Own h2 h.length ty5 1 ((([]:List Int)++a3B 4 (IntKind.wrap .u64 (((a1r i).length:Int)+4))).map byr) d2:=B2.ow.from B1.len
  obtain ⟨d3,h3,e3,B3⟩:=b5o (Nat.le_trans B1.len B2.len) ow2 (a4u r2) (by simp only [d7h,d7u,a1b];omega)
  refine Wp.step e3 ?_
  simp only [bs]
  have hH:[]++a3B 4 (IntKind.wrap .u64 (((a1r i).length:Int)+4))++a1r i=a5y i:=by simp [-bind_some, a5y]
  rw [hH] at B3
  have hHl:(a5y i).length=4+(a1r i).length:=by simp only [a5y,d7h,a1b]
  have e4:=c0X (a5y i) d3 h3 (RdB.own B3.ow) (by omega) (b2n i)
  refine Wp.step e4 ?_
  simp only [bs]
  have hn3:h.length≤h3.length:=Nat.le_trans (Nat.le_trans B1.len B2.len) B3.len
  obtain ⟨d5,h5,e5,B5⟩:=b0A (a2t (a5y i)) 4 (by omega) h.length h3 (a5y i) d3 hn3 B3.ow (by omega)
  have e5:R a2l [d3,.int .u64 (a2t (a5y i)),.int .i64 4] h3=some (d5,h5):=e5
  refine Wp.step e5 ?_
  have hE:a5y i++a3B 4 (a2t (a5y i))=a2N i:=rfl
  rw [hE] at B5
  simp only [bs,a1c]
  have hsl:=a2g (n0:=h.length) (n:=2) B5.ow (Nat.le_refl _) (fun a _=>a5L _ h5 2 a)
  have hlow:∀ q,q<h.length→h5[q]?=h[q]?:=fun q hq=>by
   have nd:∀ {d:D} {g:Hp} {l:List Int},Own g h.length ty5 1 (l.map byr) d→¬ d.inOb q:=fun ow hx=>by have:=(ow.lt hx).1;omega
   rw [B5.old q (by omega) (nd B3.ow),B3.old q (by have:=B1.len;have:=B2.len;omega) (nd ow2),B2.old q (by have:=B1.len;omega) (fun hh=>by obtain ⟨z,n,hh⟩:=hh;cases hh),
    B1.old q hq (fun hh=>by obtain ⟨z,n,hh⟩:=hh;cases hh)]
  rw [a1n (d' := .tup [frz h.length h5 3 d5,.int .i64 0]) (by simp) (by
   refine .tup _ fun d hd=>?_
   simp at hd
   rcases hd with rfl | rfl
   ·exact a1K hsl fun a _=>a7K _ a
   ·constructor) (Nat.le_trans hn3 B5.len) hlow]
  exact .some ⟨rfl,_,rfl,by simpa using hsl⟩
theorem a2E {α:Type} (f:α→List Int) (m:Nat):∀ (l:List α),(∀ a∈l,(f a).length≤m)→(l.map f).flatten.length≤l.length*m
 | [],_=>by simp
 | a::l,h=>by
  have h1:=h a (by simp)
  have h2:=a2E f m l fun b hb=>h b (by simp [-bind_some, hb])
  simp only [d7k,List.flatten_cons,d7h,d7t,Nat.succ_mul]
  omega
theorem c7F (w x b k:Nat) (hb:b<2 ^ k) (hx:x*2 ^ k+b<2 ^ w):(BitVec.ofInt w ((x*2 ^ k:Nat):Int) ||| BitVec.ofInt w (b:Int)).toNat=x*2 ^ k+b:=by
 rw [BitVec.ofInt_natCast,BitVec.ofInt_natCast,BitVec.toNat_or,BitVec.toNat_ofNat,BitVec.toNat_ofNat,Nat.mod_eq_of_lt (by omega),Nat.mod_eq_of_lt (by omega)]
 rw [← Nat.shiftLeft_eq,← Nat.shiftLeft_add_eq_or_of_lt hb,Nat.shiftLeft_eq]
theorem b1Y (x:BitVec IntKind.u64.bits):IntKind.wrap .u64 (x.toNat:Int)=x.toNat:=by
 have:=x.isLt
 have h2:(2:Nat) ^ IntKind.u64.bits=18446744073709551616:=by decide
 exact a1w (by omega) (by omega)
theorem b8q {x b:Int} (k:Nat) (h0:0≤x) (hb0:0≤b) (hb:b<2 ^ k) (hx:x*2 ^ k+b<18446744073709551616):IntKind.wrap .u64 (BitVec.ofInt IntKind.u64.bits (x*2 ^ k) ||| BitVec.ofInt IntKind.u64.bits b).toNat=x*2 ^ k+b:=by
 obtain ⟨X,rfl⟩:=Int.eq_ofNat_of_zero_le h0
 obtain ⟨B,rfl⟩:=Int.eq_ofNat_of_zero_le hb0
 have e:((X:Int)*2 ^ k)=((X*2 ^ k:Nat):Int):=by push_cast;rfl
 have hB:B<2 ^ k:=by exact_mod_cast hb
 have hX:X*2 ^ k+B<2 ^ IntKind.u64.bits:=by
  have h2:(2:Nat) ^ IntKind.u64.bits=18446744073709551616:=by decide
  rw [h2]
  rw [e] at hx
  generalize X*2 ^ k=Y at hx
  omega
 have:=c7F IntKind.u64.bits X B k hB hX
 rw [e,b1Y,this]
 push_cast;rfl
theorem a7D {l:List Int} {n:Nat} {z:Int} (h:l[n]?=some z):num (l.take (n+1))=num (l.take n)*256+z:=by
 unfold num
 rw [d7o,h]
 simp [-bind_some]
theorem a5M {l:List Int} {d:D} (hd:SlOf 1 byr l d) (a b:Nat) (hab:a≤b) (hb:b≤l.length):∃ d',a0A tab a0N true true false [d,.int .i64 a,.int .i64 b]=some d'∧SlOf 1 byr ((l.take b).drop a) d':=by
 have t1:tab a0N=some ti22:=id rfl
 have t2:ti22.td = .sl ty5:=id rfl
 have t3:tab ty5=some ti5:=id rfl
 have t4:ti5.sz=1:=id rfl
 simp only [a0A,a3f,bs,a2k,t1,t2,t3]
 rcases hd with ⟨rfl,rfl⟩ | ⟨f,rfl⟩
 ·have:b=0:=by simpa using hb
  subst this
  have:a=0:=by omega
  subst this
  exact ⟨_,rfl,.inl ⟨rfl,rfl⟩⟩
 ·have h1:(a:Int)≤b:=by omega
  have h2:(b:Int)≤l.length:=by omega
  simp [-bind_some, t4,h1,h2,hb,hab]
  exact .inr ⟨_,by rw [List.map_drop,List.map_take]⟩
theorem a6D (q:Nat):¬ D.inOb .nils q:=fun hh=>by obtain ⟨z,n,hh⟩:=hh;cases hh
theorem a1V {h:Hp} {n0 e z:Nat} {rows:List (List D)} {d:D} (ow:Own h n0 e z rows d) {q:Nat} (hq:d.inOb q):h[q]?=some (.row e z rows):=by
 obtain ⟨z',n,rfl⟩:=hq
 rcases ow with ⟨hd,_⟩ | ⟨o,ho,hd,hg⟩
 ·cases hd
 ·injection hd with _ h2
  subst h2
  exact hg
theorem b8r {h:Hp} {n n' e e' z z':Nat} {rows rows':List (List D)} {d d':D} (a:Own h n e z rows d) (b:Own h n' e' z' rows' d') (hne:e≠e') {q:Nat} (hq:d.inOb q):¬ d'.inOb q:=fun hx=>by
 have h1:=a1V a hq
 have h2:=a1V b hx
 rw [h1] at h2
 injection h2 with h2
 injection h2 with h3
 exact hne h3
theorem d2d (v:Int) (n0:Nat):∀ (k:Nat),k≤8→∀ (h:Hp) (l:List Int) (d a:D),n0≤h.length→Own h n0 ty5 1 (l.map byr) d→l.length+k≤1000000000→∃ d' h' b,a0P (a7w (.int .u64 v)) [d,.int .i64 (8*((k:Int) - 1)),a] h=some (.ext 0,[d',b,.bool false],h')∧Bw n0 h d h' (l++a3B k v) d':=by
 intro k
 induction k with
 | zero =>
  intro _ h l d a hn ow hr
  rw [a2c]
  refine ⟨d,h,_,by simp [-bind_some, a7w];rfl,?_⟩
  simpa [-bind_some, a3B] using Bw.refl ow
 | succ k ih =>
  intro hk h l d a hn ow hr
  have hg:(0:Int)≤8*(((k+1:Nat):Int) - 1):=by omega
  have hw1:8*(((k+1:Nat):Int) - 1)=8*(k:Int):=by omega
  have hw2:IntKind.wrap .i64 (8*(k:Int) - 8)=8*((k:Int) - 1):=by rw [wrap_i64 (by omega) (by omega)];omega
  have h8:¬ (8*(k:Int))<0:=by omega
  have hmn:min (8*(k:Int)).toNat IntKind.u64.bits=8*k:=by
   have:IntKind.u64.bits=64:=rfl
   rw [this];omega
  obtain ⟨x',g,e1,B1⟩:=b5o (y := .sl 1 true [byr (IntKind.wrap .u8 (v.fdiv (2 ^ (8*k))))]) (m:=[IntKind.wrap .u8 (v.fdiv (2 ^ (8*k)))]) hn ow (a1d _ _ _ _) (by simp;omega)
  obtain ⟨d',h',b,e2,B2⟩:=ih (by omega) g _ x' (.bool true) (Nat.le_trans hn B1.len) B1.ow (by simp;omega)
  refine ⟨d',h',b,?_,?_⟩
  ·rw [a2c]
   rw [hw1] at hg ⊢
   simp only [a7w,a0g,a0q,bs,a3x,decide_eq_true hg,a0d,if_true,a4l,h8,if_false,hmn,b3I,b6z,show ∀ z,([[D.int .u8 z]]:List (List D))=[byr z] from fun _=>rfl,e1,a0D,hw2]
   exact e2
  ·have:=B1.trans B2
   simpa [-bind_some, a3B] using this
theorem b8R (v:Int) (k:Nat) (hk:k≤8) (n0:Nat) (h:Hp) (l:List Int) (d:D) (hn:n0≤h.length) (ow:Own h n0 ty5 1 (l.map byr) d) (hr:l.length≤999999000):∃ d' h',R a4D [d,.int .u64 v,.int .i64 k] h=some (d',h')∧Bw n0 h d h' (l++a3B k v) d':=by
 obtain ⟨d',h',b,e1,B⟩:=d2d v n0 k hk h l d .any hn ow (by omega)
 refine ⟨d',h',?_,B⟩
 rw [d0r]
 have hw:IntKind.wrap .i64 ((k:Int) - 1)=(k:Int) - 1:=by rw [wrap_i64 (by omega) (by omega)]
 have hw2:IntKind.wrap .i64 (8*((k:Int) - 1))=8*((k:Int) - 1):=by rw [wrap_i64 (by omega) (by omega)]
 simp only [c5D,bs,a0D,hw,a2D,hw2,d7c,e1,a0r,a0s,a0g,a0j]
theorem c8g (l:List Int) (d:D) (h:Hp) (hd:RdB h l d) (hl:l.length≤9223372036854775806) (hu:∀ z∈l,U8 z):R b4j [d] h=some (.int .u64 (a2t l),h):=by
 apply Wp.val
 rw [d0s]
 simp only [c5E,bs,d7c,a8n hd]
 refine Wp.loop (fun k ds g=>g=h∧∃ x y,∃ n:Nat,ds=[.int .u64 (a2t (l.take n)),x,.int .i64 n,y]∧k+n=l.length) (fun r=>r.1 = .ext 0∧r.2.2=h∧∃ a b c,r.2.1=[.int .u64 (a2t l),a,b,c]) l.length ⟨rfl,_,_,0,rfl,rfl⟩ ?_ ?_
 ·rintro k ds g ⟨rfl,x,y,n,rfl,hk⟩
  simp only [b3j,a0g,a0q,bs,d7c,a0n]
  refine Wp.dif ?_ ?_
  ·intro h0
   have h0:n<l.length:=dl_ h0
   obtain ⟨z,hz⟩:=gx_ h0
   have hzu:=hu z (d7q hz)
   obtain ⟨q,q1,q2⟩:=b8D hd n z hz
   have hr:=a3A (l.take n)
   have hw:=wi_ n (by omega)
   unfold U8 at hzu
   have w1:IntKind.wrap .u64 (a2t (l.take n)*31)=a2t (l.take n)*31:=a1w (by omega) (by omega)
   have w2:IntKind.wrap .u64 z=z:=a1w (by omega) (by omega)
   have w3:IntKind.wrap .u64 (a2t (l.take n)*31+z)=a2t (l.take n)*31+z:=a1w (by omega) (by omega)
   have w4:(a2t (l.take n)*31+z).tmod 4294967291=a2t (l.take (n+1)):=by
    rw [a7L hz,Int.tmod_eq_emod_of_nonneg (by omega)]
   simp only [a2D,w1,q1,q2,a6i,w2,a0t,w3,bs,a3j,show ¬ ((4294967291:Int)=0) by omega,if_false,w4,hw]
   exact .some (.inl ⟨rfl,k - 1,by omega,rfl,_,_,n+1,rfl,by omega⟩)
  ·intro h0
   have h0:n=l.length:=by
    have:¬ (n:Int)<l.length:=by simpa using h0
    omega
   subst h0
   rw [d7A]
   exact .some (.inr ⟨by simp,rfl,rfl,_,_,_,rfl⟩)
 ·rintro ⟨ex,ds,g⟩ ⟨rfl,q2,a,b,c,rfl⟩
  simp only at q2
  subst q2
  simp only [a0r,a0s,bs,a0g,a0j]
  exact .some rfl
structure WrS (n0 oi ow:Nat) (h0:Hp) (it:List D) (g:Hp) (l:List Int):Prop where
 hi:g[oi]?=some (.row a0L 11 [it])
 hw:∃ d,g[ow]?=some (.row a2y 1 [[d]])∧Own g n0 ty5 1 (l.map byr) d
 lo:∀ q,q<n0→g[q]?=h0[q]?
 ln:n0≤g.length
theorem ldw {g:Hp} {ow:Nat} {d:D} (h:g[ow]?=some (.row a2y 1 [[d]])):a0b tab g a0N (.ptr ow 0 (0+0))=some d:=by rw [b7T,a0I h];rfl
theorem WrS.put {n0 oi ow:Nat} {h0:Hp} {it:List D} {g g':Hp} {l l':List Int} {d d':D} (s:WrS n0 oi ow h0 it g l) (hn:n0≤ow) (hw:g[ow]?=some (.row a2y 1 [[d]])) (hb:Own g n0 ty5 1 (l.map byr) d) (B:Bw n0 g d g' l' d') {β:Type} {f:Hp→Option β} {Q:β→Prop}
  (k:∀ g2,WrS n0 oi ow h0 it g2 l'→Wp (f g2) Q):Wp ((a0h tab g' a0N (.ptr ow 0 (0+0)) d').bind f) Q:=by
 have hnd:∀ {q T z:Nat} {rows:List (List D)},g[q]?=some (.row T z rows)→T≠ty5→¬ d.inOb q:=fun hq hT hx=>by
  have:=a1V hb hx
  rw [hq] at this
  injection this with this
  injection this with h1
  exact hT h1
 have keep:∀ {q T z:Nat} {rows:List (List D)},g[q]?=some (.row T z rows)→T≠ty5→g'[q]?=some (.row T z rows):=fun hq hT=>by
  rw [B.old _ (d7s.1 hq).1 (hnd hq hT)];exact hq
 have hw':=keep hw (by decide)
 have hi':=keep s.hi (by decide)
 refine c1k hw' (by rfl) (by rcases B.ow with ⟨rfl,_⟩ | ⟨o,_,rfl,_⟩ <;> rfl) (by simp) (by rcases B.ow with ⟨rfl,_⟩ | ⟨o,_,rfl,_⟩ <;> rfl) fun g2 h2 s2=>?_
 have hne:oi≠ow:=fun hh=>by
  subst hh
  rw [s.hi] at hw
  injection hw with hw
  injection hw with h1
  exact absurd h1 (by decide)
 have hc:a0B d'=[d']:=by rcases B.ow with ⟨rfl,_⟩ | ⟨o,_,rfl,_⟩ <;> rfl
 have h2:g2[ow]?=some (.row a2y 1 [[d']]):=by rw [h2,hc];rfl
 refine k g2 ⟨by rw [s2.2 oi hne];exact hi',⟨d',h2,B.ow.keep fun q _ hx=>s2.2 q fun hh=>?_⟩,fun q hq=>?_,?_⟩
 ·subst hh
  have:=a1V B.ow hx
  rw [hw'] at this
  injection this with this
  injection this with h1
  exact absurd h1 (by decide)
 ·rw [s2.2 q (by omega),B.old q (by have:=s.ln;omega) (fun hx=>by have:=(hb.lt hx).1;omega)]
  exact s.lo q hq
 ·have:=s2.1;have:=B.len;have:=s.ln;omega
theorem b9k {n0 oi ow:Nat} {h0:Hp} {it:List D} {g:Hp} {l:List Int} (s:WrS n0 oi ow h0 it g l) (hn:n0≤ow) (hl:l.length≤999999000) (t:D) (n:Int) (ht:a0p tab t=some t) (hld:a0b tab g ty3 t=some (.int .i64 n)) {β:Type} {f:D × Hp→Option β} {Q:β→Prop}
  (k:∀ g2,WrS n0 oi ow h0 it g2 (l++pI n)→Wp (f (a0k [],g2)) Q):Wp ((R b7y [.ptr ow 0 0,t] g).bind f) Q:=by
 obtain ⟨d,hw,hb⟩:=s.hw
 obtain ⟨d',g1,e1,B⟩:=b8R (IntKind.wrap .u64 n) 8 (by omega) n0 g l d s.ln hb hl
 have e1:R a4D [d,.int .u64 (IntKind.wrap .u64 n),.int .i64 8] g=some (d',g1):=e1
 rw [d0A]
 simp only [c5M,bs,a0v,a6p,ldw hw,ht,hld,a2b,e1,d7c]
 refine s.put hn hw hb B fun g2 s2=>?_
 try simp only [bs]
 exact k g2 s2
theorem c8x {n0 oi ow:Nat} {h0:Hp} {it:List D} {g:Hp} {l:List Int} (s:WrS n0 oi ow h0 it g l) (hn:n0≤ow) (hl:l.length≤999999000) (n:Nat) {β:Type} {f:D × Hp→Option β} {Q:β→Prop}
  (k:∀ g2,WrS n0 oi ow h0 it g2 (l++pN n)→Wp (f (.int .i64 n,g2)) Q):Wp ((R b7x [.ptr ow 0 0,.int .i64 n] g).bind f) Q:=by
 obtain ⟨d,hw,hb⟩:=s.hw
 obtain ⟨d',g1,e1,B⟩:=b8R (IntKind.wrap .u64 n) 4 (by omega) n0 g l d s.ln hb hl
 have e1:R a4D [d,.int .u64 (IntKind.wrap .u64 n),.int .i64 4] g=some (d',g1):=e1
 rw [d0z]
 simp only [c5L,bs,a0v,a6p,ldw hw,a2b,e1,d7c]
 refine s.put hn hw hb B fun g2 s2=>?_
 simp only [bs,a0j]
 exact k g2 s2
theorem b6j {n0 oi ow:Nat} {h0:Hp} {it:List D} {g:Hp} {l:List Int} (s:WrS n0 oi ow h0 it g l) (hn:n0≤ow) (u:Str) (hl:l.length+u.length≤999998000) (t:D) (ht:a0p tab t=some t) (hld:∀ g':Hp,g'[oi]?=some (.row a0L 11 [it])→a0b tab g' ty9 t=some (.str u)) {β:Type} {f:D × Hp→Option β} {Q:β→Prop}
  (k:∀ g2,WrS n0 oi ow h0 it g2 (l++pS u)→Wp (f (a0k [],g2)) Q):Wp ((R b7z [.ptr ow 0 0,t] g).bind f) Q:=by
 obtain ⟨d,hw,hb⟩:=s.hw
 obtain ⟨d1,g1,e1,B1⟩:=b8R (IntKind.wrap .u64 u.length) 4 (by omega) n0 g l d s.ln hb (by omega)
 have e1:R a4D [d,.int .u64 (IntKind.wrap .u64 u.length),.int .i64 4] g=some (d1,g1):=e1
 obtain ⟨d2,g2,e2,B2⟩:=c6q (Nat.le_trans s.ln B1.len) B1.ow u (by simp only [d7h,a1b];omega)
 have hi1:g1[oi]?=some (.row a0L 11 [it]):=by
  rw [B1.old oi (d7s.1 s.hi).1 (fun hx=>by
   have:=a1V hb hx
   rw [s.hi] at this
   injection this with this
   injection this with h1
   exact absurd h1 (by decide))]
  exact s.hi
 have B:=B1.trans B2
 have hpS:l++a3B 4 (IntKind.wrap .u64 u.length)++sby u=l++pS u:=by simp [-bind_some, pS,pN]
 rw [hpS] at B
 rw [d0B]
 simp only [c5N,bs,a0v,a6p,ldw hw,ht,hld g s.hi,a4W,a2b,e1,hld g1 hi1,e2,d7c]
 refine s.put hn hw hb B fun g2 s2=>?_
 simp only [bs,a1H]
 exact k g2 s2
theorem nmN (d:D):a0p tab (.fn (.method "logtide/event.number") [.iface a5i d] [])=some (.fn (.method "logtide/event.number") [.iface a5i d] []):=by kernel_rfl
theorem nmT (d:D):a0p tab (.fn (.method "logtide/event.text") [.iface a5i d] [])=some (.fn (.method "logtide/event.text") [.iface a5i d] []):=by kernel_rfl
theorem nmC (d:D):a0p tab (.fn (.method "logtide/event.count") [.iface a5i d] [])=some (.fn (.method "logtide/event.count") [.iface a5i d] []):=by kernel_rfl
theorem a2O (cs:List D):a0p tab (.fptr cs)=some (.fptr cs):=id rfl
theorem itA {g:Hp} {oi:Nat} {i:It} (h:g[oi]?=some (.row a0L 11 [itr i])):a0b tab g ty9 (.ptr oi 0 (0+0))=some (.str i.r)∧a0b tab g ty3 (.ptr oi 0 (0+1+0))=some (.int .i64 i.e.a0)∧a0b tab g ty3 (.ptr oi 0 (0+1+1))=some (.int .i64 i.e.a1) ∧
  a0b tab g ty3 (.ptr oi 0 (0+1+2))=some (.int .i64 i.e.a2)∧a0b tab g ty3 (.ptr oi 0 (0+1+3))=some (.int .i64 i.e.a3)∧a0b tab g a1i (.ptr oi 0 (0+1+4))=some i.e.ld∧a0b tab g ty3 (.ptr oi 0 (0+1+5))=some (.int .i64 i.e.a5) ∧
  a0b tab g ty3 (.ptr oi 0 (0+1+6))=some (.int .i64 i.e.a6)∧a0b tab g ty9 (.ptr oi 0 (0+1+7))=some (.str i.e.s7)∧a0b tab g ty9 (.ptr oi 0 (0+1+8))=some (.str i.e.s8)∧a0b tab g a1e (.ptr oi 0 (0+1+9))=some i.e.fd:=by
 refine ⟨?_,?_,?_,?_,?_,?_,?_,?_,?_,?_,?_⟩
 ·rw [b2C,a0I h];rfl
 ·rw [a6R,a0I h];rfl
 ·rw [a6R,a0I h];rfl
 ·rw [a6R,a0I h];rfl
 ·rw [a6R,a0I h];rfl
 ·rw [b2B,a0I h];rfl
 ·rw [a6R,a0I h];rfl
 ·rw [a6R,a0I h];rfl
 ·rw [b2C,a0I h];rfl
 ·rw [b2C,a0I h];rfl
 ·rw [c0E,a0I h];rfl
def pl4 (oi:Nat):List (List D):=[[.ptr oi 0 (0+1+0)],[.ptr oi 0 (0+1+1)],[.ptr oi 0 (0+1+2)],[.ptr oi 0 (0+1+3)]]
def b0k (i:It):List Int:=[i.e.a0,i.e.a1,i.e.a2,i.e.a3]
theorem c3d {g:Hp} {oi:Nat} {i:It} (h:g[oi]?=some (.row a0L 11 [itr i])) (n:Nat) (hn:n<4):∃ t a,a0c tab a6G (.sl 1 true (pl4 oi)) (.int .i64 n)=some (.fptr [t])∧a0p tab t=some t∧a0b tab g ty3 t=some (.int .i64 a)∧(b0k i)[n]?=some a:=by
 obtain ⟨_,h0,h1,h2,h3,_⟩:=itA h
 have:n=0∨n=1∨n=2∨n=3:=by omega
 rcases this with rfl | rfl | rfl | rfl
 ·exact ⟨_,_,by rw [b1z];rfl,a0v _ _ _ _,h0,rfl⟩
 ·exact ⟨_,_,by rw [b1z];rfl,a0v _ _ _ _,h1,rfl⟩
 ·exact ⟨_,_,by rw [b1z];rfl,a0v _ _ _ _,h2,rfl⟩
 ·exact ⟨_,_,by rw [b1z];rfl,a0v _ _ _ _,h3,rfl⟩
theorem d3E (i:It) {n0 oi ow:Nat} {h0 g:Hp} {l:List Int} (s:WrS n0 oi ow h0 (itr i) g l) (hn:n0≤ow) (hl:l.length+(a1r i).length≤900000000) {β:Type} {f:D × Hp→Option β} {Q:β→Prop}
  (k:∀ g2,WrS n0 oi ow h0 (itr i) g2 (l++a1r i)→Wp (f (a0k [],g2)) Q):Wp ((R b1o [.iface a5i (.ptr ow 0 0),.ptr oi 0 0] g).bind f) Q:=by
 have hbb:=hl
 simp only [a1r,a4k,a3o,d7h,a1k,a1G,a1z] at hbb
 have hll:=i.e.hll
 have hlf:=i.e.hl
 rw [c6L]
 simp only [c2y,bs,d7c,a0v,b0h,a3H,nmT,nmN,nmC,a3O,a2J,a4o,b0d,a7T,a4m,a3R]
 refine b6j s hn i.r (by omega) _ (a0v _ _ _ _) (fun g' h=>(itA h).1) fun g1 s1=>?_
 simp only [bs,b3C (.ptr oi 0 (0+1+0)) (.ptr oi 0 (0+1+1)) (.ptr oi 0 (0+1+2)) (.ptr oi 0 (0+1+3)) rfl rfl rfl rfl,show ([[.ptr oi 0 (0+1+0)],[.ptr oi 0 (0+1+1)],[.ptr oi 0 (0+1+2)],[.ptr oi 0 (0+1+3)]]:List (List D))=pl4 oi from rfl,b7U,show (pl4 oi).length=4 from rfl]
 refine Wp.loop (fun kk ds g'=>∃ a b,∃ n:Nat,ds=[a,.int .i64 n,b]∧kk+n=4∧WrS n0 oi ow h0 (itr i) g' (l++pS i.r++(((b0k i).take n).map pI).flatten))
  (fun r=>r.1 = .ext 0∧(∃ a b c,r.2.1=[a,b,c])∧WrS n0 oi ow h0 (itr i) r.2.2 (l++pS i.r++((b0k i).map pI).flatten)) 4 ⟨_,_,0,rfl,rfl,by simpa using s1⟩ ?_ ?_
 ·rintro kk ds g' ⟨a,b,n,rfl,hk,s'⟩
  simp only [a9G,a0g,a0q,bs,d7c,a0n]
  refine Wp.dif ?_ ?_
  ·intro h1
   have h1:n<4:=by
    have:(n:Int)<((4:Nat):Int):=by simpa using h1
    omega
   obtain ⟨t,v,q1,q2,q3,q4⟩:=c3d s'.hi n h1
   have hw:=wi_ n (by omega)
   have hle:=a5P pI (b0k i) n
   have hl32:((b0k i).map pI).flatten.length=32:=by simp only [b0k,d7k,List.map_nil,List.flatten_cons,List.flatten_nil,d7h,a1k,d7u]
   simp only [q1,b1B,bs,a2J]
   refine b9k s' hn (by simp only [d7h,a1z];omega) t v q2 q3 fun g2 s2=>?_
   simp only [bs,a0t,hw]
   refine .some (.inl ⟨rfl,kk - 1,by omega,_,_,n+1,rfl,by omega,?_⟩)
   rw [a1y pI q4]
   simpa using s2
  ·intro h1
   have h1:n=4:=by
    have:¬ (n:Int)<((4:Nat):Int):=by simpa using h1
    omega
   subst h1
   exact .some (.inr ⟨by simp,rfl,⟨_,_,_,rfl⟩,s'⟩)
 rintro ⟨ex,ds,g2⟩ ⟨rfl,⟨a,b,c,rfl⟩,s2⟩
 have s2:WrS n0 oi ow h0 (itr i) g2 (l++pS i.r++((b0k i).map pI).flatten):=s2
 have h4:((b0k i).map pI).flatten=pI i.e.a0++pI i.e.a1++pI i.e.a2++pI i.e.a3:=by simp [-bind_some, b0k]
 rw [h4] at s2
 simp only [a0r,a0s,bs,d7c,a0v,a3p,(itA s2.hi).2.2.2.2.2.1,a2P i.e.hld,nmC,a4o]
 refine c8x s2 hn (by simp only [d7h,a1k,a1z];omega) i.e.ls.length fun g3 s3=>?_
 have hA:l++pS i.r++(pI i.e.a0++pI i.e.a1++pI i.e.a2++pI i.e.a3)++pN i.e.ls.length=l++a3o i:=by simp [-bind_some, a3o]
 rw [hA] at s3
 have hAl:(a3o i).length=4+i.r.length+36:=by simp only [a3o,d7h,a1z,a1k,a1G]
 simp only [bs]
 refine Wp.loop (fun kk ds g'=>∃ a b c d,∃ n:Nat,ds=[a,b,.int .i64 n,c,d]∧kk+n=i.e.ls.length∧WrS n0 oi ow h0 (itr i) g' (l++a3o i++((i.e.ls.take n).map lnB).flatten))
  (fun r=>r.1 = .ext 2∧(∃ a b c d e,r.2.1=[a,b,c,d,e])∧WrS n0 oi ow h0 (itr i) r.2.2 (l++a3o i++(i.e.ls.map lnB).flatten)) i.e.ls.length ⟨_,_,_,_,0,rfl,rfl,by simpa using s3⟩ ?_ ?_
 ·rintro kk ds g' ⟨a,b,c,d,n,rfl,hk,s'⟩
  simp only [a7u,a0g,a0q,bs,d7c,a0n]
  refine Wp.dif ?_ ?_
  ·intro h1
   have h1:n<i.e.ls.length:=dl_ h1
   obtain ⟨x,hx⟩:=gx_ h1
   have hw:=wi_ n (by omega)
   have hix:a0c tab a1i i.e.ld (.int .i64 (n:Int))=some (.fptr (a1p x)):=by rw [a8e i.e.hld];simp [-bind_some, hx]
   have hle:=a5P lnB i.e.ls (n+1)
   rw [a1y lnB hx,d7h] at hle
   have hln:(lnB x).length=20+x.txt.length:=by simp only [lnB,d7h,a1k,a1z];omega
   have hne:¬ (n:Int)=(i.e.ls.length:Int):=by omega
   simp only [a0v,a3p,bs,(itA s'.hi).2.2.2.2.2.1,a2P i.e.hld,a0Q,hne,decide_false,a0d,d7d,if_false,a0s,hix,a2O,lF0,lF1,lF2,nmN,nmT,a2J,a3O]
   refine b9k s' hn (by simp only [d7h];omega) _ x.off (a2O _) (lL0 x g') fun g4 s4=>?_
   simp only [bs]
   refine b9k s4 hn (by simp only [d7h,a1k];omega) _ x.len (a2O _) (ld3 _ _ _) fun g5 s5=>?_
   simp only [bs]
   refine b6j s5 hn x.txt (by simp only [d7h,a1k];omega) _ (a2O _) (fun g' _=>ld9 _ _ _) fun g6 s6=>?_
   simp only [bs,a0t,hw]
   refine .some (.inl ⟨rfl,kk - 1,by omega,_,_,_,_,n+1,rfl,by omega,?_⟩)
   rw [a1y lnB hx]
   simpa [-bind_some, lnB] using s6
  ·intro h1
   have h1:n=i.e.ls.length:=by
    have:¬ (n:Int)<i.e.ls.length:=by simpa using h1
    omega
   subst h1
   rw [d7A] at s'
   exact .some (.inr ⟨by simp,rfl,⟨_,_,_,_,_,rfl⟩,s'⟩)
 rintro ⟨ex,ds,g4⟩ ⟨rfl,⟨a,b,c,d,e,rfl⟩,s4⟩
 have s4:WrS n0 oi ow h0 (itr i) g4 (l++a3o i++(i.e.ls.map lnB).flatten):=s4
 simp only [a0r,a0s,bs,d7c,a0v,b0e,b0f,b0g,b2o,a5O,nmN,nmT,nmC,a2J,a3O,a4o]
 refine b9k s4 hn (by simp only [d7h];omega) _ i.e.a5 (a0v _ _ _ _) (itA s4.hi).2.2.2.2.2.2.1 fun g5 s5=>?_
 simp only [bs]
 refine b9k s5 hn (by simp only [d7h,a1k];omega) _ i.e.a6 (a0v _ _ _ _) (itA s5.hi).2.2.2.2.2.2.2.1 fun g6 s6=>?_
 simp only [bs]
 refine b6j s6 hn i.e.s7 (by simp only [d7h,a1k];omega) _ (a0v _ _ _ _) (fun g' h=>(itA h).2.2.2.2.2.2.2.2.1) fun g7 s7'=>?_
 simp only [bs]
 refine b6j s7' hn i.e.s8 (by simp only [d7h,a1k,a1z];omega) _ (a0v _ _ _ _) (fun g' h=>(itA h).2.2.2.2.2.2.2.2.2.1) fun g8 s8'=>?_
 simp only [bs,(itA s8'.hi).2.2.2.2.2.2.2.2.2.2,a2w i.e.hfd]
 refine c8x s8' hn (by simp only [d7h,a1k,a1z];omega) i.e.fs.length fun g9 s9=>?_
 have hB:l++a3o i++(i.e.ls.map lnB).flatten++pI i.e.a5++pI i.e.a6++pS i.e.s7++pS i.e.s8++pN i.e.fs.length=l++a4k i:=by simp [-bind_some, a4k]
 rw [hB] at s9
 have hBl:(a4k i).length=(a3o i).length+(i.e.ls.map lnB).flatten.length+16+(4+i.e.s7.length)+(4+i.e.s8.length)+4:=by simp only [a4k,d7h,a1k,a1z,a1G]
 simp only [bs]
 refine Wp.loop (fun kk ds g'=>∃ a b c,∃ n:Nat,ds=[a,.int .i64 n,b,c]∧kk+n=i.e.fs.length∧WrS n0 oi ow h0 (itr i) g' (l++a4k i++((i.e.fs.take n).map fdB).flatten))
  (fun r=>r.1 = .ext 4∧(∃ a b c d,r.2.1=[a,b,c,d])∧WrS n0 oi ow h0 (itr i) r.2.2 (l++a1r i)) i.e.fs.length ⟨_,_,_,0,rfl,rfl,by simpa using s9⟩ ?_ ?_
 ·rintro kk ds g' ⟨a,b,c,n,rfl,hk,s'⟩
  simp only [a7v,a0g,a0q,bs,d7c,a0n]
  refine Wp.dif ?_ ?_
  ·intro h1
   have h1:n<i.e.fs.length:=dl_ h1
   obtain ⟨x,hx⟩:=gx_ h1
   have hw:=wi_ n (by omega)
   have hix:a0c tab a1e i.e.fd (.int .i64 (n:Int))=some (.fptr (fld x)):=by rw [a8K i.e.hfd];simp [-bind_some, hx]
   have hle:=a5P fdB i.e.fs (n+1)
   rw [a1y fdB hx,d7h] at hle
   have hln:(fdB x).length=8+x.1.length+x.2.length:=by simp only [fdB,d7h,a1z];omega
   have hne:¬ (n:Int)=(i.e.fs.length:Int):=by omega
   simp only [a0v,a5O,bs,(itA s'.hi).2.2.2.2.2.2.2.2.2.2,a2w i.e.hfd,a0Q,hne,decide_false,a0d,d7d,if_false,a0s,hix,a2O,fF0,nmN,nmT,a2J,a3O]
   refine b6j s' hn x.1 (by simp only [d7h];omega) _ (a2O _) (fun g' _=>fL0 x g') fun g4 s4=>?_
   simp only [bs,(itA s4.hi).2.2.2.2.2.2.2.2.2.2,hix,fF1]
   refine b6j s4 hn x.2 (by simp only [d7h,a1z];omega) _ (a2O _) (fun g' _=>ld9 _ _ _) fun g6 s6=>?_
   simp only [bs,a0t,hw]
   refine .some (.inl ⟨rfl,kk - 1,by omega,_,_,_,n+1,rfl,by omega,?_⟩)
   rw [a1y fdB hx]
   simpa [-bind_some, fdB] using s6
  ·intro h1
   have h1:n=i.e.fs.length:=by
    have:¬ (n:Int)<i.e.fs.length:=by simpa using h1
    omega
   subst h1
   rw [d7A] at s'
   exact .some (.inr ⟨by simp,rfl,⟨_,_,_,_,rfl⟩,by simpa [-bind_some, a1r] using s'⟩)
 rintro ⟨ex,ds,gz⟩ ⟨rfl,⟨a,b,c,d,rfl⟩,sz⟩
 simp only [a0r,a2S,bs,d7c]
 exact k gz sz
theorem c7x (g:Hp):b5q tab g a0N (.int .i64 4) (.int .i64 4)=some (.msl 1 g.length 0 4,a0H g ty5 1 ([0,0,0,0].map byr)):=by
 have h1:tab a0N=some ti22:=id rfl
 have h2:ti22.td = .sl ty5:=id rfl
 have h3:tab ty5=some ti5:=id rfl
 have h4:ti5.sz=1:=id rfl
 have h5:ti5.zero=byr 0:=id rfl
 have h6:lim 4 ti5.by_=true:=a6A (by have:ti5.by_=1:=rfl;rw [this];omega) (by omega)
 have h7:(4:Int).toNat=4:=rfl
 simp only [b5q,h1,h2,h3,h4,h5,h7,h6,show (0:Int)≤4∧(4:Int)≤4∧true=true∧0<1 from ⟨by omega,by omega,rfl,by omega⟩,if_true]
 rfl
theorem d4c {g:Hp} {o:Nat} {p m r:List Int} {y:D} (ho:g[o]?=some (.row ty5 1 ((p++r).map byr))) (hy:a1R g 1 y=some (m.map byr)) (hl:m.length=p.length):∃ g',a7Q tab g a0N a0N (.msl 1 o 0 (p++r).length) y=some (.int .i64 m.length,g')∧g'[o]?=some (.row ty5 1 ((m++r).map byr))∧Same o g g':=by
 have h1:tab a0N=some ti22:=id rfl
 have h2:ti22.td = .sl ty5:=id rfl
 have h3:tab ty5=some ti5:=id rfl
 have h4:ti5.sz=1:=id rfl
 have hs:b5r g ti22 ti5 y=some (m.map byr):=by simp only [b5r,h2,h4,hy]
 have hn:b4P ti22=true:=rfl
 have hb:Nat.blt 0 1=true:=rfl
 have holt:=(d7s.1 ho).1
 have hmin:min (m.map byr).length (p++r).length=m.length:=by simp;omega
 refine ⟨g.set o (.row ty5 1 (((p++r).map byr).take 0++(m.map byr).take (p++r).length++((p++r).map byr).drop (0+m.length))),?a1,?a2,?a3⟩
 case a1=>simp only [a7Q,h1,h2,hn,h3,h4,hb,hs,ho,and_self,if_true,hmin]
 case a2 =>
  rw [List.getElem?_set_self holt]
  have e1:(m.map byr).take (p++r).length=m.map byr:=List.take_of_length_le (by simp;omega)
  rw [e1,List.take_zero,List.nil_append,Nat.zero_add,hl,d7j,List.drop_left' (by simp),d7j]
 case a3=>exact ⟨by simp,fun q hq=>d7C (Ne.symm hq)⟩
theorem d2W (i:It) (c:Int) (h:Hp) (hc:∀ g,R a5E [.agg (itr i)] g=some (.int .i64 c,g)) (hb:(a1r i).length≤800000000):∃ d',R b4i [.agg (itr i)] h=some (.tup [d',.int .i64 c],h)∧SlOf 1 byr (if c=0 then a2N i else []) d':=by
 suffices Wp (R b4i [.agg (itr i)] h) (fun p=>p.2=h∧∃ d',p.1 = .tup [d',.int .i64 c]∧SlOf 1 byr (if c=0 then a2N i else []) d') by
  obtain ⟨⟨x,h'⟩,h1,rfl,d',rfl,h2⟩:=this
  exact ⟨d',h1,h2⟩
 have hi0:(a0H h a0L 11 [itr i])[h.length]?=some (.row a0L 11 [itr i]):=a1a _ _ _ _
 have ld0:a0b tab (a0H h a0L 11 [itr i]) a0L (.ptr h.length 0 0)=some (.agg (itr i)):=by rw [a8g,a0I hi0];rfl
 have hl0:(a0H h a0L 11 [itr i]).length=h.length+1:=by simp [-bind_some, a0H]
 rw [d0o]
 simp only [c5A,a3b a0L 11 h (itr i) rfl (by omega),bs,d7c,ld0,hc,a0w]
 refine Wp.dif ?_ ?_
 ·intro h0
  have h0:¬ c=0:=by simpa using h0
  simp only [bs,a1c]
  rw [a1n (d' := .tup [.nils,.int .i64 c]) (by simp) (.tup _ fun d hd=>by simp at hd;rcases hd with rfl | rfl <;> constructor) (by omega) fun q hq=>a0W _ _ _ _ hq]
  exact .some ⟨rfl,_,rfl,by rw [if_neg h0];exact .nils _ _⟩
 ·intro h0
  have h0:c=0:=by simpa using h0
  subst h0
  generalize hg0:a0H h a0L 11 [itr i]=g0 at *
  have hl1:(a0H g0 ty5 1 ([0,0,0,0].map byr)).length=h.length+2:=by simp [-bind_some, a0H,hl0]
  have hb1:(a0H g0 ty5 1 ([0,0,0,0].map byr))[h.length+1]?=some (.row ty5 1 ([0,0,0,0].map byr)):=by rw [← hl0];exact a1a _ _ _ _
  have hi1:(a0H g0 ty5 1 ([0,0,0,0].map byr))[h.length]?=some (.row a0L 11 [itr i]):=by rw [a0W _ _ _ _ (by omega)];exact hi0
  have hq1:∀ q,q<h.length→(a0H g0 ty5 1 ([0,0,0,0].map byr))[q]?=h[q]?:=fun q hq=>by rw [a0W _ _ _ _ (by omega),← hg0,a0W _ _ _ _ hq]
  simp only [c7x,bs,hl0]
  generalize a0H g0 ty5 1 ([0,0,0,0].map byr)=g1 at *
  simp only [b9C (.msl 1 (h.length+1) 0 4) rfl,bs,a3b a2y 1 g1 [.msl 1 (h.length+1) 0 4] rfl (by omega),hl1]
  have hw2:(a0H g1 a2y 1 [[.msl 1 (h.length+1) 0 4]])[h.length+2]?=some (.row a2y 1 [[.msl 1 (h.length+1) 0 4]]):=by rw [← hl1];exact a1a _ _ _ _
  have S0:WrS h.length h.length (h.length+2) h (itr i) (a0H g1 a2y 1 [[.msl 1 (h.length+1) 0 4]]) [0,0,0,0] :=
   ⟨by rw [a0W _ _ _ _ (by omega)];exact hi1,⟨_,hw2,.inr ⟨h.length+1,by omega,rfl,by rw [a0W _ _ _ _ (by omega)];exact hb1⟩⟩,fun q hq=>by rw [a0W _ _ _ _ (by omega)];exact hq1 q hq,by simp [-bind_some, a0H];omega⟩
  refine d3E i S0 (by omega) (by simp;omega) fun g2 S=>?_
  obtain ⟨d,hw,ho⟩:=S.hw
  have ldd:=ldw hw
  have hlen:([0,0,0,0]++a1r i:List Int).length=(a1r i).length+4:=by simp
  obtain ⟨P,hP⟩:∃ P,P=a3B 4 (IntKind.wrap .u64 (((a1r i).length:Int)+4)):=⟨_,rfl⟩
  have hPl:P.length=([0,0,0,0]:List Int).length:=by rw [hP,a1b];rfl
  have hH:P++a1r i=a5y i:=by rw [hP];rfl
  have rb:=RdB.own ho
  have hli:(([0,0,0,0]++a1r i:List Int).length:Int)=((a1r i).length:Int)+4:=by rw [hlen];omega
  obtain ⟨dp,g3,e3,B3⟩:=b8R (IntKind.wrap .u64 (((a1r i).length:Int)+4)) 4 (by omega) g2.length g2 [] .nils (Nat.le_refl _) (Own.nils _ _ _ _) (by simp)
  rw [List.nil_append,← hP] at B3
  have e3:R a4D [.nils,.int .u64 (IntKind.wrap .u64 (((a1r i).length:Int)+4)),.int .i64 4] g2=some (dp,g3):=e3
  simp only [bs,a0v,a6p,ldd,a8n rb,hli,a2b]
  refine Wp.step e3 ?_
  have old3:∀ q,q<g2.length→g3[q]?=g2[q]?:=fun q hq=>B3.old q hq (a6D q)
  have hw3:g3[h.length+2]?=some (.row a2y 1 [[d]]):=by rw [old3 _ (d7s.1 hw).1];exact hw
  have ldd3:=ldw hw3
  have ho3:Own g3 h.length ty5 1 (([0,0,0,0]++a1r i:List Int).map byr) d:=ho.keep fun q _ hx=>old3 q (ho.lt hx).2
  obtain ⟨o,hon,hdo,hob⟩:=a8m ho3 (i:=0) (by simp)
  rw [d7i] at hdo
  obtain ⟨g4,e4,ho4,s4⟩:=d4c hob (a4u (RdB.own B3.ow)) hPl
  rw [← hdo] at e4
  have hne:h.length+2≠o:=fun hh=>by
   rw [hh,hob] at hw3
   injection hw3 with hw3
   injection hw3 with h1
   exact absurd h1 (by decide)
  have hw4:g4[h.length+2]?=some (.row a2y 1 [[d]]):=by rw [s4.2 _ hne];exact hw3
  have ldd4:=ldw hw4
  have ho4':g4[o]?=some (.row ty5 1 ((a5y i).map byr)):=by rw [← hH];exact ho4
  have hHl:(a5y i).length=4+(a1r i).length:=by simp only [a5y,d7h,a1b]
  have own4:Own g4 h.length ty5 1 ((a5y i).map byr) d := .inr ⟨o,hon,by rw [hdo,hlen,d7i,hHl,Nat.add_comm],ho4'⟩
  have hn4:h.length≤g4.length:=by have:=s4.1;have:=B3.len;have:=S.ln;omega
  have e5:=c8g (a5y i) _ g4 (RdB.own own4) (by omega) (b2n i)
  obtain ⟨d5,g5,e6,B5⟩:=b8R (a2t (a5y i)) 4 (by omega) h.length g4 (a5y i) _ hn4 own4 (by omega)
  have e6:R a4D [d,.int .u64 (a2t (a5y i)),.int .i64 4] g4=some (d5,g5):=e6
  simp only [bs,e4,ldd3,ldd4,e5,e6,a1H,a1c]
  have hE:a5y i++a3B 4 (a2t (a5y i))=a2N i:=rfl
  rw [hE] at B5
  have hsl:=a2g (n0:=h.length) (n:=2) B5.ow (Nat.le_refl _) (fun a _=>a5L _ g5 2 a)
  have hlow:∀ q,q<h.length→g5[q]?=h[q]?:=fun q hq=>by
   rw [B5.old q (by omega) (fun hx=>by have:=(own4.lt hx).1;omega),s4.2 q (by omega),old3 q (by have:=S.ln;omega)]
   exact S.lo q hq
  rw [a1n (d' := .tup [frz h.length g5 3 d5,.int .i64 0]) (by simp) (by
   refine .tup _ fun d hd=>?_
   simp at hd
   rcases hd with rfl | rfl
   ·exact a1K hsl fun a _=>a7K _ a
   ·constructor) (Nat.le_trans hn4 B5.len) hlow]
  exact .some ⟨rfl,_,rfl,by simpa using hsl⟩
def bys (l:List Int):Str:=l.map fun z=>UInt8.ofNat z.toNat
theorem c2E (s:Str):bys (sby s)=s:=by
 unfold bys sby
 rw [List.map_map]
 conv=>rhs;rw [← List.map_id s]
 apply List.map_congr_left
 intro c _
 simp [-bind_some]
theorem a7P:∀ (l:List Int),a5B (l.map byr)=some (bys l)
 | []=>rfl
 | z::l=>by
  simp only [d7k,byr,a5B]
  rw [a7P l]
  rfl
theorem a5u {h:Hp} {l:List Int} {d:D} (hd:SlOf 1 byr l d):a3E h d=some (.str (bys l)):=by
 simp only [a3E,a4u (h:=h) (.inl hd),a7P]
theorem a2n:∀ (n:Nat) (l:List Int),l.length=n→(∀ z∈l,U8 z)→0≤num l∧num l<256 ^ n
 | 0,l,h,_=>by
  have:l=[]:=List.length_eq_zero_iff.1 h
  subst this
  simp [-bind_some, num]
 | n+1,l,h,hu=>by
  have hz:l[n]?=some l[n]:=d7r (by omega)
  have h1:=a7D hz
  rw [List.take_of_length_le (by omega)] at h1
  have h2:=a2n n (l.take n) (by simp;omega) fun z hz=>hu z (List.mem_of_mem_take hz)
  have h3:=hu l[n] (List.getElem_mem _)
  unfold U8 at h3
  rw [h1,Int.pow_succ]
  omega
theorem c0Y (l:List Int) (d:D) (h:Hp) (hd:SlOf 1 byr l d) (hl:l.length≤8) (hu:∀ z∈l,U8 z):R a7h [d] h=some (.int .u64 (num l),h):=by
 apply Wp.val
 rw [d0t]
 simp only [c5F,bs,d7c,a1Z hd]
 refine Wp.loop (fun k ds g=>g=h∧∃ x y,∃ n:Nat,ds=[.int .u64 (num (l.take n)),x,.int .i64 n,y]∧k+n=l.length) (fun r=>r.1 = .ext 0∧r.2.2=h∧∃ a b c,r.2.1=[.int .u64 (num l),a,b,c]) l.length ⟨rfl,_,_,0,rfl,rfl⟩ ?_ ?_
 ·rintro k ds g ⟨rfl,x,y,n,rfl,hk⟩
  simp only [b3k,a0g,a0q,bs,d7c,a0n]
  refine Wp.dif ?_ ?_
  ·intro h0
   have h0:n<l.length:=dl_ h0
   obtain ⟨z,hz⟩:=gx_ h0
   have hzu:=hu z (d7q hz)
   have hw:=wi_ n (by omega)
   unfold U8 at hzu
   obtain ⟨hn0,hn1⟩:=a2n n (l.take n) (by simp;omega) fun z hz=>hu z (List.mem_of_mem_take hz)
   have hb:num (l.take n)<72057594037927936:=by
    have:n=0∨n=1∨n=2∨n=3∨n=4∨n=5∨n=6∨n=7:=by omega
    rcases this with rfl | rfl | rfl | rfl | rfl | rfl | rfl | rfl <;> omega
   have m3:min ((8:Int).toNat) IntKind.u64.bits=8:=by decide
   have p3:(2:Int) ^ 8=256:=by decide
   have w1:IntKind.wrap .u64 (num (l.take n)*2 ^ 8)=num (l.take n)*2 ^ 8:=by rw [p3];exact a1w (by omega) (by omega)
   have w2:IntKind.wrap .u64 z=z:=a1w (by omega) (by omega)
   have w3:=b8q (x:=num (l.take n)) (b:=z) 8 hn0 (by omega) (by rw [p3];omega) (by rw [p3];omega)
   have hii:a0c tab a0N d (.int .i64 (n:Int))=some (.fptr (byr z)):=by rw [c0A hd];simp [-bind_some, hz]
   rw [p3,← a7D hz] at w3
   rw [p3] at w1
   simp only [hii,b3D,bs,a9U,show ¬ (8:Int)<0 by omega,if_false,m3,p3,w1,a6i,w2,b2h,w3,a0t,hw]
   exact .some (.inl ⟨rfl,k - 1,by omega,rfl,_,_,n+1,rfl,by omega⟩)
  ·intro h0
   have h0:n=l.length:=by
    have:¬ (n:Int)<l.length:=by simpa using h0
    omega
   subst h0
   rw [d7A]
   exact .some (.inr ⟨by simp,rfl,rfl,_,_,_,rfl⟩)
 ·rintro ⟨ex,ds,g⟩ ⟨rfl,q2,a,b,c,rfl⟩
  simp only at q2
  subst q2
  simp only [a0r,a0s,bs,a0g,a0j]
  exact .some rfl
abbrev Cur:=List Int × Bool
def a0G (s:Cur) (n:Int):List Int × Cur:=if s.2=true∨n<0∨(s.1.length:Int)<n then ([],(s.1,true)) else (s.1.take n.toNat,(s.1.drop n.toNat,false))
def a0R (s:Cur):Int × Cur:=(IntKind.wrap .i64 (num (a0G s 8).1),(a0G s 8).2)
def a1D (s:Cur):Int × Cur:=(IntKind.wrap .i64 (num (a0G s 4).1),(a0G s 4).2)
def a0S (s:Cur):Option Str × Cur:=if (a0G (a1D s).2 (a1D s).1).2.2=true then (none,(a0G (a1D s).2 (a1D s).1).2) else (some (bys (a0G (a1D s).2 (a1D s).1).1),(a0G (a1D s).2 (a1D s).1).2)
def a0U (s:Cur):Int × Cur:=if (a1D s).2.2=true∨((a1D s).2.1.length:Int).tdiv 8<(a1D s).1 then (0,((a1D s).2.1,true)) else a1D s
def CuO (g:Hp) (oc:Nat) (s:Cur):Prop:=∃ d,g[oc]?=some (.row a2a 2 [[d,.bool s.2]])∧SlOf 1 byr s.1 d∧(∀ z∈s.1,U8 z)∧s.1.length≤1000000000
theorem b9T {g:Hp} {oc:Nat} {d:D} {b:Bool} (h:g[oc]?=some (.row a2a 2 [[d,.bool b]])):a0b tab g a0N (.ptr oc 0 (0+0))=some d∧a0b tab g ty4 (.ptr oc 0 (0+1))=some (.bool b):=⟨by rw [b7T,a0I h];rfl,by rw [d2i,a0I h];rfl⟩
theorem a4x {s:Cur} (hu:∀ z∈s.1,U8 z) (n:Int):(∀ z∈(a0G s n).1,U8 z)∧(∀ z∈(a0G s n).2.1,U8 z)∧(a0G s n).2.1.length≤s.1.length:=by
 unfold a0G
 split
 ·exact ⟨by simp,hu,Nat.le_refl _⟩
 ·exact ⟨fun z hz=>hu z (List.mem_of_mem_take hz),fun z hz=>hu z (List.mem_of_mem_drop hz),by simp⟩
theorem a3K (s:Cur) (n:Nat):(a0G s n).1.length≤n:=by
 unfold a0G
 split
 ·simp [-bind_some]
 ·simp [-bind_some];omega
theorem c2G {g:Hp} {oc:Nat} {s:Cur} (hc:CuO g oc s) (n:Int):∃ d g',R a6y [.ptr oc 0 0,.int .i64 n] g=some (d,g')∧SlOf 1 byr (a0G s n).1 d∧CuO g' oc (a0G s n).2∧Same oc g g':=by
 suffices Wp (R a6y [.ptr oc 0 0,.int .i64 n] g) (fun p=>SlOf 1 byr (a0G s n).1 p.1∧CuO p.2 oc (a0G s n).2∧Same oc g p.2) by
  obtain ⟨⟨x,h'⟩,h1,h2⟩:=this
  exact ⟨x,h',h1,h2⟩
 obtain ⟨d,ho,hd,hu,hl⟩:=hc
 obtain ⟨l1,l2⟩:=b9T ho
 obtain ⟨b,bad⟩:=s
 simp only at ho hd hu hl l2
 rw [d0F]
 have bad1:∀ {β:Type} (F:Hp→Option β) (Q:β→Prop),(∀ g',SlOf 1 byr ([]:List Int) .nils→CuO g' oc (b,true)→Same oc g g'→Wp (F g') Q)→Wp ((a0h tab g ty4 (.ptr oc 0 (0+1)) (.bool true)).bind F) Q:=fun F Q k=>by
  refine c8V ho (by rfl) (by rfl) (by simp) (by rfl) fun g' h' s'=>?_
  exact k g' (.nils _ _) ⟨d,h',hd,hu,hl⟩ s'
 simp only [c5R,bs,a0v,a2I,a6q,l1,l2,a1Z hd,a0o,d7c]
 by_cases hb:bad=true
 ·subst hb
  have ht:a0G (b,true) n=([],(b,true)):=by simp [-bind_some, a0G]
  rw [ht]
  simp only [reduceCtorEq,d7e,if_false,bs,a0e,if_true,a0d,a0o]
  refine bad1 _ _ fun g' h1 h2 h3=>?_
  simp only [bs,a0j]
  exact .some ⟨h1,h2,h3⟩
 ·have hb:bad=false:=by simpa using hb
  subst hb
  by_cases hn:n<0
  ·have ht:a0G (b,false) n=([],(b,true)):=by simp [-bind_some, a0G,hn]
   rw [ht]
   simp only [a0o,a0v,a2I,l1,a1Z hd,d7c,if_true,bs,a0n,hn,decide_true,reduceCtorEq,d7e,d7d,if_false,a0e,a0d]
   refine bad1 _ _ fun g' h1 h2 h3=>?_
   simp only [bs,a0j]
   exact .some ⟨h1,h2,h3⟩
  ·by_cases hgt:n>(b.length:Int)
   ·have ht:a0G (b,false) n=([],(b,true)):=by simp [-bind_some, a0G,hn,hgt]
    rw [ht]
    simp only [a0o,a0v,a2I,l1,a1Z hd,d7c,if_true,bs,a0n,hn,decide_false,a0u,hgt,decide_true,reduceCtorEq,d7e,d7d,if_false,a0e,a0d]
    refine bad1 _ _ fun g' h1 h2 h3=>?_
    simp only [bs,a0j]
    exact .some ⟨h1,h2,h3⟩
   ·have ht:a0G (b,false) n=(b.take n.toNat,(b.drop n.toNat,false)):=by
      unfold a0G
      rw [if_neg (by simp only [d7d,false_or];omega)]
    rw [ht]
    obtain ⟨d1,e1,s1⟩:=a8M hd (k := .i64) (n:=n) (by omega) (by omega)
    obtain ⟨d2,e2,s2⟩:=c1d hd (k := .i64) (n:=n) (by omega) (by omega)
    simp only [a0o,a0v,a2I,l1,a1Z hd,d7c,if_true,bs,a0n,hn,decide_false,a0u,hgt,reduceCtorEq,d7e,d7d,if_false,a0e,a0d,e1,e2]
    have hcl:a0B d2=[d2]:=(a0z (a1v s2)).1
    refine c1k ho (kk:=0) (row:=[d,.bool false]) (by rfl) (by rw [hcl];rfl) (by simp) (a0z (a1v s2)).2 fun g' h' s'=>?_
    rw [hcl] at h'
    simp only [bs,a0j]
    exact .some ⟨s1,⟨d2,h',s2,fun z hz=>hu z (List.mem_of_mem_drop hz),by simp;omega⟩,s'⟩
theorem a6Y (row:List D) (off:Nat) (v:D) (hv:v.one=true) (ho:off<row.length):spl row off (a0B v)=row.set off v:=by
 rw [(a0z hv).1]
 simp only [spl,List.length_singleton]
 rw [List.set_eq_take_append_cons_drop,if_pos ho]
 simp [-bind_some]
structure Cell (g:Hp) (oc o k off:Nat) (T z:Nat) (rows:List (List D)) (row:List D):Prop where
 ho:g[o]?=some (.row T z rows)
 hr:rows[k]?=some row
 lt:off<row.length
 ne:o≠oc
def Wrt (g g':Hp) (oc o:Nat):Prop:=g'.length=g.length∧∀ q,q≠oc→q≠o→g'[q]?=g[q]?
theorem c2F {g:Hp} {oc:Nat} {s:Cur} (hc:CuO g oc s) {o k off T z:Nat} {rows:List (List D)} {row:List D} (C:Cell g oc o k off T z rows row) {β:Type} {f:D × Hp→Option β} {Q:β→Prop}
  (K:∀ g',CuO g' oc (a0R s).2→g'[o]?=some (.row T z (rows.set k (row.set off (.int .i64 (a0R s).1))))→Wrt g g' oc o→Wp (f (a0k [],g')) Q):Wp ((R b4l [.ptr oc 0 0,.ptr o k off] g).bind f) Q:=by
 obtain ⟨d,g1,e1,h1,h2,h3⟩:=c2G hc 8
 have hu:=hc.choose_spec.2.2.1
 have e2:=c0Y _ d g1 h1 (a3K s 8) (a4x hu 8).1
 have ho1:g1[o]?=some (.row T z rows):=by rw [h3.2 o C.ne];exact C.ho
 rw [d0D]
 simp only [c5P,bs,e1,e2,a3w,a0v,d7c]
 refine b0H ho1 C.hr (by rfl) (by have:=C.lt;omega) (by rfl) fun g2 p2 s2=>?_
 try simp only [bs]
 rw [a6Y _ _ _ rfl C.lt] at p2
 refine K g2 ?_ p2 ⟨by rw [s2.1,h3.1],fun q q1 q2=>by rw [s2.2 q q2,h3.2 q q1]⟩
 obtain ⟨dd,x1,x2⟩:=h2
 exact ⟨dd,by rw [s2.2 oc (Ne.symm C.ne)];exact x1,x2⟩
theorem c6y {g:Hp} {oc:Nat} {s:Cur} (hc:CuO g oc s):∃ d g1,R a6y [.ptr oc 0 0,.int .i64 4] g=some (d,g1)∧R a7h [d] g1=some (.int .u64 (num (a0G s 4).1),g1)∧CuO g1 oc (a1D s).2∧Same oc g g1:=by
 obtain ⟨d,g1,e1,h1,h2,h3⟩:=c2G hc 4
 have hu:=hc.choose_spec.2.2.1
 exact ⟨d,g1,e1,c0Y _ d g1 h1 (Nat.le_trans (a3K s 4) (by omega)) (a4x hu 4).1,h2,h3⟩
theorem b9J {g:Hp} {oc:Nat} {s:Cur} (hc:CuO g oc s) {o k off T z:Nat} {rows:List (List D)} {row:List D} (C:Cell g oc o k off T z rows row) {u:Str} (hold:row[off]?=some (.str u)) {β:Type} {f:D × Hp→Option β} {Q:β→Prop}
  (K:∀ g',CuO g' oc (a0S s).2→g'[o]?=some (.row T z (rows.set k (row.set off (.str ((a0S s).1.getD u)))))→Wrt g g' oc o→Wp (f (a0k [],g')) Q):Wp ((R b4m [.ptr oc 0 0,.ptr o k off] g).bind f) Q:=by
 obtain ⟨d,g1,e1,e2,h2,h3⟩:=c6y hc
 obtain ⟨d3,g3,e3,q1,q2,q3⟩:=c2G h2 (a1D s).1
 have e3:R a6y [.ptr oc 0 0,.int .i64 (IntKind.wrap .i64 (num (a0G s 4).1))] g1=some (d3,g3):=e3
 have st13:Same oc g g3:=h3.trans q3
 have ho3:g3[o]?=some (.row T z rows):=by rw [st13.2 o C.ne];exact C.ho
 obtain ⟨dd,x1,x2⟩:=q2
 have l2:=(b9T x1).2
 rw [d0E]
 simp only [c5Q,bs,e1,e2,a3w,e3,a0v,a6q,l2,a1C,d7c]
 cases hbad:(a0G (a1D s).2 (a1D s).1).2.2 with
 | true =>
  have ht:a0S s=(none,(a0G (a1D s).2 (a1D s).1).2):=by unfold a0S;rw [if_pos hbad]
  rw [ht] at K
  simp only [hbad,d7m,a0d,d7d,if_false,bs,a2S]
  refine K g3 ⟨dd,x1,x2⟩ ?_ ⟨st13.1,fun q a _=>st13.2 q a⟩
  rw [ho3]
  have hrs:row.set off (.str u)=row:=by
   have hlt:=C.lt
   have:row[off] = .str u:=(d7s.1 hold).2
   rw [← this,List.set_getElem_self]
  have hrr:rows.set k row=rows:=by
   obtain ⟨hk1,hk2⟩:=d7s.1 C.hr
   rw [← hk2,List.set_getElem_self]
  simp only [Option.getD_none,hrs,hrr]
 | false =>
  have ht:a0S s=(some (bys (a0G (a1D s).2 (a1D s).1).1),(a0G (a1D s).2 (a1D s).1).2):=by unfold a0S;rw [if_neg (by rw [hbad];simp [-bind_some])]
  rw [ht] at K
  simp only [hbad,d7n,a0d,if_true,a5u q1,bs,d7c]
  refine c2r ho3 C.hr (by rfl) (by have:=C.lt;omega) (by rfl) fun g2 p2 s2=>?_
  rw [a6Y _ _ _ rfl C.lt] at p2
  simp only [bs,a2S]
  exact K g2 ⟨dd,by rw [s2.2 oc (Ne.symm C.ne)];exact x1,x2⟩ p2 ⟨by rw [s2.1,st13.1],fun q a b=>by rw [s2.2 q b,st13.2 q a]⟩
theorem c9l {g:Hp} {oc:Nat} {s:Cur} (hc:CuO g oc s) (m:D) {β:Type} {f:D × Hp→Option β} {Q:β→Prop}
  (K:∀ g',CuO g' oc (a0U s).2→Same oc g g'→Wp (f (.int .i64 (a0U s).1,g')) Q):Wp ((R b4k [.ptr oc 0 0,m] g).bind f) Q:=by
 obtain ⟨d,g1,e1,e2,h2,h3⟩:=c6y hc
 obtain ⟨dd,x1,x2,x3,x4⟩:=h2
 obtain ⟨l1,l2⟩:=b9T x1
 rw [d0C]
 have hn:(a1D s).1=IntKind.wrap .i64 (num (a0G s 4).1):=rfl
 have wq:IntKind.wrap .i64 (((a1D s).2.1.length:Int).tdiv 8)=((a1D s).2.1.length:Int).tdiv 8:=by
  rw [Int.tdiv_eq_ediv_of_nonneg (by omega)]
  exact wrap_i64 (by omega) (by omega)
 have bad1:∀ {γ:Type} (F:Hp→Option γ) (Q:γ→Prop),(∀ g',CuO g' oc ((a1D s).2.1,true)→Same oc g g'→Wp (F g') Q)→Wp ((a0h tab g1 ty4 (.ptr oc 0 (0+1)) (.bool true)).bind F) Q:=fun F Q k=>by
  refine c8V x1 (by rfl) (by rfl) (by simp) (by rfl) fun g' h' s'=>?_
  exact k g' ⟨dd,h',x2,x3,x4⟩ (h3.trans s')
 simp only [c5O,bs,e1,e2,a3w,← hn,a0v,a2I,a6q,l1,l2,a0o,a1Z x2,d7c]
 cases hb:(a1D s).2.2 with
 | true =>
  have ht:a0U s=(0,((a1D s).2.1,true)):=by unfold a0U;rw [if_pos (.inl hb)]
  rw [ht] at K
  simp only [a0o,a0v,a2I,l1,a1Z x2,reduceCtorEq,d7e,if_false,bs,a0e,if_true,a0d,d7c]
  refine bad1 _ _ fun g' h1 h2=>?_
  simp only [bs,a0j]
  exact K g' h1 h2
 | false =>
  by_cases hgt:(a1D s).1>((a1D s).2.1.length:Int).tdiv 8
  ·have ht:a0U s=(0,((a1D s).2.1,true)):=by unfold a0U;rw [if_pos (.inr hgt)]
   rw [ht] at K
   simp only [a0o,a0v,a2I,l1,a1Z x2,if_true,bs,b3M,show ¬ ((8:Int)=0) by omega,if_false,wq,a0u,hgt,decide_true,reduceCtorEq,d7e,d7d,a0e,a0d,d7c]
   refine bad1 _ _ fun g' h1 h2=>?_
   simp only [bs,a0j]
   exact K g' h1 h2
  ·have ht:a0U s=a1D s:=by unfold a0U;rw [if_neg (by rw [hb];simp only [d7d,false_or];exact hgt)]
   rw [ht] at K
   simp only [a0o,a0v,a2I,l1,a1Z x2,if_true,bs,b3M,show ¬ ((8:Int)=0) by omega,if_false,wq,a0u,hgt,decide_false,reduceCtorEq,d7e,d7d,a0e,a0d,d7c,a0j]
   exact K g1 ⟨dd,x1,x2,x3,x4⟩ h3
def a4K (s:Cur):Lin × Cur:=(⟨(a0R s).1,(a0R (a0R s).2).1,(a0S (a0R (a0R s).2).2).1.getD []⟩,(a0S (a0R (a0R s).2).2).2)
def a4s:Nat→Cur→List Lin × Cur
 | 0,s=>([],s)
 | n+1,s=>((a4K s).1::(a4s n (a4K s).2).1,(a4s n (a4K s).2).2)
def fdS (s:Cur):(Str × Str) × Cur:=(((a0S s).1.getD [],(a0S (a0S s).2).1.getD []),(a0S (a0S s).2).2)
def a4J:Nat→Cur→List (Str × Str) × Cur
 | 0,s=>([],s)
 | n+1,s=>((fdS s).1::(a4J n (fdS s).2).1,(a4J n (fdS s).2).2)
theorem c8R (d:D):a0p tab (.fn (.method "logtide/event.number") [.iface a4j d] [])=some (.fn (.method "logtide/event.number") [.iface a4j d] []):=by kernel_rfl
theorem c8S (d:D):a0p tab (.fn (.method "logtide/event.text") [.iface a4j d] [])=some (.fn (.method "logtide/event.text") [.iface a4j d] []):=by kernel_rfl
theorem d2r (d:D):a0p tab (.fn (.method "logtide/event.count") [.iface a4j d] [])=some (.fn (.method "logtide/event.count") [.iface a4j d] []):=by kernel_rfl
structure ViS (n0 oi oc:Nat) (h0 g:Hp) (row:List D) (s:Cur):Prop where
 hi:g[oi]?=some (.row a0L 11 [row])
 hc:CuO g oc s
 lo:∀ q,q<n0→g[q]?=h0[q]?
 ni:n0≤oi
 nc:n0≤oc
theorem ViS.ne {n0 oi oc:Nat} {h0 g:Hp} {row:List D} {s:Cur} (v:ViS n0 oi oc h0 g row s):oi≠oc:=fun hh=>by
 obtain ⟨d,h1,_⟩:=v.hc
 rw [← hh,v.hi] at h1
 injection h1 with h1
 injection h1 with h2
 exact absurd h2 (by decide)
theorem ViS.ln {n0 oi oc:Nat} {h0 g:Hp} {row:List D} {s:Cur} (v:ViS n0 oi oc h0 g row s):n0≤g.length:=by
 have:=(d7s.1 v.hi).1
 have:=v.ni
 omega
theorem a2o {g:Hp} {n e z o T z':Nat} {rows:List (List D)} {rr:List (List D)} {d:D} (ow:Own g n e z rows d) (ho:g[o]?=some (.row T z' rr)) (hne:e≠T) {q:Nat} (hq:d.inOb q):q≠o:=fun hh=>by
 have:=a1V ow hq
 rw [hh,ho] at this
 injection this with this
 injection this with h2
 exact hne h2.symm
theorem Own.wrt {g g':Hp} {oc o n e z:Nat} {rows:List (List D)} {d:D} (ow:Own g n e z rows d) (hw:Wrt g g' oc o) {T1 z1 T2 z2:Nat} {r1 r2:List (List D)} (h1:g[oc]?=some (.row T1 z1 r1)) (h2:g[o]?=some (.row T2 z2 r2)) (e1:e≠T1) (e2:e≠T2):Own g' n e z rows d :=
 ow.keep fun q _ hx=>hw.2 q (a2o ow h1 e1 hx) (a2o ow h2 e2 hx)
theorem c4Q {n0 oi oc:Nat} {h0 g:Hp} {row:List D} {s:Cur} (v:ViS n0 oi oc h0 g row s) (off:Nat) (hoff:off<row.length) {β:Type} {f:D × Hp→Option β} {Q:β→Prop}
  (K:∀ g',ViS n0 oi oc h0 g' (row.set off (.int .i64 (a0R s).1)) (a0R s).2→Wrt g g' oc oi→Wp (f (a0k [],g')) Q):Wp ((R b4l [.ptr oc 0 0,.ptr oi 0 off] g).bind f) Q :=
 c2F v.hc ⟨v.hi,rfl,hoff,v.ne⟩ fun g' h1 h2 h3=>K g' ⟨h2,h1,fun q hq=>by rw [h3.2 q (by have:=v.nc;omega) (by have:=v.ni;omega)];exact v.lo q hq,v.ni,v.nc⟩ h3
theorem c4y {n0 oi oc:Nat} {h0 g:Hp} {row:List D} {s:Cur} (v:ViS n0 oi oc h0 g row s) (off:Nat) {u:Str} (hu:row[off]?=some (.str u)) {β:Type} {f:D × Hp→Option β} {Q:β→Prop}
  (K:∀ g',ViS n0 oi oc h0 g' (row.set off (.str ((a0S s).1.getD u))) (a0S s).2→Wrt g g' oc oi→Wp (f (a0k [],g')) Q):Wp ((R b4m [.ptr oc 0 0,.ptr oi 0 off] g).bind f) Q :=
 b9J v.hc ⟨v.hi,rfl,(d7s.1 hu).1,v.ne⟩ hu fun g' h1 h2 h3=>K g' ⟨h2,h1,fun q hq=>by rw [h3.2 q (by have:=v.nc;omega) (by have:=v.ni;omega)];exact v.lo q hq,v.ni,v.nc⟩ h3
theorem c2p {n0 oi oc:Nat} {h0 g:Hp} {row:List D} {s:Cur} (v:ViS n0 oi oc h0 g row s) (m:D) {β:Type} {f:D × Hp→Option β} {Q:β→Prop}
  (K:∀ g',ViS n0 oi oc h0 g' row (a0U s).2→Wrt g g' oc oi→Wp (f (.int .i64 (a0U s).1,g')) Q):Wp ((R b4k [.ptr oc 0 0,m] g).bind f) Q :=
 c9l v.hc m fun g' h1 h2=>K g' ⟨by rw [h2.2 oi v.ne];exact v.hi,h1,fun q hq=>by rw [h2.2 q (by have:=v.nc;omega)];exact v.lo q hq,v.ni,v.nc⟩ ⟨h2.1,fun q a _=>h2.2 q a⟩
theorem a7e {g:Hp} {oc:Nat} {s:Cur} (hc:CuO g oc s):0≤(a0U s).1∧(a0U s).1≤1000000000:=by
 obtain ⟨d,h1,h2,h3,h4⟩:=hc
 have h5:=a4x h3 4
 have hl:(a0G s 4).1.length≤4:=a3K s 4
 obtain ⟨r0,r1⟩:=a2n _ _ rfl h5.1
 have r2:num (a0G s 4).1<4294967296:=by
  have hc:(a0G s 4).1.length=0∨(a0G s 4).1.length=1∨(a0G s 4).1.length=2∨(a0G s 4).1.length=3∨(a0G s 4).1.length=4:=by omega
  rcases hc with h | h | h | h | h <;> rw [h] at r1 <;> omega
 have hn:(a1D s).1=num (a0G s 4).1:=wrap_i64 (by omega) (by omega)
 unfold a0U
 split
 ·exact ⟨by simp,by simp⟩
 ·rename_i hh
  have h6:((a1D s).2.1.length:Int)≤1000000000:=by
   have:(a1D s).2.1.length≤s.1.length:=h5.2.2
   omega
  rw [Int.tdiv_eq_ediv_of_nonneg (by omega)] at hh
  have h7:¬ ((a1D s).2.1.length:Int) / 8<(a1D s).1:=fun hx=>hh (.inr hx)
  rw [hn] at h7
  rw [hn]
  omega
def itc (r:Str) (a0 a1 a2 a3:Int) (ld:D) (a5 a6:Int) (s7 s8:Str) (fd:D):List D:=[.str r,.int .i64 a0,.int .i64 a1,.int .i64 a2,.int .i64 a3,ld,.int .i64 a5,.int .i64 a6,.str s7,.str s8,fd]
theorem c3p {g:Hp} {oi:Nat} {r:Str} {a0 a1 a2 a3:Int} {ld:D} {a5 a6:Int} {t7 t8:Str} {fd:D} (h:g[oi]?=some (.row a0L 11 [itc r a0 a1 a2 a3 ld a5 a6 t7 t8 fd])):a0b tab g a1i (.ptr oi 0 (0+1+4))=some ld∧a0b tab g a1e (.ptr oi 0 (0+1+9))=some fd:=⟨by rw [b2B,a0I h];rfl,by rw [c0E,a0I h];rfl⟩
def a3L:List D:=[.int .i64 0,.int .i64 0,.str []]
theorem c8t {n0 oi oc:Nat} {h0:Hp} {r:Str} {a0 a1 a2 a3:Int} {a5 a6:Int} {t7 t8:Str} {fd:D} {g:Hp} {s:Cur} (N:Nat) (hN:N≤1000000000) {pp:D × Hp} (hpp:pp.1 = .int .i64 N) (v:ViS n0 oi oc h0 g (itc r a0 a1 a2 a3 .nils a5 a6 t7 t8 fd) s) (hfd:fd = .nils) (x1 x2 x3 x4:D) {β:Type} {K:Out→Option β} {Q:β→Prop}
  (k:∀ g' ld b1 b2 b3 b4 b5,ViS n0 oi oc h0 g' (itc r a0 a1 a2 a3 ld a5 a6 t7 t8 fd) (a4s N s).2→Own g' n0 a1o 3 ((a4s N s).1.map a1p) ld→Wp (K (.ext 2,[b1,b2,b3,b4,b5],g')) Q):Wp ((a0P (a7u (.iface a4j (.ptr oc 0 0)) (.ptr oi 0 (0+1)) pp) [x1,x2,.int .i64 0,x3,x4] g).bind K) Q:=by
 refine Wp.loop (fun kk ds g'=>∃ b1 b2 b4 b5 ld,∃ n:Nat,∃ L:List Lin,∃ s':Cur,ds=[b1,b2,.int .i64 n,b4,b5]∧kk+n=N∧ViS n0 oi oc h0 g' (itc r a0 a1 a2 a3 ld a5 a6 t7 t8 fd) s'∧Own g' n0 a1o 3 (L.map a1p) ld∧L.length=n∧L++(a4s (N - n) s').1=(a4s N s).1∧(a4s (N - n) s').2=(a4s N s).2)
  (fun r2=>r2.1 = .ext 2∧∃ b1 b2 b3 b4 b5 ld,r2.2.1=[b1,b2,b3,b4,b5]∧ViS n0 oi oc h0 r2.2.2 (itc r a0 a1 a2 a3 ld a5 a6 t7 t8 fd) (a4s N s).2∧Own r2.2.2 n0 a1o 3 ((a4s N s).1.map a1p) ld) N ⟨_,_,_,_,.nils,0,[],s,rfl,rfl,v,Own.nils _ _ _ _,rfl,by simp,by simp⟩ ?_ ?_
 ·rintro kk ds g' ⟨b1,b2,b4,b5,ld,n,L,s',rfl,hk,v',ow,hL,e1,e2⟩
  simp only [a7u,a0g,a0q,bs,d7c,hpp,a0n]
  refine Wp.dif ?_ ?_
  ·intro h1
   have h1:n<N:=by
    have:(n:Int)<(N:Int):=by simpa using h1
    omega
   have hw:=wi_ n (by omega)
   have hll:((L.map a1p).length:Int)=n:=by simp [-bind_some, hL]
   have hbz:a0X tab a1i 1 [0] [.agg a3L]=some (.sl 3 true [a3L]):=id rfl
   have hzl:a0M tab a1o [] []=some (.agg a3L):=id rfl
   simp only [a0v,a3p,(c3p v'.hi).1,b4E ow,hll,bs,a0Q,decide_true,a0d,if_true,hzl,hbz,d7c]
   refine b2W (ys:=[a3L]) v'.ln ow (a1d _ _ _ _) (by simp;omega) fun ld2 g2 ow2 len2 bel2 old2 _=>?_
   obtain ⟨dc,c1,c2,c3,c4⟩:=v'.hc
   have hi2:g2[oi]?=some (.row a0L 11 [itc r a0 a1 a2 a3 ld a5 a6 t7 t8 fd]):=by rw [old2 oi (d7s.1 v'.hi).1 (fun hx=>a2o ow v'.hi (by decide) hx rfl)];exact v'.hi
   have hc2:g2[oc]?=some (.row a2a 2 [[dc,.bool s'.2]]):=by rw [old2 oc (d7s.1 c1).1 (fun hx=>a2o ow c1 (by decide) hx rfl)];exact c1
   simp only [bs]
   refine b1Z hi2 (by rfl) (by rw [(a0z (a1l ow2)).1];rfl) (by simp [-bind_some, itc]) (a0z (a1l ow2)).2 fun g3 p3 s3=>?_
   rw [(a0z (a1l ow2)).1] at p3
   have p3:g3[oi]?=some (.row a0L 11 [itc r a0 a1 a2 a3 ld2 a5 a6 t7 t8 fd]):=p3
   have hc3:g3[oc]?=some (.row a2a 2 [[dc,.bool s'.2]]):=by rw [s3.2 oc (Ne.symm v'.ne)];exact hc2
   have ow3:Own g3 n0 a1o 3 (L.map a1p++[a3L]) ld2:=ow2.keep fun q _ hx=>s3.2 q (a2o ow2 hi2 (by decide) hx)
   have v3:ViS n0 oi oc h0 g3 (itc r a0 a1 a2 a3 ld2 a5 a6 t7 t8 fd) s':=⟨p3,⟨dc,hc3,c2,c3,c4⟩,fun q hq=>by rw [s3.2 q (by have:=v'.ni;omega),bel2 q hq];exact v'.lo q hq,v'.ni,v'.nc⟩
   obtain ⟨ol,hol,hld2,ho3⟩:=a8m ow3 (i:=n) (by simp;omega)
   have hlen3:(L.map a1p++[a3L]).length=n+1:=by simp [-bind_some, hL]
   have hrn:(L.map a1p++[a3L])[n]?=some a3L:=by rw [List.getElem?_append_right (by simp [-bind_some, hL])];simp [-bind_some, hL]
   have hne3:ol≠oc:=fun hh=>by rw [hh,hc3] at ho3;injection ho3 with ho3;injection ho3 with h2;exact absurd h2 (by decide)
   have hne3i:ol≠oi:=fun hh=>by rw [hh,p3] at ho3;injection ho3 with ho3;injection ho3 with h2;exact absurd h2 (by decide)
   have i0:(0:Int)≤(n:Int)∧(n:Int)<(((L.map a1p++[a3L]).length:Nat):Int):=by omega
   have hix:a0c tab a1i ld2 (.int .i64 (n:Int))=some (.ptr ol n 0):=by rw [hld2,c0z,if_pos i0];simp [-bind_some]
   simp only [bs,a0s,a0v,a3p,(c3p v3.hi).1,hix,a3g,a3h,a3q,c8R,c8S,a1Y,a3k,d7c]
   refine c2F v3.hc ⟨ho3,hrn,by simp [-bind_some, a3L],hne3⟩ fun g4 q1 q2 q3=>?_
   have hsn:∀ (x:List D),(L.map a1p++[a3L]).set n x=L.map a1p++[x]:=fun x=>by rw [List.set_append_right _ _ (by simp [-bind_some, hL])];simp [-bind_some, hL]
   rw [hsn] at q2
   have hgn:∀ (x:List D),(L.map a1p++[x])[n]?=some x:=fun x=>by rw [List.getElem?_append_right (by simp [-bind_some, hL])];simp [-bind_some, hL]
   have hsn':∀ (y x:List D),(L.map a1p++[y]).set n x=L.map a1p++[x]:=fun y x=>by rw [List.set_append_right _ _ (by simp [-bind_some, hL])];simp [-bind_some, hL]
   simp only [bs]
   refine c2F q1 ⟨q2,hgn _,by simp [-bind_some, a3L],hne3⟩ fun g5 q4 q5 q6=>?_
   rw [hsn'] at q5
   simp only [bs]
   refine b9J q4 ⟨q5,hgn _,by simp [-bind_some, a3L],hne3⟩ (u:=[]) (by rfl) fun g6 q7 q8 q9=>?_
   rw [hsn'] at q8
   have q8:g6[ol]?=some (.row a1o 3 (L.map a1p++[a1p (a4K s').1])):=q8
   simp only [bs,a0t,hw]
   have hN:N - n=(N - (n+1))+1:=by omega
   rw [hN] at e1 e2
   refine .some (.inl ⟨rfl,kk - 1,by omega,_,_,_,_,ld2,n+1,L++[(a4K s').1],(a4K s').2,rfl,by omega,⟨?_,q7,fun q hq=>?_,v'.ni,v'.nc⟩,?_,by simp [-bind_some, hL],?_,?_⟩)
   ·rw [q9.2 oi v3.ne (Ne.symm hne3i),q6.2 oi v3.ne (Ne.symm hne3i),q3.2 oi v3.ne (Ne.symm hne3i)];exact p3
   ·have a1:=v'.nc
    rw [q9.2 q (by omega) (by omega),q6.2 q (by omega) (by omega),q3.2 q (by omega) (by omega)]
    exact v3.lo q hq
   ·refine .inr ⟨ol,hol,?_,by rw [q8];simp [-bind_some]⟩
    rw [hld2,hlen3];simp [-bind_some, hL]
   ·rw [← e1];simp [-bind_some, a4s]
   ·rw [← e2];simp [-bind_some, a4s]
  ·intro h1
   have h1:n=N:=by
    have:¬ (n:Int)<(N:Int):=by simpa using h1
    omega
   subst h1
   rw [Nat.sub_self] at e1 e2
   have f1:L++[]=(a4s n s).1:=e1
   have f2:s'=(a4s n s).2:=e2
   rw [List.append_nil] at f1
   rw [f2] at v'
   exact .some (.inr ⟨by simp,rfl,_,_,_,_,_,ld,rfl,v',by rw [← f1];exact ow⟩)
 ·rintro ⟨ex,ds,g'⟩ ⟨rfl,b1,b2,b3,b4,b5,ld,rfl,v',ow⟩
  exact k g' ld b1 b2 b3 b4 b5 v' ow
def a8C:List D:=[.str [],.str []]
theorem c4u {n0 oi oc:Nat} {h0:Hp} {r:Str} {a0 a1 a2 a3:Int} {a5 a6:Int} {t7 t8:Str} {ld:D} {L:List Lin} {g:Hp} {s:Cur} (N:Nat) (hN:N≤1000000000) {pp:D × Hp} (hpp:pp.1 = .int .i64 N) (v:ViS n0 oi oc h0 g (itc r a0 a1 a2 a3 ld a5 a6 t7 t8 .nils) s) (hld:Own g n0 a1o 3 (L.map a1p) ld) (x1 x2 x3:D) {β:Type} {K:Out→Option β} {Q:β→Prop}
  (k:∀ g' fd b1 b2 b3 b4,ViS n0 oi oc h0 g' (itc r a0 a1 a2 a3 ld a5 a6 t7 t8 fd) (a4J N s).2→Own g' n0 a1o 3 (L.map a1p) ld→Own g' n0 a0x 2 ((a4J N s).1.map fld) fd→Wp (K (.ext 4,[b1,b2,b3,b4],g')) Q):Wp ((a0P (a7v (.iface a4j (.ptr oc 0 0)) (.ptr oi 0 (0+1)) pp) [x1,.int .i64 0,x2,x3] g).bind K) Q:=by
 refine Wp.loop (fun kk ds g'=>∃ b1 b4 b5 fd,∃ n:Nat,∃ M:List (Str × Str),∃ s':Cur,ds=[b1,.int .i64 n,b4,b5]∧kk+n=N∧ViS n0 oi oc h0 g' (itc r a0 a1 a2 a3 ld a5 a6 t7 t8 fd) s'∧Own g' n0 a1o 3 (L.map a1p) ld∧Own g' n0 a0x 2 (M.map fld) fd∧M.length=n∧M++(a4J (N - n) s').1=(a4J N s).1∧(a4J (N - n) s').2=(a4J N s).2)
  (fun r2=>r2.1 = .ext 4∧∃ b1 b2 b3 b4 fd,r2.2.1=[b1,b2,b3,b4]∧ViS n0 oi oc h0 r2.2.2 (itc r a0 a1 a2 a3 ld a5 a6 t7 t8 fd) (a4J N s).2∧Own r2.2.2 n0 a1o 3 (L.map a1p) ld∧Own r2.2.2 n0 a0x 2 ((a4J N s).1.map fld) fd) N ⟨_,_,_,.nils,0,[],s,rfl,rfl,v,hld,Own.nils _ _ _ _,rfl,by simp,by simp⟩ ?_ ?_
 ·rintro kk ds g' ⟨b1,b4,b5,fd,n,M,s',rfl,hk,v',owL,ow,hL,e1,e2⟩
  simp only [a7v,a0g,a0q,bs,d7c,hpp,a0n]
  refine Wp.dif ?_ ?_
  ·intro h1
   have h1:n<N:=by
    have:(n:Int)<(N:Int):=by simpa using h1
    omega
   have hw:=wi_ n (by omega)
   have hll:((M.map fld).length:Int)=n:=by simp [-bind_some, hL]
   have hbz:a0X tab a1e 1 [0] [.agg a8C]=some (.sl 2 true [a8C]):=id rfl
   have hzl:a0M tab a0x [] []=some (.agg a8C):=id rfl
   simp only [a0v,a5O,(c3p v'.hi).2,c1L ow,hll,bs,a0Q,decide_true,a0d,if_true,hzl,hbz,d7c]
   refine b6k (ys:=[a8C]) v'.ln ow (a1d _ _ _ _) (by simp;omega) fun fd2 g2 ow2 len2 bel2 old2 _=>?_
   obtain ⟨dc,c1,c2,c3,c4⟩:=v'.hc
   have hi2:g2[oi]?=some (.row a0L 11 [itc r a0 a1 a2 a3 ld a5 a6 t7 t8 fd]):=by rw [old2 oi (d7s.1 v'.hi).1 (fun hx=>a2o ow v'.hi (by decide) hx rfl)];exact v'.hi
   have hc2:g2[oc]?=some (.row a2a 2 [[dc,.bool s'.2]]):=by rw [old2 oc (d7s.1 c1).1 (fun hx=>a2o ow c1 (by decide) hx rfl)];exact c1
   have owL2:Own g2 n0 a1o 3 (L.map a1p) ld:=owL.keep fun q _ hx=>old2 q (owL.lt hx).2 (b8r owL ow (by decide) hx)
   simp only [bs]
   refine c1l hi2 (by rfl) (by rw [(a0z (a1l ow2)).1];rfl) (by simp [-bind_some, itc]) (a0z (a1l ow2)).2 fun g3 p3 s3=>?_
   rw [(a0z (a1l ow2)).1] at p3
   have p3:g3[oi]?=some (.row a0L 11 [itc r a0 a1 a2 a3 ld a5 a6 t7 t8 fd2]):=p3
   have hc3:g3[oc]?=some (.row a2a 2 [[dc,.bool s'.2]]):=by rw [s3.2 oc (Ne.symm v'.ne)];exact hc2
   have ow3:Own g3 n0 a0x 2 (M.map fld++[a8C]) fd2:=ow2.keep fun q _ hx=>s3.2 q (a2o ow2 hi2 (by decide) hx)
   have owL3:Own g3 n0 a1o 3 (L.map a1p) ld:=owL2.keep fun q _ hx=>s3.2 q (a2o owL2 hi2 (by decide) hx)
   have v3:ViS n0 oi oc h0 g3 (itc r a0 a1 a2 a3 ld a5 a6 t7 t8 fd2) s':=⟨p3,⟨dc,hc3,c2,c3,c4⟩,fun q hq=>by rw [s3.2 q (by have:=v'.ni;omega),bel2 q hq];exact v'.lo q hq,v'.ni,v'.nc⟩
   obtain ⟨ol,hol,hld2,ho3⟩:=a8m ow3 (i:=n) (by simp;omega)
   have hlen3:(M.map fld++[a8C]).length=n+1:=by simp [-bind_some, hL]
   have hrn:(M.map fld++[a8C])[n]?=some a8C:=by rw [List.getElem?_append_right (by simp [-bind_some, hL])];simp [-bind_some, hL]
   have hne3:ol≠oc:=fun hh=>by rw [hh,hc3] at ho3;injection ho3 with ho3;injection ho3 with h2;exact absurd h2 (by decide)
   have hne3i:ol≠oi:=fun hh=>by rw [hh,p3] at ho3;injection ho3 with ho3;injection ho3 with h2;exact absurd h2 (by decide)
   have i0:(0:Int)≤(n:Int)∧(n:Int)<(((M.map fld++[a8C]).length:Nat):Int):=by omega
   have hix:a0c tab a1e fd2 (.int .i64 (n:Int))=some (.ptr ol n 0):=by rw [hld2,a8J,if_pos i0];simp [-bind_some]
   simp only [bs,a0s,a0v,a5O,(c3p v3.hi).2,hix,a6o,b0c,c8R,c8S,a1Y,a3k,d7c]
   have hsn:∀ (x:List D),(M.map fld++[a8C]).set n x=M.map fld++[x]:=fun x=>by rw [List.set_append_right _ _ (by simp [-bind_some, hL])];simp [-bind_some, hL]
   have hgn:∀ (x:List D),(M.map fld++[x])[n]?=some x:=fun x=>by rw [List.getElem?_append_right (by simp [-bind_some, hL])];simp [-bind_some, hL]
   have hsn':∀ (y x:List D),(M.map fld++[y]).set n x=M.map fld++[x]:=fun y x=>by rw [List.set_append_right _ _ (by simp [-bind_some, hL])];simp [-bind_some, hL]
   refine b9J v3.hc ⟨ho3,hrn,by simp [-bind_some, a8C],hne3⟩ (u:=[]) (by rfl) fun g4 q1 q2 q3=>?_
   rw [hsn] at q2
   have hi4:g4[oi]?=some (.row a0L 11 [itc r a0 a1 a2 a3 ld a5 a6 t7 t8 fd2]):=by rw [q3.2 oi v3.ne (Ne.symm hne3i)];exact p3
   simp only [bs,(c3p hi4).2,hix,b0c,a0v,a3k]
   refine b9J q1 ⟨q2,hgn _,by simp [-bind_some, a8C],hne3⟩ (u:=[]) (by rfl) fun g6 q7 q8 q9=>?_
   rw [hsn'] at q8
   have q8:g6[ol]?=some (.row a0x 2 (M.map fld++[fld (fdS s').1])):=q8
   simp only [bs,a0t,hw]
   have hN:N - n=(N - (n+1))+1:=by omega
   rw [hN] at e1 e2
   have keepL:Own g6 n0 a1o 3 (L.map a1p) ld:=by
    have k4:Own g4 n0 a1o 3 (L.map a1p) ld:=owL3.keep fun q _ hx=>q3.2 q (a2o owL3 hc3 (by decide) hx) (a2o owL3 ho3 (by decide) hx)
    obtain ⟨dd,y1,_⟩:=q1
    exact k4.keep fun q _ hx=>q9.2 q (a2o k4 y1 (by decide) hx) (a2o k4 q2 (by decide) hx)
   refine .some (.inl ⟨rfl,kk - 1,by omega,_,_,_,fd2,n+1,M++[(fdS s').1],(fdS s').2,rfl,by omega,⟨?_,q7,fun q hq=>?_,v'.ni,v'.nc⟩,keepL,?_,by simp [-bind_some, hL],?_,?_⟩)
   ·rw [q9.2 oi v3.ne (Ne.symm hne3i)];exact hi4
   ·have a1:=v'.nc
    rw [q9.2 q (by omega) (by omega),q3.2 q (by omega) (by omega)]
    exact v3.lo q hq
   ·refine .inr ⟨ol,hol,?_,by rw [q8];simp [-bind_some]⟩
    rw [hld2,hlen3];simp [-bind_some, hL]
   ·rw [← e1];simp [-bind_some, a4J]
   ·rw [← e2];simp [-bind_some, a4J]
  ·intro h1
   have h1:n=N:=by
    have:¬ (n:Int)<(N:Int):=by simpa using h1
    omega
   subst h1
   rw [Nat.sub_self] at e1 e2
   have f1:M++[]=(a4J n s).1:=e1
   have f2:s'=(a4J n s).2:=e2
   rw [List.append_nil] at f1
   rw [f2] at v'
   exact .some (.inr ⟨by simp,rfl,_,_,_,_,fd,rfl,v',owL,by rw [← f1];exact ow⟩)
 ·rintro ⟨ex,ds,g'⟩ ⟨rfl,b1,b2,b3,b4,fd,rfl,v',owL,ow⟩
  exact k g' fd b1 b2 b3 b4 v' owL ow
structure RI where
 r:Str
 a0:Int
 a1:Int
 a2:Int
 a3:Int
 ls:List Lin
 a5:Int
 a6:Int
 t7:Str
 t8:Str
 fs:List (Str × Str)
def a3V (s:Cur):Cur:=(a0R (a0R (a0R (a0R (a0S s).2).2).2).2).2
def a7a (s:Cur):Cur:=(a4s (a0U (a3V s)).1.toNat (a0U (a3V s)).2).2
def a5X (s:Cur):Cur:=(a0S (a0S (a0R (a0R (a7a s)).2).2).2).2
def a1X (s:Cur):RI :=
 { r:=(a0S s).1.getD [],a0:=(a0R (a0S s).2).1,a1:=(a0R (a0R (a0S s).2).2).1,a2:=(a0R (a0R (a0R (a0S s).2).2).2).1,a3:=(a0R (a0R (a0R (a0R (a0S s).2).2).2).2).1,
   ls:=(a4s (a0U (a3V s)).1.toNat (a0U (a3V s)).2).1,a5:=(a0R (a7a s)).1,a6:=(a0R (a0R (a7a s)).2).1,t7:=(a0S (a0R (a0R (a7a s)).2).2).1.getD [],t8:=(a0S (a0S (a0R (a0R (a7a s)).2).2).2).1.getD [],
   fs:=(a4J (a0U (a5X s)).1.toNat (a0U (a5X s)).2).1 }
def a6H (s:Cur):Cur:=(a4J (a0U (a5X s)).1.toNat (a0U (a5X s)).2).2
def RI.row (x:RI) (ld fd:D):List D:=itc x.r x.a0 x.a1 x.a2 x.a3 ld x.a5 x.a6 x.t7 x.t8 fd
theorem d3z {n0 oi oc:Nat} {h0 g:Hp} {s:Cur} (v:ViS n0 oi oc h0 g (itc [] 0 0 0 0 .nils 0 0 [] [] .nils) s) {β:Type} {f:D × Hp→Option β} {Q:β→Prop}
  (k:∀ g2 ld fd,ViS n0 oi oc h0 g2 ((a1X s).row ld fd) (a6H s)→Own g2 n0 a1o 3 ((a1X s).ls.map a1p) ld→Own g2 n0 a0x 2 ((a1X s).fs.map fld) fd→Wp (f (a0k [],g2)) Q):Wp ((R b1o [.iface a4j (.ptr oc 0 0),.ptr oi 0 0] g).bind f) Q:=by
 rw [c6L]
 simp only [c2y,bs,d7c,a0v,b0h,a3H,c8S,c8R,d2r,a3k,a1Y,a4p,b0d,a7T,a4m,a3R]
 refine c4y v 0 (u:=[]) (by rfl) fun g1 v1 _=>?_
 have v1:ViS n0 oi oc h0 g1 (itc (a1X s).r 0 0 0 0 .nils 0 0 [] [] .nils) (a0S s).2:=v1
 simp only [bs,b3C (.ptr oi 0 (0+1+0)) (.ptr oi 0 (0+1+1)) (.ptr oi 0 (0+1+2)) (.ptr oi 0 (0+1+3)) rfl rfl rfl rfl,show ([[.ptr oi 0 (0+1+0)],[.ptr oi 0 (0+1+1)],[.ptr oi 0 (0+1+2)],[.ptr oi 0 (0+1+3)]]:List (List D))=pl4 oi from rfl,b7U,show (pl4 oi).length=4 from rfl]
 refine Wp.loop (fun kk ds g'=>∃ a b,∃ n:Nat,ds=[a,.int .i64 n,b]∧kk+n=4∧((n=0∧ViS n0 oi oc h0 g' (itc (a1X s).r 0 0 0 0 .nils 0 0 [] [] .nils) (a0S s).2)∨(n=1∧ViS n0 oi oc h0 g' (itc (a1X s).r (a1X s).a0 0 0 0 .nils 0 0 [] [] .nils) (a0R (a0S s).2).2) ∨
   (n=2∧ViS n0 oi oc h0 g' (itc (a1X s).r (a1X s).a0 (a1X s).a1 0 0 .nils 0 0 [] [] .nils) (a0R (a0R (a0S s).2).2).2)∨(n=3∧ViS n0 oi oc h0 g' (itc (a1X s).r (a1X s).a0 (a1X s).a1 (a1X s).a2 0 .nils 0 0 [] [] .nils) (a0R (a0R (a0R (a0S s).2).2).2).2) ∨
   (n=4∧ViS n0 oi oc h0 g' (itc (a1X s).r (a1X s).a0 (a1X s).a1 (a1X s).a2 (a1X s).a3 .nils 0 0 [] [] .nils) (a3V s))))
  (fun r=>r.1 = .ext 0∧(∃ a b c,r.2.1=[a,b,c])∧ViS n0 oi oc h0 r.2.2 (itc (a1X s).r (a1X s).a0 (a1X s).a1 (a1X s).a2 (a1X s).a3 .nils 0 0 [] [] .nils) (a3V s)) 4 ⟨_,_,0,rfl,rfl,.inl ⟨rfl,v1⟩⟩ ?_ ?_
 ·rintro kk ds g' ⟨a,b,n,rfl,hk,hv⟩
  simp only [a9G,a0g,a0q,bs,d7c,a0n]
  have ix:∀ j:Nat,j<4→a0c tab a6G (.sl 1 true (pl4 oi)) (.int .i64 j)=some (.fptr [.ptr oi 0 (0+1+j)]):=fun j hj=>by
   have:j=0∨j=1∨j=2∨j=3:=by omega
   rcases this with rfl | rfl | rfl | rfl <;> (rw [b1z];rfl)
  rcases hv with ⟨rfl,v'⟩ | ⟨rfl,v'⟩ | ⟨rfl,v'⟩ | ⟨rfl,v'⟩ | ⟨rfl,v'⟩
  ·simp only [show decide (((0:Nat):Int)<((4:Nat):Int))=true from rfl,a0d,if_true,ix 0 (by omega),b1B,bs,a1Y]
   refine c4Q v' (0+1+0) (by simp [-bind_some, itc]) fun g2 v2 _=>?_
   simp only [bs,a0t]
   exact .some (.inl ⟨rfl,3,by omega,_,_,1,rfl,rfl,.inr (.inl ⟨rfl,v2⟩)⟩)
  ·simp only [show decide (((1:Nat):Int)<((4:Nat):Int))=true from rfl,a0d,if_true,ix 1 (by omega),b1B,bs,a1Y]
   refine c4Q v' (0+1+1) (by simp [-bind_some, itc]) fun g2 v2 _=>?_
   simp only [bs,a0t]
   exact .some (.inl ⟨rfl,2,by omega,_,_,2,rfl,rfl,.inr (.inr (.inl ⟨rfl,v2⟩))⟩)
  ·simp only [show decide (((2:Nat):Int)<((4:Nat):Int))=true from rfl,a0d,if_true,ix 2 (by omega),b1B,bs,a1Y]
   refine c4Q v' (0+1+2) (by simp [-bind_some, itc]) fun g2 v2 _=>?_
   simp only [bs,a0t]
   exact .some (.inl ⟨rfl,1,by omega,_,_,3,rfl,rfl,.inr (.inr (.inr (.inl ⟨rfl,v2⟩)))⟩)
  ·simp only [show decide (((3:Nat):Int)<((4:Nat):Int))=true from rfl,a0d,if_true,ix 3 (by omega),b1B,bs,a1Y]
   refine c4Q v' (0+1+3) (by simp [-bind_some, itc]) fun g2 v2 _=>?_
   simp only [bs,a0t]
   exact .some (.inl ⟨rfl,0,by omega,_,_,4,rfl,rfl,.inr (.inr (.inr (.inr ⟨rfl,v2⟩)))⟩)
  ·simp only [show decide (((4:Nat):Int)<((4:Nat):Int))=false from rfl,a0d,d7d,if_false]
   exact .some (.inr ⟨by simp,rfl,⟨_,_,_,rfl⟩,v'⟩)
 rintro ⟨ex,ds,g2⟩ ⟨rfl,⟨a,b,c,rfl⟩,v2⟩
 have v2:ViS n0 oi oc h0 g2 (itc (a1X s).r (a1X s).a0 (a1X s).a1 (a1X s).a2 (a1X s).a3 .nils 0 0 [] [] .nils) (a3V s):=v2
 simp only [a0r,a0s,bs,d7c,a0v,a3p,(c3p v2.hi).1,c7m,d2r,a4p]
 have hcr:=a7e v2.hc
 refine c2p v2 _ fun g3 v3 _=>?_
 obtain ⟨N,hN⟩:∃ N:Nat,(a0U (a3V s)).1=N:=⟨(a0U (a3V s)).1.toNat,by omega⟩
 have hNt:(a0U (a3V s)).1.toNat=N:=by omega
 simp only [bs]
 refine c8t N (by omega) (by rw [hN]) v3 rfl _ _ _ _ fun g4 ld b1 b2 b3 b4 b5 v4 ow4=>?_
 have hB:(a4s N (a0U (a3V s)).2).2=a7a s:=by unfold a7a;rw [hNt]
 have hL:(a4s N (a0U (a3V s)).2).1=(a1X s).ls:=by unfold a1X;simp only [hNt]
 rw [hB] at v4
 rw [hL] at ow4
 simp only [a0r,a0s,bs,d7c,a0v,b0e,b0f,b0g,b2o,a5O,c8R,c8S,d2r,a1Y,a3k,a4p]
 have keep:∀ {g g':Hp} {row:List D} {s':Cur},Own g n0 a1o 3 ((a1X s).ls.map a1p) ld→ViS n0 oi oc h0 g row s'→Wrt g g' oc oi→Own g' n0 a1o 3 ((a1X s).ls.map a1p) ld:=fun ow v w=>by
  obtain ⟨d,h1,_⟩:=v.hc
  exact Own.wrt ow w h1 v.hi (by decide) (by decide)
 refine c4Q v4 (0+1+5) (by simp [-bind_some, itc]) fun g5 v5 w5=>?_
 have ow5:=keep ow4 v4 w5
 have v5:ViS n0 oi oc h0 g5 (itc (a1X s).r (a1X s).a0 (a1X s).a1 (a1X s).a2 (a1X s).a3 ld (a1X s).a5 0 [] [] .nils) (a0R (a7a s)).2:=v5
 simp only [bs]
 refine c4Q v5 (0+1+6) (by simp [-bind_some, itc]) fun g6 v6 w6=>?_
 have ow6:=keep ow5 v5 w6
 have v6:ViS n0 oi oc h0 g6 (itc (a1X s).r (a1X s).a0 (a1X s).a1 (a1X s).a2 (a1X s).a3 ld (a1X s).a5 (a1X s).a6 [] [] .nils) (a0R (a0R (a7a s)).2).2:=v6
 simp only [bs]
 refine c4y v6 (0+1+7) (u:=[]) (by rfl) fun g7 v7 w7=>?_
 have ow7:=keep ow6 v6 w7
 have v7:ViS n0 oi oc h0 g7 (itc (a1X s).r (a1X s).a0 (a1X s).a1 (a1X s).a2 (a1X s).a3 ld (a1X s).a5 (a1X s).a6 (a1X s).t7 [] .nils) (a0S (a0R (a0R (a7a s)).2).2).2:=v7
 simp only [bs]
 refine c4y v7 (0+1+8) (u:=[]) (by rfl) fun g8 v8 w8=>?_
 have ow8:=keep ow7 v7 w8
 have v8:ViS n0 oi oc h0 g8 (itc (a1X s).r (a1X s).a0 (a1X s).a1 (a1X s).a2 (a1X s).a3 ld (a1X s).a5 (a1X s).a6 (a1X s).t7 (a1X s).t8 .nils) (a5X s):=v8
 simp only [bs,(c3p v8.hi).2,c7o]
 have hcr2:=a7e v8.hc
 refine c2p v8 _ fun g9 v9 w9=>?_
 have ow9:=keep ow8 v8 w9
 obtain ⟨M,hM⟩:∃ M:Nat,(a0U (a5X s)).1=M:=⟨(a0U (a5X s)).1.toNat,by omega⟩
 have hMt:(a0U (a5X s)).1.toNat=M:=by omega
 simp only [bs]
 refine c4u M (by omega) (by rw [hM]) v9 ow9 _ _ _ fun g10 fd b1 b2 b3 b4 v10 owL owF=>?_
 have hE:(a4J M (a0U (a5X s)).2).2=a6H s:=by unfold a6H;rw [hMt]
 have hF:(a4J M (a0U (a5X s)).2).1=(a1X s).fs:=by unfold a1X;simp only [hMt]
 rw [hE] at v10
 rw [hF] at owF
 simp only [a0r,a2S,bs,d7c]
 exact k g10 ld fd v10 owL owF
theorem c0R (z:Int) (l:List Int):num (z::l)=z*256 ^ l.length+num l:=by
 have key:∀ (l:List Int) (c:Int),l.foldl (fun v b=>v*256+b) c=c*256 ^ l.length+l.foldl (fun v b=>v*256+b) 0:=by
  intro l
  induction l with
  | nil=>intro c;simp [-bind_some]
  | cons a r ih =>
   intro c
   simp only [List.foldl_cons,d7t]
   rw [ih (c*256+a),ih (0*256+a),Int.pow_succ]
   generalize (256:Int) ^ r.length=P
   generalize List.foldl (fun v b=>v*256+b) 0 r=F
   simp only [Int.add_mul,Int.zero_mul,Int.zero_add]
   rw [Int.mul_assoc,Int.mul_comm 256 P,Int.add_assoc]
 unfold num
 simp only [List.foldl_cons]
 rw [key l (0*256+z)]
 simp [-bind_some]
theorem a5r:∀ (k:Nat) (v:Int),0≤v→num (a3B k v)=v % 256 ^ k
 | 0,v,_=>by simp [-bind_some, a3B,num]
 | k+1,v,h=>by
  simp only [a3B]
  rw [c0R,a1b,a5r k v h,a6J]
  have hP:(2:Int) ^ (8*k)=256 ^ k:=by rw [Int.pow_mul];rfl
  rw [hP]
  have hpos:(0:Int)<256 ^ k:=Int.pow_pos (by omega)
  rw [Int.fdiv_eq_ediv_of_nonneg _ (by omega)]
  rw [Int.pow_succ]
  generalize (256:Int) ^ k=P at hpos
  have h1:=Int.mul_ediv_add_emod v P
  have h2:=Int.mul_ediv_add_emod (v / P) 256
  have h3:=Int.emod_nonneg v (show P≠0 by omega)
  have h4:=Int.emod_lt_of_pos v hpos
  have h5:=Int.emod_nonneg (v / P) (show (256:Int)≠0 by omega)
  have h6:=Int.emod_lt_of_pos (v / P) (show (0:Int)<256 by omega)
  generalize v % P=r at *
  generalize hq:v / P=q at *
  generalize q % 256=s at *
  generalize q / 256=t at *
  have e:v=(s*P+r)+(P*256)*t:=by
   rw [← h1,← h2]
   simp only [Int.mul_add,Int.add_mul]
   rw [Int.mul_comm P s,← Int.mul_assoc P 256 t]
   omega
  rw [e,Int.add_mul_emod_self_left]
  have hsP:s*P+P≤P*256:=by
   have:(s+1)*P≤256*P:=Int.mul_le_mul_of_nonneg_right (by omega) (by omega)
   rw [Int.add_mul,Int.one_mul,Int.mul_comm 256 P] at this
   exact this
  have hs0:0≤s*P:=Int.mul_nonneg h5 (by omega)
  exact (Int.emod_eq_of_lt (by omega) (by omega)).symm
def I64 (n:Int):Prop := -9223372036854775808≤n∧n<9223372036854775808
theorem a6I (n:Int):IntKind.wrap .u64 n=n % 18446744073709551616:=by
 unfold IntKind.wrap
 simp [-bind_some, IntKind.signed,IntKind.bits,IntKind.min,IntKind.max]
theorem c7G:(256:Int) ^ 8=18446744073709551616:=by decide
theorem a6E:(256:Int) ^ 4=4294967296:=by decide
theorem c7B {n:Int} (h:I64 n):IntKind.wrap .i64 (num (pI n))=n:=by
 unfold pI
 rw [a5r 8 _ (by rw [a6I];omega),c7G,a6I]
 unfold I64 at h
 unfold IntKind.wrap
 simp [-bind_some, IntKind.signed,IntKind.bits,IntKind.min,IntKind.max]
 omega
theorem c1S {n:Nat} (h:n<4294967296):num (pN n)=n:=by
 unfold pN
 rw [a1w (by omega) (by omega),a5r 4 _ (by omega),a6E]
 omega
theorem a8w (p r:List Int) (n:Nat) (hn:p.length=n):a0G (p++r,false) n=(p,(r,false)):=by
 unfold a0G
 rw [if_neg (by simp;omega)]
 subst hn
 simp [-bind_some]
theorem a2f {n:Int} (h:I64 n) (r:List Int):a0R (pI n++r,false)=(n,(r,false)):=by
 unfold a0R
 rw [show (8:Int)=((8:Nat):Int) from rfl,a8w (pI n) r 8 (a1k n),c7B h]
theorem a7C {n:Nat} (h:n<4294967296) (r:List Int):a1D (pN n++r,false)=((n:Int),(r,false)):=by
 unfold a1D
 rw [show (4:Int)=((4:Nat):Int) from rfl,a8w (pN n) r 4 (a1G n),c1S h]
 rw [wrap_i64 (by omega) (by omega)]
theorem a3a {s:Str} (h:s.length<4294967296) (r:List Int):a0S (pS s++r,false)=(some s,(r,false)):=by
 have e:pS s++r=pN s.length++(sby s++r):=by simp [-bind_some, pS]
 unfold a0S
 rw [e,a7C h,a8w (sby s) r s.length (a6X s)]
 simp [-bind_some, c2E]
theorem a8T {n:Nat} (h:n<4294967296) (r:List Int) (hr:8*n≤r.length):a0U (pN n++r,false)=((n:Int),(r,false)):=by
 unfold a0U
 rw [a7C h,if_neg]
 simp only [d7d,false_or]
 rw [Int.tdiv_eq_ediv_of_nonneg (by omega)]
 omega
structure LnR (l:Lin):Prop where
 o:I64 l.off
 n:I64 l.len
 t:l.txt.length<4294967296
theorem c0J {l:Lin} (h:LnR l) (r:List Int):a4K (lnB l++r,false)=(l,(r,false)):=by
 have e:lnB l++r=pI l.off++(pI l.len++(pS l.txt++r)):=by simp [-bind_some, lnB]
 unfold a4K
 rw [e,a2f h.o]
 simp only
 rw [a2f h.n]
 simp only
 rw [a3a h.t]
 rfl
theorem b4F:∀ (ls:List Lin),(∀ l∈ls,LnR l)→∀ r,a4s ls.length ((ls.map lnB).flatten++r,false)=(ls,(r,false))
 | [],_,r=>rfl
 | l::ls,h,r=>by
  have e:((l::ls).map lnB).flatten++r=lnB l++((ls.map lnB).flatten++r):=by simp
  rw [e,d7t]
  unfold a4s
  rw [c0J (h l (by simp))]
  simp only
  rw [b4F ls (fun x hx=>h x (by simp [-bind_some, hx])) r]
theorem c2Z {p:Str × Str} (h1:p.1.length<4294967296) (h2:p.2.length<4294967296) (r:List Int):fdS (fdB p++r,false)=(p,(r,false)):=by
 have e:fdB p++r=pS p.1++(pS p.2++r):=by simp [-bind_some, fdB]
 unfold fdS
 rw [e,a3a h1]
 simp only
 rw [a3a h2]
 rfl
theorem b3S:∀ (fs:List (Str × Str)),(∀ p∈fs,p.1.length<4294967296∧p.2.length<4294967296)→∀ r,a4J fs.length ((fs.map fdB).flatten++r,false)=(fs,(r,false))
 | [],_,r=>rfl
 | p::fs,h,r=>by
  have e:((p::fs).map fdB).flatten++r=fdB p++((fs.map fdB).flatten++r):=by simp
  rw [e,d7t]
  unfold a4J
  rw [c2Z (h p (by simp)).1 (h p (by simp)).2]
  simp only
  rw [b3S fs (fun x hx=>h x (by simp [-bind_some, hx])) r]
structure ItR (i:It):Prop where
 r:i.r.length<4294967296
 a0:I64 i.e.a0
 a1:I64 i.e.a1
 a2:I64 i.e.a2
 a3:I64 i.e.a3
 nl:i.e.ls.length<4294967296
 ls:∀ l∈i.e.ls,LnR l
 a5:I64 i.e.a5
 a6:I64 i.e.a6
 t7:i.e.s7.length<4294967296
 t8:i.e.s8.length<4294967296
 nf:i.e.fs.length<4294967296
 fs:∀ p∈i.e.fs,p.1.length<4294967296∧p.2.length<4294967296
def a1m (i:It):RI:=⟨i.r,i.e.a0,i.e.a1,i.e.a2,i.e.a3,i.e.ls,i.e.a5,i.e.a6,i.e.s7,i.e.s8,i.e.fs⟩
theorem a6v {α:Type} (f:α→List Int) (m:Nat):∀ (l:List α),(∀ a∈l,m≤(f a).length)→m*l.length≤(l.map f).flatten.length
 | [],_=>by simp
 | a::l,h=>by
  have h1:=h a (by simp)
  have h2:=a6v f m l fun b hb=>h b (by simp [-bind_some, hb])
  simp only [d7k,List.flatten_cons,d7h,d7t,Nat.mul_succ]
  omega
theorem c1i {i:It} (h:ItR i) (r:List Int):a1X (a1r i++r,false)=a1m i∧a6H (a1r i++r,false)=(r,false):=by
 have e:a1r i++r=pS i.r++(pI i.e.a0++(pI i.e.a1++(pI i.e.a2++(pI i.e.a3++(pN i.e.ls.length++((i.e.ls.map lnB).flatten++(pI i.e.a5++(pI i.e.a6++(pS i.e.s7++(pS i.e.s8++(pN i.e.fs.length++((i.e.fs.map fdB).flatten++r)))))))))))):=by simp [-bind_some, a1r,a4k,a3o]
 have hl8:=a6v lnB 8 i.e.ls fun l _=>by simp only [lnB,d7h,a1k,a1z];omega
 have hf8:=a6v fdB 8 i.e.fs fun l _=>by simp only [fdB,d7h,a1z];omega
 rw [e]
 have hA:a3V (pS i.r++(pI i.e.a0++(pI i.e.a1++(pI i.e.a2++(pI i.e.a3++(pN i.e.ls.length++((i.e.ls.map lnB).flatten++(pI i.e.a5++(pI i.e.a6++(pS i.e.s7++(pS i.e.s8++(pN i.e.fs.length++((i.e.fs.map fdB).flatten++r)))))))))))),false)=(pN i.e.ls.length++((i.e.ls.map lnB).flatten++(pI i.e.a5++(pI i.e.a6++(pS i.e.s7++(pS i.e.s8++(pN i.e.fs.length++((i.e.fs.map fdB).flatten++r))))))),false):=by
  unfold a3V
  rw [a3a h.r];simp only
  rw [a2f h.a0];simp only
  rw [a2f h.a1];simp only
  rw [a2f h.a2];simp only
  rw [a2f h.a3]
 have hc1:=a8T h.nl ((i.e.ls.map lnB).flatten++(pI i.e.a5++(pI i.e.a6++(pS i.e.s7++(pS i.e.s8++(pN i.e.fs.length++((i.e.fs.map fdB).flatten++r))))))) (by rw [d7h];omega)
 have hls:=b4F i.e.ls h.ls (pI i.e.a5++(pI i.e.a6++(pS i.e.s7++(pS i.e.s8++(pN i.e.fs.length++((i.e.fs.map fdB).flatten++r))))))
 have hB:a7a (pS i.r++(pI i.e.a0++(pI i.e.a1++(pI i.e.a2++(pI i.e.a3++(pN i.e.ls.length++((i.e.ls.map lnB).flatten++(pI i.e.a5++(pI i.e.a6++(pS i.e.s7++(pS i.e.s8++(pN i.e.fs.length++((i.e.fs.map fdB).flatten++r)))))))))))),false)=(pI i.e.a5++(pI i.e.a6++(pS i.e.s7++(pS i.e.s8++(pN i.e.fs.length++((i.e.fs.map fdB).flatten++r))))),false):=by
  unfold a7a
  rw [hA,hc1];simp only [d7l]
  rw [hls]
 have hC:a5X (pS i.r++(pI i.e.a0++(pI i.e.a1++(pI i.e.a2++(pI i.e.a3++(pN i.e.ls.length++((i.e.ls.map lnB).flatten++(pI i.e.a5++(pI i.e.a6++(pS i.e.s7++(pS i.e.s8++(pN i.e.fs.length++((i.e.fs.map fdB).flatten++r)))))))))))),false)=(pN i.e.fs.length++((i.e.fs.map fdB).flatten++r),false):=by
  unfold a5X
  rw [hB,a2f h.a5];simp only
  rw [a2f h.a6];simp only
  rw [a3a h.t7];simp only
  rw [a3a h.t8]
 have hc2:=a8T h.nf ((i.e.fs.map fdB).flatten++r) (by rw [d7h];omega)
 have hfs:=b3S i.e.fs h.fs r
 refine ⟨?_,?_⟩
 ·unfold a1X a1m
  rw [hA,hB,hC,hc1,hc2]
  simp only [d7l]
  rw [hls,hfs,a3a h.r]
  simp only [Option.getD_some]
  rw [a2f h.a0];simp only
  rw [a2f h.a1];simp only
  rw [a2f h.a2];simp only
  rw [a2f h.a3,a2f h.a5];simp only
  rw [a2f h.a6];simp only
  rw [a3a h.t7];simp only [Option.getD_some]
  rw [a3a h.t8]
  simp only [Option.getD_some]
 ·unfold a6H
  rw [hC,hc2]
  simp only [d7l]
  rw [hfs]
theorem a7E {h:Hp} {n1 e z:Nat} {α:Type} {f:α→List D} {l:List α} {d:D} {n:Nat} (hd:Own h n1 e z (l.map f) d) (hr:∀ a∈l,∀ d∈f a,a8B h n d=d):SlOf z f l (a8B h (n+1) d):=by
 rcases hd with ⟨rfl,hn⟩ | ⟨o,ho,rfl,hg⟩
 ·exact .inl ⟨rfl,by simpa using hn⟩
 ·refine .inr ⟨false,?_⟩
  simp only [a8B,hg,List.drop_zero]
  rw [List.take_of_length_le (by simp)]
  congr 1
  rw [List.map_map]
  refine List.map_congr_left fun a ha=>?_
  simp only [Function.comp]
  conv=>rhs;rw [← List.map_id (f a)]
  exact List.map_congr_left fun d hd=>hr a ha d hd
theorem b7Z (h:Hp) (n:Nat) (l:Lin):∀ d∈a1p l,a8B h n d=d:=by
 intro d hd
 simp only [a1p,d7x,List.not_mem_nil,or_false] at hd
 cases n <;> rcases hd with rfl | rfl | rfl <;> rfl
theorem c0s (h:Hp) (n:Nat) (p:Str × Str):∀ d∈fld p,a8B h n d=d:=by
 intro d hd
 simp only [fld,d7x,List.not_mem_nil,or_false] at hd
 cases n <;> rcases hd with rfl | rfl <;> rfl
theorem b0E (s:Cur) (n:Int):(a0G s n).2.1.length≤s.1.length:=by
 unfold a0G
 split
 ·exact Nat.le_refl _
 ·simp [-bind_some]
theorem a3S (s:Cur):(a0R s).2.1.length≤s.1.length:=b0E s 8
theorem a8i (s:Cur):(a1D s).2.1.length≤s.1.length:=b0E s 4
theorem a3P (s:Cur):(a0S s).2.1.length≤s.1.length:=by
 have h1:=b0E (a1D s).2 (a1D s).1
 have h2:=a8i s
 unfold a0S
 split
 ·simp only;omega
 ·simp only;omega
theorem a7N (s:Cur):(a0U s).1.toNat≤s.1.length∧(a0U s).2.1.length≤s.1.length:=by
 have h2:=a8i s
 unfold a0U
 split
 ·exact ⟨by simp,h2⟩
 ·rename_i hh
  refine ⟨?_,h2⟩
  have h3:¬ ((a1D s).2.1.length:Int).tdiv 8<(a1D s).1:=fun hx=>hh (.inr hx)
  rw [Int.tdiv_eq_ediv_of_nonneg (by omega)] at h3
  omega
theorem b7W (s:Cur):(a4K s).2.1.length≤s.1.length:=by
 have h1:=a3S s
 have h2:=a3S (a0R s).2
 have h3:=a3P (a0R (a0R s).2).2
 unfold a4K
 simp only
 omega
theorem b2D:∀ (n:Nat) (s:Cur),(a4s n s).1.length=n∧(a4s n s).2.1.length≤s.1.length
 | 0,s=>⟨rfl,Nat.le_refl _⟩
 | n+1,s=>by
  have h1:=b2D n (a4K s).2
  have h2:=b7W s
  exact ⟨by simp [-bind_some, a4s,h1.1],Nat.le_trans h1.2 h2⟩
theorem b3T:∀ (n:Nat) (s:Cur),(a4J n s).1.length=n
 | 0,s=>rfl
 | n+1,s=>by simp [-bind_some, a4J,b3T n]
theorem b2U (s:Cur):(a3V s).1.length≤s.1.length:=by
 have h0:=a3P s
 have h1:=a3S (a0S s).2
 have h2:=a3S (a0R (a0S s).2).2
 have h3:=a3S (a0R (a0R (a0S s).2).2).2
 have h4:=a3S (a0R (a0R (a0R (a0S s).2).2).2).2
 unfold a3V
 omega
theorem c4v (s:Cur):(a5X s).1.length≤s.1.length:=by
 have h0:=b2U s
 have h1:=(a7N (a3V s)).2
 have h2:=(b2D (a0U (a3V s)).1.toNat (a0U (a3V s)).2).2
 have hB:(a7a s).1.length≤s.1.length:=by unfold a7a;omega
 have h3:=a3S (a7a s)
 have h4:=a3S (a0R (a7a s)).2
 have h5:=a3P (a0R (a0R (a7a s)).2).2
 have h6:=a3P (a0S (a0R (a0R (a7a s)).2).2).2
 unfold a5X
 omega
theorem c1j (s:Cur):(a1X s).ls.length≤s.1.length∧(a1X s).fs.length≤s.1.length:=by
 have h0:=b2U s
 have h1:=(a7N (a3V s)).1
 have h2:=(b2D (a0U (a3V s)).1.toNat (a0U (a3V s)).2).1
 have h3:=c4v s
 have h4:=(a7N (a5X s)).1
 have h5:=b3T (a0U (a5X s)).1.toNat (a0U (a5X s)).2
 refine ⟨?_,?_⟩
 ·show (a4s (a0U (a3V s)).1.toNat (a0U (a3V s)).2).1.length≤_
  omega
 ·show (a4J (a0U (a5X s)).1.toNat (a0U (a5X s)).2).1.length≤_
  omega
def c3I (x:RI) (ld fd:D) (h1:SlOf 3 a1p x.ls ld) (h2:SlOf 2 fld x.fs fd) (h3:x.ls.length≤9223372036854775807) (h4:x.fs.length≤9223372036854775807):It:=⟨x.r,⟨x.a0,x.a1,x.a2,x.a3,x.ls,ld,x.a5,x.a6,x.t7,x.t8,x.fs,fd,h2,h4,h1,h3⟩⟩
theorem b8i (x:RI) (ld fd:D) (h1:SlOf 3 a1p x.ls ld) (h2:SlOf 2 fld x.fs fd) (h3:x.ls.length≤9223372036854775807) (h4:x.fs.length≤9223372036854775807):a1m (c3I x ld fd h1 h2 h3 h4)=x:=rfl
def a5N (c:Int) (l:List Int):Int × Int × RI :=
 if l.length<4 then (14,0,⟨[],0,0,0,0,[],0,0,[],[],[]⟩)
 else if num (l.take 4)<4∨(l.length:Int) - 4<num (l.take 4) then (14,0,⟨[],0,0,0,0,[],0,0,[],[],[]⟩)
 else if a2t (l.take (num (l.take 4)).toNat)≠num ((l.drop (num (l.take 4)).toNat).take 4) then (15,0,⟨[],0,0,0,0,[],0,0,[],[],[]⟩)
 else if (a6H ((l.take (num (l.take 4)).toNat).drop 4,false)).2=true∨0<(a6H ((l.take (num (l.take 4)).toNat).drop 4,false)).1.length∨c≠0 then (1,0,⟨[],0,0,0,0,[],0,0,[],[],[]⟩)
 else (0,4+num (l.take 4),a1X ((l.take (num (l.take 4)).toNat).drop 4,false))
def zit:It:=⟨[],⟨0,0,0,0,[],.nils,0,0,[],[],[],.nils,SlOf.nils _ _,by simp,SlOf.nils _ _,by simp⟩⟩
theorem a3Q:a1m zit=⟨[],0,0,0,0,[],0,0,[],[],[]⟩:=rfl
theorem b6R {h g:Hp} {a b:Int} {j:It} (hl:h.length≤g.length) (hb:∀ q,q<h.length→g[q]?=h[q]?):scope h g (.tup [.agg (itr j),.int .i64 a,.int .i64 b])=some (.tup [.agg (itr j),.int .i64 a,.int .i64 b],h):=by
 refine a1n ?_ ?_ hl hb
 ·have h1:(itr j).map (frz h.length g 2)=itr j:=by
    conv=>rhs;rw [← List.map_id (itr j)]
    exact List.map_congr_left fun d hd=>a4q _ g 1 j d hd
  show D.tup [D.agg ((itr j).map (frz h.length g 2)),.int .i64 a,.int .i64 b]=_
  rw [h1]
 ·refine .tup _ fun d hd=>?_
  simp at hd
  rcases hd with rfl | rfl | rfl
  ·exact a9f _ j
  ·constructor
  ·constructor
theorem a6T (a b c:D):a0k [a,b,c] = .tup [a,b,c]:=rfl
theorem c8f (l:List Int) (d:D) (c:Int) (h:Hp) (hd:SlOf 1 byr l d) (hl:l.length≤1000000000) (hu:∀ z∈l,U8 z)
  (hck:∀ j:It,a1m j=a1X ((l.take (num (l.take 4)).toNat).drop 4,false)→∀ g,R a5E [.agg (itr j)] g=some (.int .i64 c,g)) :
  ∃ j:It,R a9b [d] h=some (.tup [.agg (itr j),.int .i64 (a5N c l).2.1,.int .i64 (a5N c l).1],h)∧a1m j=(a5N c l).2.2:=by
 suffices Wp (R a9b [d] h) (fun p=>p.2=h∧∃ j:It,p.1 = .tup [.agg (itr j),.int .i64 (a5N c l).2.1,.int .i64 (a5N c l).1]∧a1m j=(a5N c l).2.2) by
  obtain ⟨⟨x,h'⟩,h1,rfl,j,rfl,h2⟩:=this
  exact ⟨j,h1,h2⟩
 have hz74:([.str [],.int .i64 0,.int .i64 0,.int .i64 0,.int .i64 0,.nils,.int .i64 0,.int .i64 0,.str [],.str [],.nils]:List D)=itr zit:=rfl
 have hbz:a0M tab a0L [] []=some (.agg (itr zit)):=id rfl
 -- a way out with an error: the result's variable is stored to and read
 have out:∀ (g:Hp) (row:List D) (a b:Int),g[h.length]?=some (.row a0L 11 [row])→row.length=11→h.length≤g.length→(∀ q,q<h.length→g[q]?=h[q]?)→(a,b,a1m zit)=((a5N c l).2.1,(a5N c l).1,(a5N c l).2.2) →
   Wp ((a0h tab g a0L (.ptr h.length 0 0) (.agg (itr zit))).bind fun h'=>(a0b tab h' a0L (.ptr h.length 0 0)).bind fun d=>scope h h' (a0k [d,.int .i64 a,.int .i64 b])) (fun p=>p.2=h∧∃ j:It,p.1 = .tup [.agg (itr j),.int .i64 (a5N c l).2.1,.int .i64 (a5N c l).1]∧a1m j=(a5N c l).2.2):=by
  intro g row a b hg hr hgl hgb he
  injection he with he1 he2
  injection he2 with he2 he3
  refine b2a hg (by rfl) (by rfl) (by rw [hr];exact Nat.le_refl _) (by rfl) fun g' h' s'=>?_
  have h':g'[h.length]?=some (.row a0L 11 [itr zit]):=by
   rw [h']
   have hs:spl row 0 (a0B (.agg (itr zit)))=itr zit:=by
    have h11:(itr zit).length=11:=rfl
    simp [-bind_some, spl,a0B,hr,h11]
   rw [hs];rfl
  have ld:a0b tab g' a0L (.ptr h.length 0 0)=some (.agg (itr zit)):=by rw [a8g,a0I h'];rfl
  rw [ld]
  simp only [bs,a6T]
  rw [b6R (by rw [s'.1];exact hgl) (fun q hq=>by rw [s'.2 q (by omega)];exact hgb q hq)]
  exact .some ⟨rfl,zit,by rw [he1,he2],he3⟩
 rw [d0p]
 simp only [c5B,hz74,bs,d7c,a1Z hd,a0n,hbz]
 have hp2:(a0H h a0L 11 [itr zit])[h.length]?=some (.row a0L 11 [itr zit]):=a1a _ _ _ _
 have hq2:∀ q,q<h.length→(a0H h a0L 11 [itr zit])[q]?=h[q]?:=fun q hq=>a0W _ _ _ _ hq
 have hl2:(a0H h a0L 11 [itr zit]).length=h.length+1:=by simp [-bind_some, a0H]
 generalize a0H h a0L 11 [itr zit]=g1 at *
 refine Wp.dif ?_ ?_
 ·intro h0
  have h0:l.length<4:=by
   have:(l.length:Int)<4:=by simpa using h0
   omega
  have hz:a5N c l=(14,0,⟨[],0,0,0,0,[],0,0,[],[],[]⟩):=by unfold a5N;rw [if_pos h0]
  exact out g1 _ 0 14 hp2 rfl (by omega) hq2 (by rw [hz,a3Q])
 intro h0
 have h0:¬ l.length<4:=by
  have:¬ (l.length:Int)<4:=by simpa using h0
  omega
 obtain ⟨d4,e4,s4'⟩:=a8M hd (k := .i64) (n:=4) (by omega) (by omega)
 have s4':SlOf 1 byr (l.take 4) d4:=s4'
 have hl4:(l.take 4).length=4:=by simp;omega
 have hu4:∀ z∈l.take 4,U8 z:=fun z hz=>hu z (List.mem_of_mem_take hz)
 have e14:=c0Y _ d4 g1 s4' (by omega) hu4
 obtain ⟨n0,n1⟩:=a2n 4 _ hl4 hu4
 rw [a6E] at n1
 have w5:IntKind.wrap .i64 (num (l.take 4))=num (l.take 4):=wrap_i64 (by omega) (by omega)
 have w6:IntKind.wrap .i64 ((l.length:Int) - 4)=(l.length:Int) - 4:=wrap_i64 (by omega) (by omega)
 generalize hN:num (l.take 4)=N at *
 obtain ⟨n,rfl⟩:=Int.eq_ofNat_of_zero_le n0
 simp only [d7l] at hck
 simp only [bs,e4,e14,a3w,w5,a0n,a0o]
 by_cases hbad:(n:Int)<4∨(l.length:Int) - 4<(n:Int)
 ·have hz:a5N c l=(14,0,⟨[],0,0,0,0,[],0,0,[],[],[]⟩):=by unfold a5N;rw [if_neg h0,hN,if_pos hbad]
  by_cases c1:(n:Int)<4
  ·simp only [c1,decide_true,reduceCtorEq,d7e,if_false,bs,a0e,if_true,a0d]
   exact out g1 _ 0 14 hp2 rfl (by omega) hq2 (by rw [hz,a3Q])
  ·have c2:(n:Int)>(l.length:Int) - 4:=by omega
   simp only [c1,decide_false,if_true,bs,a1Z hd,a0D,w6,a0u,c2,decide_true,reduceCtorEq,d7e,d7d,if_false,a0e,a0d]
   exact out g1 _ 0 14 hp2 rfl (by omega) hq2 (by rw [hz,a3Q])
 have c1:¬ (n:Int)<4:=by omega
 have c2:¬ (n:Int)>(l.length:Int) - 4:=by omega
 simp only [c1,decide_false,if_true,bs,a1Z hd,a0D,w6,a0u,c2,reduceCtorEq,d7e,d7d,if_false,a0e,a0d]
 obtain ⟨dn,en,sn⟩:=a8M hd (k := .i64) (n:=(n:Int)) (by omega) (by omega)
 rw [d7l] at sn
 have e29:=c8g (l.take n) dn g1 (.inl sn) (by simp;omega) (fun z hz=>hu z (List.mem_of_mem_take hz))
 have w7:IntKind.wrap .i64 ((n:Int)+4)=((n+4:Nat):Int):=by rw [wrap_i64 (by omega) (by omega)];omega
 obtain ⟨dc,ec,sc⟩:=a5M hd n (n+4) (by omega) (by omega)
 have lc:(l.take (n+4)).drop n=(l.drop n).take 4:=by rw [List.drop_take];congr 1;omega
 rw [lc] at sc
 have e35:=c0Y _ dc g1 sc (by simp;omega) (fun z hz=>hu z (List.mem_of_mem_drop (List.mem_of_mem_take hz)))
 simp only [en,e29,a0t,w7,ec,e35,bs,a0w]
 refine Wp.dif ?_ ?_
 ·intro h1
  have h1:a2t (l.take n)≠num ((l.drop n).take 4):=by simpa using h1
  have hz:a5N c l=(15,0,⟨[],0,0,0,0,[],0,0,[],[],[]⟩):=by unfold a5N;rw [if_neg h0,hN,if_neg hbad];simp only [d7l];rw [if_pos h1]
  exact out g1 _ 0 15 hp2 rfl (by omega) hq2 (by rw [hz,a3Q])
 intro h1
 have h1:¬ a2t (l.take n)≠num ((l.drop n).take 4):=by simpa using h1
 obtain ⟨db,eb,sb⟩:=a5M hd 4 n (by omega) (by omega)
 have eb:a0A tab a0N true true false [d,.int .i64 4,.int .i64 n]=some db:=eb
 have hp6:(a0H g1 a0L 11 [itr zit])[h.length+1]?=some (.row a0L 11 [itr zit]):=by rw [← hl2];exact a1a _ _ _ _
 have hp62:(a0H g1 a0L 11 [itr zit])[h.length]?=some (.row a0L 11 [itr zit]):=by rw [a0W _ _ _ _ (by omega)];exact hp2
 have hl6:(a0H g1 a0L 11 [itr zit]).length=h.length+2:=by simp [-bind_some, a0H,hl2]
 have hq6:∀ q,q<h.length→(a0H g1 a0L 11 [itr zit])[q]?=h[q]?:=fun q hq=>by rw [a0W _ _ _ _ (by omega)];exact hq2 q hq
 simp only [bs,hl2]
 generalize a0H g1 a0L 11 [itr zit]=g2 at *
 have hbc:a0M tab a2a [0] [db]=some (.agg [db,.bool false]):=b9D db (a1v sb)
 simp only [eb,hbc,bs,a3b a2a 2 g2 [db,.bool false] rfl (by omega),hl6]
 have hc0:(a0H g2 a2a 2 [[db,.bool false]])[h.length+2]?=some (.row a2a 2 [[db,.bool false]]):=by rw [← hl6];exact a1a _ _ _ _
 have hi0:(a0H g2 a2a 2 [[db,.bool false]])[h.length+1]?=some (.row a0L 11 [itr zit]):=by rw [a0W _ _ _ _ (by omega)];exact hp6
 have hr0:(a0H g2 a2a 2 [[db,.bool false]])[h.length]?=some (.row a0L 11 [itr zit]):=by rw [a0W _ _ _ _ (by omega)];exact hp62
 have hq0:∀ q,q<h.length+1→(a0H g2 a2a 2 [[db,.bool false]])[q]?=g2[q]?:=fun q hq=>a0W _ _ _ _ (by omega)
 generalize a0H g2 a2a 2 [[db,.bool false]]=g3 at *
 have V0:ViS (h.length+1) (h.length+1) (h.length+2) g2 g3 (itc [] 0 0 0 0 .nils 0 0 [] [] .nils) ((l.take n).drop 4,false) :=
  ⟨hi0,⟨db,hc0,sb,fun z hz=>hu z (List.mem_of_mem_take (List.mem_of_mem_drop hz)),by simp;omega⟩,hq0,by omega,by omega⟩
 refine d3z V0 fun g4 ld fd V4 owL owF=>?_
 generalize hSt:(((l.take n).drop 4,false):Cur)=st at *
 obtain ⟨dd,k1,k2,k3,k4⟩:=V4.hc
 obtain ⟨m1,m2⟩:=b9T k1
 have hr4:g4[h.length]?=some (.row a0L 11 [itr zit]):=by rw [V4.lo h.length (by omega)];exact hp62
 have hq4:∀ q,q<h.length→g4[q]?=h[q]?:=fun q hq=>by rw [V4.lo q (by omega)];exact hq6 q hq
 have hl4':h.length≤g4.length:=by have:=(d7s.1 hr4).1;omega
 have ldi:a0b tab g4 a0L (.ptr (h.length+1) 0 0)=some (.agg ((a1X st).row ld fd)):=by rw [a8g,a0I V4.hi];rfl
 have hsl:st.1.length≤1000000000:=by rw [← hSt];simp [-bind_some];omega
 obtain ⟨hLl,hFl⟩:=c1j st
 have hLl:(a1X st).ls.length≤9223372036854775807:=by omega
 have hFl:(a1X st).fs.length≤9223372036854775807:=by omega
 simp only [bs,a0v,a2I,a6q,m1,m2,a0o,a1Z k2]
 have hzd:∀ x:Prop,a5N c l=if (a6H st).2=true∨0<(a6H st).1.length∨c≠0 then (1,0,⟨[],0,0,0,0,[],0,0,[],[],[]⟩) else (0,4+(n:Int),a1X st):=fun _=>by
  unfold a5N
  rw [if_neg h0,hN,if_neg hbad]
  simp only [d7l]
  rw [if_neg h1,hSt]
 have hzd:=hzd True
 cases hbd:(a6H st).2 with
 | true =>
  have hz:a5N c l=(1,0,⟨[],0,0,0,0,[],0,0,[],[],[]⟩):=by rw [hzd,if_pos (.inl hbd)]
  simp only [reduceCtorEq,d7e,if_false,bs,a0e,if_true,a0o,a1g,a0d]
  exact out g4 _ 0 1 hr4 rfl hl4' hq4 (by rw [hz,a3Q])
 | false =>
  simp only [if_true,bs,a0v,a2I,m1,a1Z k2,a0u]
  by_cases hlen:0<(a6H st).1.length
  ·have hz:a5N c l=(1,0,⟨[],0,0,0,0,[],0,0,[],[],[]⟩):=by rw [hzd,if_pos (.inr (.inl hlen))]
   have hd1:decide (((a6H st).1.length:Int)>0)=true:=by simp only [decide_eq_true_eq];omega
   simp only [hd1,reduceCtorEq,d7e,d7d,if_false,bs,a0e,if_true,a0o,a1g,a0d]
   exact out g4 _ 0 1 hr4 rfl hl4' hq4 (by rw [hz,a3Q])
  ·have hd1:decide (((a6H st).1.length:Int)>0)=false:=by simp only [decide_eq_false_iff_not];omega
   have sL:=a7E (n:=1) owL (fun a _=>b7Z g4 1 a)
   have sF:=a7E (n:=1) owF (fun a _=>c0s g4 1 a)
   have hsn:a8B g4 3 (.agg ((a1X st).row ld fd)) = .agg (itr (c3I (a1X st) _ _ sL sF hLl hFl)):=rfl
   have hcall:=hck (c3I (a1X st) _ _ sL sF hLl hFl) (b8i _ _ _ _ _ _ _) (g4.map fun _ => .dead)
   have hokv:(D.agg ((a1X st).row ld fd)).okv=true:=by
    clear hcall hsn sL sF V4 ldi
    rcases owL with ⟨rfl,_⟩ | ⟨_,_,rfl,_⟩ <;> rcases owF with ⟨rfl,_⟩ | ⟨_,_,rfl,_⟩ <;> rfl
   have hcB:a4O R a5E [.agg ((a1X st).row ld fd)] g4=some (.int .i64 c,g4):=by
    unfold a4O
    simp only [d7k,List.map_nil,hsn,hcall]
    rfl
   simp only [hd1,if_true,d7d,if_false,bs,a0e,a0o,ldi,a1g,hcB,a0w]
   by_cases hc:c=0
   ·have hz:a5N c l=(0,4+(n:Int),a1X st):=by
      rw [hzd,if_neg]
      rintro (hx | hx | hx)
      ·rw [hbd] at hx;cases hx
      ·exact hlen hx
      ·exact hx hc
    rw [hc] at hz
    have w8:IntKind.wrap .i64 (4+(n:Int))=4+(n:Int):=wrap_i64 (by omega) (by omega)
    simp only [hc,ne_eq,not_true,decide_false,a0d,d7d,if_false,bs,ldi,a0t,w8]
    refine b2a (kk:=0) (off:=0) (row:=itr zit) (v := .agg ((a1X st).row ld fd)) hr4 (by rfl) (by rfl) (by exact Nat.le_refl _) hokv fun g5 h5 s5=>?_
    have h5:g5[h.length]?=some (.row a0L 11 [(a1X st).row ld fd]):=h5
    have ld5:a0b tab g5 a0L (.ptr h.length 0 0)=some (.agg ((a1X st).row ld fd)):=by rw [a8g,a0I h5];rfl
    have owL5:Own g5 (h.length+1) a1o 3 ((a1X st).ls.map a1p) ld:=owL.keep fun q hq _=>s5.2 q (by omega)
    have owF5:Own g5 (h.length+1) a0x 2 ((a1X st).fs.map fld) fd:=owF.keep fun q hq _=>s5.2 q (by omega)
    have fL:=a2g (n0:=h.length) (n:=1) owL5 (by omega) (fun a _=>a5p _ g5 1 a)
    have fF:=a2g (n0:=h.length) (n:=1) owF5 (by omega) (fun a _=>b0j _ g5 1 a)
    simp only [ld5,bs,a6T]
    rw [a1n (d' := .tup [.agg (itr (c3I (a1X st) _ _ fL fF hLl hFl)),.int .i64 (4+(n:Int)),.int .i64 0]) rfl (by
     refine .tup _ fun d hd=>?_
     simp at hd
     rcases hd with rfl | rfl | rfl
     ·exact a9f _ _
     ·constructor
     ·constructor) (by rw [s5.1];exact hl4') (fun q hq=>by rw [s5.2 q (by omega)];exact hq4 q hq)]
    exact .some ⟨rfl,_,by rw [hz],by rw [hz];rfl⟩
   ·have hz:a5N c l=(1,0,⟨[],0,0,0,0,[],0,0,[],[],[]⟩):=by rw [hzd,if_pos (.inr (.inr hc))]
    simp only [hc,ne_eq,not_false_eq_true,decide_true,a0d,if_true,bs]
    exact out g4 _ 0 1 hr4 rfl hl4' hq4 (by rw [hz,a3Q])
structure RG (hs:Int) (i:It):Prop where
 fs:i.e.fs.length≤20
 ok:itE i=0
 host:i.e.a0=hs
 r:(i.r==([42]:Str))=false
 bl:(a1r i).length≤20000
 rd:ItR i
theorem b8M {i j:It} (h:a1m i=a1m j):a2N i=a2N j∧itE i=itE j∧(∀ hs,RG hs i→RG hs j)∧a5U i j=true:=by
 obtain ⟨r,⟨a0,a1,a2,a3,ls,ld,a5,a6,s7,s8,fs,fd,p1,p2,p3,p4⟩⟩:=i
 obtain ⟨r',⟨a0',a1',a2',a3',ls',ld',a5',a6',s7',s8',fs',fd',p1',p2',p3',p4'⟩⟩:=j
 simp only [a1m,RI.mk.injEq] at h
 obtain ⟨rfl,rfl,rfl,rfl,rfl,rfl,rfl,rfl,rfl,rfl,rfl⟩:=h
 refine ⟨rfl,rfl,fun hs g=>⟨g.fs,g.ok,g.host,g.r,g.bl,⟨g.rd.r,g.rd.a0,g.rd.a1,g.rd.a2,g.rd.a3,g.rd.nl,g.rd.ls,g.rd.a5,g.rd.a6,g.rd.t7,g.rd.t8,g.rd.nf,g.rd.fs⟩⟩,?_⟩
 simp [-bind_some, a5U,a6F]
end Go.Proofs.YtjmndhbabkjebaaGreatDoor

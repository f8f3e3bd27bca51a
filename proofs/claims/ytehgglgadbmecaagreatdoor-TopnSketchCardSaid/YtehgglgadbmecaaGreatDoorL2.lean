/- Laws, on plain data, about functions that the statement reaches. -/
import Derived.Test.YtehgglgadbmecaaGreatDoorL1
set_option linter.unusedSimpArgs false
set_option linter.unusedVariables false
set_option linter.unnecessarySimpa false
set_option maxRecDepth 100000
namespace Go.Proofs.YtehgglgadbmecaaGreatDoor
open Go.Eng Go.Pi
open Option (bind_some)
theorem b6S {g:Hp} {o N:Nat} {P A B Q:List Rw} (hN:N≤1000000000) (hlen:(P++A++B++Q).length=N) (hA:0<A.length) (hB:0<B.length) (ho:g[o]?=some (.row a0j 3 ((P++A++B++Q).map a0x))) (cmp:D) (c:Rw→Rw→Int) (hcmp:a6t cmp c)
  (mid s0 r0:Nat) (hmid:mid=(P.length+(P.length+A.length+B.length)) / 2) (hs:(P.length+A.length>mid∧s0+B.length=mid∧r0=mid)∨(P.length+A.length≤mid∧s0=P.length∧r0=P.length+A.length))
  (p:Int) (hp:p=(mid+(P.length+A.length) - 1:Nat)) (x1 x2 x3:D) {β:Type} {f:Out→Option β} {R1:β→Prop}
  (K:∀ (k:Nat) b1 b2 b3 A1 A2 B1 B2,A=A1++A2→B=B1++B2→k=P.length+A1.length→mid=P.length+A1.length+B1.length →
   (A1=[]∨B2=[]∨∃ x y r s,A1=r++[x]∧B2=y::s∧¬ c y x<0)→(A2=[]∨B1=[]∨∃ x y r s,B1=r++[y]∧A2=x::s∧c y x<0) →
   Wp (f (.ext 8,[.int .i64 (k:Int),.int .i64 (k:Int),b1,b2,b3],g)) R1):Wp ((a0z (a4E (.msl 3 o 0 N) cmp (.int .i64 p)) [.int .i64 (s0:Int),.int .i64 (r0:Int),x1,x2,x3] g).bind f) R1:=by
 subst hp
 have hl:=hlen
 simp only [c8R] at hl
 have gA:∀ t,P.length≤t→t<P.length+A.length→(P++A++B++Q)[t]?=A[t - P.length]?:=fun t h0 h1=>by
  rw [List.append_assoc (P++A)];exact c1q P A _ t h0 h1
 have gB:∀ t,P.length+A.length≤t→t<P.length+A.length+B.length→(P++A++B++Q)[t]?=B[t - (P.length+A.length)]?:=fun t h0 h1=>by
  have:=c1q (P++A) B Q t (by simpa using h0) (by simpa using h1)
  simpa using this
 obtain ⟨q,hq⟩:∃ q:Nat→Prop,∀ t,q t↔∃ y z,(P++A++B++Q)[t]?=some y∧(P++A++B++Q)[mid+(P.length+A.length) - 1 - t]?=some z∧¬ c z y<0:=⟨_,fun t=>Iff.rfl⟩
 refine c8z hN hlen ho cmp (mid+(P.length+A.length) - 1) s0 r0 q (by omega) (by omega) (by omega) (by omega)
  (fun t y z _ _ hy hz=>⟨c z y,hcmp z y g,fun h=>(hq t).2 ⟨y,z,hy,hz,h⟩,fun hh=>by
   obtain ⟨y',z',h1,h2,h3⟩:=(hq t).1 hh
   rw [hy] at h1;rw [hz] at h2;injection h1 with h1;injection h2 with h2;rw [h1,h2];exact h3⟩) _ _ _ fun k b1 b2 b3 k1 k2 k3 k4=>?_
 have hkA:k - P.length≤A.length:=by omega
 have hkB:mid - k≤B.length:=by omega
 have la:(A.take (k - P.length)).length=k - P.length:=by simp;omega
 have lb:(B.take (mid - k)).length=mid - k:=by simp;omega
 refine K k b1 b2 b3 (A.take (k - P.length)) (A.drop (k - P.length)) (B.take (mid - k)) (B.drop (mid - k)) (List.take_append_drop _ _).symm (List.take_append_drop _ _).symm (by omega) (by omega) ?_ ?_
 ·rcases k3 with k3 | k3
  ·rcases hs with ⟨h1,h2,h3⟩ | ⟨h1,h2,h3⟩
   ·right;left
    exact List.drop_eq_nil_of_le (by omega)
   ·left
    apply List.eq_nil_of_length_eq_zero
    omega
  ·by_cases hk0:k=P.length
   ·left;apply List.eq_nil_of_length_eq_zero;omega
   ·right
    by_cases hk1:B.length≤mid - k
    ·left;exact List.drop_eq_nil_of_le hk1
    ·right
     obtain ⟨y,z,hy,hz,hlt⟩:=(hq _).1 k3
     rw [gA _ (by omega) (by omega)] at hy
     rw [gB _ (by omega) (by omega)] at hz
     obtain ⟨r,hr⟩:=a5o (A:=A) (t:=k - P.length) (y:=y) (by omega) (by rw [← hy];congr 1;omega)
     obtain ⟨s,hs'⟩:=a4J (A:=B) (t:=mid - k) (y:=z) (by rw [← hz];congr 1;omega)
     exact ⟨y,z,r,s,hr,hs',hlt⟩
 ·by_cases hk0:k=P.length+A.length
  ·left;exact List.drop_eq_nil_of_le (by omega)
  ·right
   by_cases hk1:mid - k=0
   ·left;rw [hk1];rfl
   ·right
    rcases k4 with k4 | k4
    ·omega
    ·obtain ⟨y,hy⟩:∃ y,A[k - P.length]?=some y:=⟨_,c9b (by omega)⟩
     obtain ⟨z,hz⟩:∃ z,B[mid - k - 1]?=some z:=⟨_,c9b (by omega)⟩
     obtain ⟨r,hr⟩:=a5o (A:=B) (t:=mid - k) (y:=z) (by omega) hz
     obtain ⟨s,hs'⟩:=a4J (A:=A) (t:=k - P.length) (y:=y) hy
     refine ⟨y,z,r,s,hr,hs',Classical.byContradiction fun h=>k4 ((hq _).2 ⟨y,z,?_,?_,h⟩)⟩
     ·rw [gA _ (by omega) (by omega)];exact hy
     ·rw [gB _ (by omega) (by omega),← hz];congr 1;omega
theorem c0P {c:Rw→Rw→Int} {S Pre:Rw→Rw→Prop} (od:SOrd c S Pre) {cmp:D} (hcmp:a6t cmp c) {o N n:Nat} (hN:N≤1000000000) (ih:a9O c S Pre cmp o N n)
  {g:Hp} {P A B Q:List Rw} {a m b:Int} (hn:A.length+B.length≤n+1) (hlen:(P++A++B++Q).length=N) (hA:0<A.length) (hB:0<B.length) (sA:A.Pairwise S) (sB:B.Pairwise S) (hp:∀ x∈A,∀ y∈B,Pre x y)
  (ho:g[o]?=some (.row a0j 3 ((P++A++B++Q).map a0x))) (ha:a=(P.length:Nat)) (hm:m=(P.length+A.length:Nat)) (hb:b=(P.length+A.length+B.length:Nat)) :
  Wp (a3J (.msl 3 o 0 N) (.int .i64 a) (.int .i64 m) (.int .i64 b) cmp g) fun p=>∃ C:List Rw,C.Perm (A++B)∧C.Pairwise S∧p.2[o]?=some (.row a0j 3 ((P++C++Q).map a0x))∧Same o g p.2:=by
 have hl:=hlen
 simp only [c8R] at hl
 obtain ⟨mid,hmid⟩:∃ mid:Nat,mid=(P.length+(P.length+A.length+B.length)) / 2:=⟨_,rfl⟩
 obtain ⟨mm,hmm⟩:∃ mm:Nat,mm=P.length+A.length:=⟨_,rfl⟩
 obtain ⟨bb,hbb⟩:∃ bb:Nat,bb=P.length+A.length+B.length:=⟨_,rfl⟩
 rw [← hmm] at hm
 rw [← hbb] at hb
 subst ha hm hb
 obtain ⟨u1,u2,u3,u4⟩:=@a4b P.length bb (by omega) (by omega)
 rw [← show mid=(P.length+bb) / 2 by rw [hmid,hbb]] at u3 u4
 have w1:IntKind.wrap .i64 ((mid:Int)+(mm:Int))=((mid+mm:Nat):Int):=by rw [wrap_i64 (by omega) (by omega)];omega
 have w2:IntKind.wrap .i64 (((mid+mm:Nat):Int) - 1)=((mid+(P.length+A.length) - 1:Nat):Int):=by rw [wrap_i64 (by omega) (by omega)];omega
 simp only [a3J,bs,c8N,a0p,u1,a2L,u2,a2k,show ¬ (1:Int)<0 by omega,if_false,u3,a2K,u4,w1,a1c]
 refine Wp.join (P:=fun r=>r.1 = .nrm∧r.2.2=g∧∃ s0 r0:Nat,r.2.1=[.int .i64 (s0:Int),.int .i64 (r0:Int)]∧((P.length+A.length>mid∧s0+B.length=mid∧r0=mid)∨(P.length+A.length≤mid∧s0=P.length∧r0=P.length+A.length))) ?_ ?_ ?_
 ·intro h0
  have h0:mid<mm:=by
   have:(mm:Int)>(mid:Int):=by simpa using h0
   omega
  have w3:IntKind.wrap .i64 (((mid+mm:Nat):Int) - (bb:Int))=((mid - B.length:Nat):Int):=by rw [wrap_i64 (by omega) (by omega)];omega
  simp only [a0E,w3,bs]
  exact .some ⟨rfl,rfl,mid - B.length,mid,rfl,.inl ⟨by omega,by omega,rfl⟩⟩
 ·intro h0
  have h0:¬ mid<mm:=by
   have:¬ (mm:Int)>(mid:Int):=by simpa using h0
   omega
  exact .some ⟨rfl,rfl,P.length,mm,rfl,.inr ⟨by omega,rfl,hmm⟩⟩
 rintro ⟨ex,ds,g'⟩ ⟨rfl,q2,s0,r0,rfl,hs⟩
 simp only at q2
 subst q2
 simp only [a0l,a0E,w2,bs,a0e,a0h,c8N]
 refine b6S hN hlen hA hB ho cmp c hcmp mid s0 r0 hmid hs _ rfl _ _ _ fun k b1 b2 b3 A1 A2 B1 B2 eA eB ek em h1 h2=>?_
 subst eA eB
 simp only [c8R] at *
 have w4:IntKind.wrap .i64 (((mid+mm:Nat):Int) - (k:Int))=((mm+B1.length:Nat):Int):=by rw [wrap_i64 (by omega) (by omega)];omega
 simp only [a0m,a0l,bs,a0e,a0h,c8N,a0E,w4,a0n,a4h]
 rw [List.pairwise_append] at sA sB
 -- the rotation
 refine Wp.bind (P:=fun r=>r.1 = .nrm∧r.2.2[o]?=some (.row a0j 3 ((P++A1++B1++A2++B2++Q).map a0x))∧Same o g' r.2.2) ?_ ?_
 ·by_cases c1:0<A2.length
  ·have d1:decide ((k:Int)<(mm:Int))=true:=decide_eq_true (by omega)
   by_cases c2:0<B1.length
   ·have d2:decide ((mm:Int)<((mm+B1.length:Nat):Int))=true:=decide_eq_true (by omega)
    simp only [d1,d2,Bool.and_self,a0f,if_true]
    refine c4G (P:=P++A1) (U:=A2) (V:=B1) (Q:=B2++Q) hN (by simp only [c8R];omega) c1 c2 (by rw [ho];simp [-bind_some]) cmp _ _ _ (by simp only [c8R];omega) (by simp only [c8R];omega) (by simp only [c8R];omega) fun g1 p1 s1=>?_
    exact .some ⟨rfl,by simp only [p1];simp [-bind_some],s1⟩
   ·have e2:B1=[]:=List.eq_nil_of_length_eq_zero (by omega)
    subst e2
    have d2:decide ((mm:Int)<((mm+([]:List Rw).length:Nat):Int))=false:=decide_eq_false (by simp)
    simp only [d1,d2,Bool.and_false,a0f,c8O,if_false]
    exact .some ⟨rfl,by simp only [ho];simp [-bind_some],.refl _ _⟩
  ·have e2:A2=[]:=List.eq_nil_of_length_eq_zero (by omega)
   subst e2
   have d1:decide ((k:Int)<(mm:Int))=false:=decide_eq_false (by simp only [c9e] at *;omega)
   simp only [d1,Bool.false_and,a0f,c8O,if_false]
   exact .some ⟨rfl,by simp only [ho];simp [-bind_some],.refl _ _⟩
 rintro ⟨ex,ds,g1⟩ ⟨rfl,p1,s1⟩
 simp only [a0l,bs,c8N,a0n,a4h]
 -- the first half
 refine Wp.bind (P:=fun r=>r.1 = .nrm∧∃ C1:List Rw,C1.Perm (A1++B1)∧C1.Pairwise S∧r.2.2[o]?=some (.row a0j 3 ((P++C1++(A2++B2++Q)).map a0x))∧Same o g' r.2.2) ?_ ?_
 ·by_cases c1:0<A1.length
  ·have d1:decide (((P.length:Nat):Int)<(k:Int))=true:=decide_eq_true (by omega)
   by_cases c2:0<B1.length
   ·have d2:decide ((k:Int)<(mid:Int))=true:=decide_eq_true (by omega)
    simp only [d1,d2,Bool.and_self,a0f,if_true]
    refine Wp.bind (ih g1 P A1 B1 (A2++B2++Q) _ _ _ (by omega) (by simp only [c8R];omega) c1 c2 sA.1 sB.1 (fun x hx y hy=>hp x (by simp [-bind_some, hx]) y (by simp [-bind_some, hy])) (by rw [p1];simp [-bind_some]) rfl (by omega) (by omega)) ?_
    rintro ⟨d,g2⟩ ⟨C,q1,q2,q3,q4⟩
    exact .some ⟨rfl,C,q1,q2,q3,s1.trans q4⟩
   ·have e2:B1=[]:=List.eq_nil_of_length_eq_zero (by omega)
    subst e2
    have d2:decide ((k:Int)<(mid:Int))=false:=decide_eq_false (by simp only [c9e] at *;omega)
    simp only [d1,d2,Bool.and_false,a0f,c8O,if_false]
    exact .some ⟨rfl,A1,by simp,sA.1,by simp only [p1];simp [-bind_some],s1⟩
  ·have e2:A1=[]:=List.eq_nil_of_length_eq_zero (by omega)
   subst e2
   have d1:decide (((P.length:Nat):Int)<(k:Int))=false:=decide_eq_false (by simp only [c9e] at *;omega)
   simp only [d1,Bool.false_and,a0f,c8O,if_false]
   exact .some ⟨rfl,B1,by simp,sB.1,by simp only [p1];simp [-bind_some],s1⟩
 rintro ⟨ex,ds,g2⟩ ⟨rfl,C1,r1,r2,p2,s2⟩
 have lC1:C1.length=A1.length+B1.length:=by rw [r1.length_eq];simp [-bind_some]
 simp only [a0l,bs,c8N,a0n,a4h]
 -- the second half
 refine Wp.bind (P:=fun r=>r.1 = .nrm∧∃ C2:List Rw,C2.Perm (A2++B2)∧C2.Pairwise S∧r.2.2[o]?=some (.row a0j 3 ((P++(C1++C2)++Q).map a0x))∧Same o g' r.2.2) ?_ ?_
 ·by_cases c1:0<A2.length
  ·have d1:decide ((mid:Int)<((mm+B1.length:Nat):Int))=true:=decide_eq_true (by omega)
   by_cases c2:0<B2.length
   ·have d2:decide (((mm+B1.length:Nat):Int)<(bb:Int))=true:=decide_eq_true (by omega)
    simp only [d1,d2,Bool.and_self,a0f,if_true]
    refine Wp.bind (ih g2 (P++C1) A2 B2 Q _ _ _ (by omega) (by simp only [c8R];omega) c1 c2 sA.2.1 sB.2.1 (fun x hx y hy=>hp x (by simp [-bind_some, hx]) y (by simp [-bind_some, hy])) (by rw [p2];simp [-bind_some]) (by simp only [c8R];omega) (by simp only [c8R];omega) (by simp only [c8R];omega)) ?_
    rintro ⟨d,g3⟩ ⟨C,q1,q2,q3,q4⟩
    exact .some ⟨rfl,C,q1,q2,by rw [q3];simp [-bind_some],s2.trans q4⟩
   ·have e2:B2=[]:=List.eq_nil_of_length_eq_zero (by omega)
    subst e2
    have d2:decide (((mm+B1.length:Nat):Int)<(bb:Int))=false:=decide_eq_false (by simp only [c9e] at *;omega)
    simp only [d1,d2,Bool.and_false,a0f,c8O,if_false]
    exact .some ⟨rfl,A2,by simp,sA.2.1,by simp only [p2];simp [-bind_some],s2⟩
  ·have e2:A2=[]:=List.eq_nil_of_length_eq_zero (by omega)
   subst e2
   have d1:decide ((mid:Int)<((mm+B1.length:Nat):Int))=false:=decide_eq_false (by simp only [c9e] at *;omega)
   simp only [d1,Bool.false_and,a0f,c8O,if_false]
   exact .some ⟨rfl,B2,by simp,sB.2.1,by simp only [p2];simp [-bind_some],s2⟩
 rintro ⟨ex,ds,g3⟩ ⟨rfl,C2,r3,r4,p3,s3⟩
 simp only [a1I,bs]
 obtain ⟨v1,v2⟩:=b5Q od (List.pairwise_append.2 sA) (List.pairwise_append.2 sB) hp h1 h2 r1 r2 r3 r4
 exact .some ⟨C1++C2,v1,v2,p3,s3⟩
theorem b8b {c:Rw→Rw→Int} {S Pre:Rw→Rw→Prop} (od:SOrd c S Pre) {cmp:D} (hcmp:a6t cmp c) {o N:Nat} (hN:N≤1000000000):∀ n,a9O c S Pre cmp o N n
 | 0=>fun g P A B Q a m b h0 _ h1=>by omega
 | n + 1 => fun g P A B Q a m b h0 hlen hA hB sA sB hp ho ha hm hb=>by
  have ih:=b8b od hcmp (o:=o) hN n
  have hl:=hlen
  simp only [c8R] at hl
  by_cases c1:A.length=1
  ·obtain ⟨x,rfl⟩:=List.length_eq_one_iff.1 c1
   have := c0N (g:=g) (o:=o) (N:=N) (P:=P) (B:=B) (Q:=Q) (x:=x) hN (by simpa using hlen) (by simpa using ho) cmp c hcmp a m b ha (by rw [hm];rfl) (by rw [hb];rfl) (f:=some) (R1:=fun p=>∃ C:List Rw,C.Perm ([x]++B)∧C.Pairwise S∧p.2[o]?=some (.row a0j 3 ((P++C++Q).map a0x))∧Same o g p.2)
    (fun g' B1 B2 e h1 h2 p1 s1 => .some ⟨B1++x::B2,by rw [e];exact List.perm_middle,by
     subst e
     rw [List.pairwise_append] at sB ⊢
     refine ⟨sB.1,List.pairwise_cons.2 ⟨?_,sB.2.1⟩,?_⟩
     ·rcases h2 with rfl | ⟨y,r,rfl,hy⟩
      ·intro z hz;cases hz
      ·have hxy:=od.ge x y (hp x (by simp) y (by simp)) hy
       intro z hz
       rcases c9h.1 hz with rfl | hz
       ·exact hxy
       ·exact od.tr _ _ _ hxy ((List.pairwise_cons.1 sB.2.1).1 z hz)
     ·have hx1:∀ u∈B1,S u x:=by
        rcases h1 with rfl | ⟨y,r,rfl,hy⟩
        ·intro z hz;cases hz
        ·have hyx:=od.lt x y (hp x (by simp) y (by simp)) hy
         intro z hz
         rcases c9i.1 hz with hz | hz
         ·exact od.tr _ _ _ ((List.pairwise_append.1 sB.1).2.2 z hz y (by simp)) hyx
         ·simp at hz;subst hz;exact hyx
      intro u hu v hv
      rcases c9h.1 hv with rfl | hv
      ·exact hx1 u hu
      ·exact sB.2.2 u hu v hv,by rw [p1],s1⟩)
   rwa [show ∀ x:Option (D × Hp),x.bind some=x from fun x=>by cases x <;> rfl] at this
  ·by_cases c2:B.length=1
   ·obtain ⟨x,rfl⟩:=List.length_eq_one_iff.1 c2
    have:=c0O (g:=g) (o:=o) (N:=N) (P:=P) (A:=A) (Q:=Q) (x:=x) hN (by simpa using hlen) c1 (by simpa using ho) cmp c hcmp a m b ha (by rw [hm]) (by rw [hb];rfl) (f:=some) (R1:=fun p=>∃ C:List Rw,C.Perm (A++[x])∧C.Pairwise S∧p.2[o]?=some (.row a0j 3 ((P++C++Q).map a0x))∧Same o g p.2)
     (fun g' A1 A2 e h1 h2 p1 s1 => .some ⟨A1++x::A2,by rw [e];exact List.perm_middle.trans (by simpa using (List.perm_append_comm (l₁:=[x]) (l₂:=A1++A2))),b0B od (by rw [← e];exact sA) (fun y hy=>hp y (by rw [e];exact hy) x (by simp)) h2 h1,by rw [p1],s1⟩)
    rwa [show ∀ x:Option (D × Hp),x.bind some=x from fun x=>by cases x <;> rfl] at this
   ·have r:=c0P od hcmp hN ih h0 hlen hA hB sA sB hp ho ha hm hb
    rw [b6W]
    have v1:IntKind.wrap .i64 (m - a)=(A.length:Int):=by rw [hm,ha,wrap_i64 (by omega) (by omega)];omega
    have v2:IntKind.wrap .i64 (b - m)=(B.length:Int):=by rw [hm,hb,wrap_i64 (by omega) (by omega)];omega
    have d1:decide ((A.length:Int)=1)=false:=decide_eq_false (by omega)
    have d2:decide ((B.length:Int)=1)=false:=decide_eq_false (by omega)
    simp only [b3K,a3I,bs,a0E,v1,v2,a0S,d1,d2,a0f,c8O,if_false]
    exact r
theorem b2u {c:Rw→Rw→Int} {S Pre:Rw→Rw→Prop} (od:SOrd c S Pre) {cmp:D} (hcmp:a6t cmp c) {o N:Nat} (hN:N≤1000000000) {g:Hp} {P A Q:List Rw} (hlen:(P++A++Q).length=N) (hA:A.Pairwise Pre)
  (ho:g[o]?=some (.row a0j 3 ((P++A++Q).map a0x))) (a b:Int) (ha:a=P.length) (hb:b=(P.length+A.length:Nat)) :
  Wp (R a5d [.msl 3 o 0 N,.int .i64 a,.int .i64 b,cmp] g) fun p=>∃ C:List Rw,C.Perm A∧C.Pairwise S∧p.2[o]?=some (.row a0j 3 ((P++C++Q).map a0x))∧Same o g p.2:=by
 subst ha hb
 have hl:=hlen
 simp only [c8R] at hl
 obtain ⟨d,h',e,p1,s1⟩:=c4a c cmp hcmp o N P.length (P.length+A.length) hN (by omega) (by omega) _ hlen g ho
 refine ⟨(d,h'),e,?_⟩
 cases A with
 | nil =>
  refine ⟨[],by simp,List.Pairwise.nil,?_,s1⟩
  rw [p1]
  simp [-bind_some, isr]
 | cons x A =>
  obtain ⟨C,q1,q2,q3⟩:=b2v od P Q A [x] (by simp) (fun u hu v hv=>by simp at hu;subst hu;exact (List.pairwise_cons.1 hA).1 v hv) (List.pairwise_cons.1 hA).2
  refine ⟨C,q2,q3,?_,s1⟩
  rw [p1]
  have e1:P.length+(x::A).length - (P.length+1)=A.length:=by simp;omega
  rw [e1]
  have e2:P++x::A++Q=P++[x]++A++Q:=by simp
  rw [e2]
  exact congrArg (fun z:List Rw=>some (Ob.row a0j 3 (z.map a0x))) q1
theorem c4F {c:Rw→Rw→Int} {S Pre:Rw→Rw→Prop} (od:SOrd c S Pre) {cmp:D} (hcmp:a6t cmp c) {o N:Nat} (hN:N≤1000000000) {g:Hp} {l:List Rw} (hl:l.length=N) (hpre:l.Pairwise Pre)
  (ho:g[o]?=some (.row a0j 3 (l.map a0x))):Wp (R b0i [.msl 3 o 0 N,.int .i64 N,cmp] g) fun p=>∃ C:List Rw,C.Perm l∧C.Pairwise S∧p.2[o]?=some (.row a0j 3 (C.map a0x))∧Same o g p.2:=by
 rw [b9F]
 simp only [b6w,bs,c8N]
 refine Wp.loop (fun n ds g'=>∃ u,∃ X Y:List Rw,ds=[.int .i64 (X.length:Nat),.int .i64 ((X.length+20:Nat):Int),u]∧n=Y.length∧(X++Y).Perm l∧Y.Pairwise Pre∧CtxB S Pre 20 X Y∧g'[o]?=some (.row a0j 3 ((X++Y).map a0x))∧Same o g g')
  (fun r=>r.1 = .ext 0∧∃ u,∃ X Y:List Rw,r.2.1=[.int .i64 (X.length:Nat),.int .i64 ((X.length+20:Nat):Int),u]∧Y.length<20∧(X++Y).Perm l∧Y.Pairwise Pre∧CtxB S Pre 20 X Y∧r.2.2[o]?=some (.row a0j 3 ((X++Y).map a0x))∧Same o g r.2.2)
  l.length ⟨_,[],l,rfl,rfl,by simp,hpre,CtxB.nil,by simpa using ho,.refl _ _⟩ ?_ ?_
 ·rintro n ds g' ⟨u,X,Y,rfl,rfl,hp,hY,hc,ho',sm⟩
  have hXY:X.length+Y.length=N:=by rw [← hl,← hp.length_eq];simp [-bind_some]
  simp only [a6w,a0e,a0h,bs,c8N,a2x]
  refine Wp.dif ?_ ?_
  ·intro h0
   have h0:20≤Y.length:=by
    have:((X.length+20:Nat):Int)≤(N:Int):=by simpa using h0
    omega
   obtain ⟨A,Y',rfl,hA⟩:∃ A Y',Y=A++Y'∧A.length=20:=⟨Y.take 20,Y.drop 20,(List.take_append_drop _ _).symm,by simp;omega⟩
   obtain ⟨y1,y2,y3⟩:=a8t hY
   simp only [c8R] at hXY h0
   refine Wp.bind (b2u od hcmp hN (P:=X) (A:=A) (Q:=Y') (by simp only [c8R];omega) y1 (by rw [ho'];simp [-bind_some]) _ _ rfl (by omega)) ?_
   rintro ⟨d,g2⟩ ⟨C,q1,q2,q3,q4⟩
   have lC:C.length=20:=by rw [q1.length_eq,hA]
   have w1:IntKind.wrap .i64 (((X.length+20:Nat):Int)+20)=((X.length+20+20:Nat):Int):=by rw [wrap_i64 (by omega) (by omega)];omega
   simp only [a0p,w1,bs]
   have eX:(X++C).length=X.length+20:=by simp [-bind_some, lC]
   refine .some (.inl ⟨rfl,Y'.length,by simp only [c8R];omega,_,X++C,Y',by rw [eX],rfl,?_,y2,hc.step q1 lC q2 y3,q3,sm.trans q4⟩)
   refine List.Perm.trans ?_ hp
   rw [List.append_assoc]
   exact (q1.append_right Y').append_left X
  ·intro h0
   have h0:¬ 20≤Y.length:=by
    have:¬ ((X.length+20:Nat):Int)≤(N:Int):=by simpa using h0
    omega
   exact .some (.inr ⟨by simp,rfl,_,X,Y,rfl,by omega,hp,hY,hc,ho',sm⟩)
 rintro ⟨ex,ds,g1⟩ ⟨rfl,u,X,Y,rfl,hYl,hp,hY,hc,ho1,s1⟩
 have hXY:X.length+Y.length=N:=by rw [← hl,← hp.length_eq];simp [-bind_some]
 simp only [a0m,a0l,a0e,a0h,bs]
 refine Wp.bind (b2u od hcmp hN (P:=X) (A:=Y) (Q:=[]) (by simp only [c8R,c9e];omega) hY (by simpa using ho1) _ _ rfl (by omega)) ?_
 rintro ⟨d,g2⟩ ⟨C,q1,q2,q3,q4⟩
 have bl:Blk S Pre 20 (X++C):=hc.done q1 (by rw [q1.length_eq];omega) q2
 have hpZ:(X++C).Perm l:=(q1.append_left X).trans hp
 have q3:g2[o]?=some (.row a0j 3 ((X++C).map a0x)):=by simpa using q3
 have s2:Same o g g2:=s1.trans q4
 generalize X++C=Z at bl hpZ q3
 clear q1 q2 hc hY ho1 s1 q4
 simp only [bs,c8N]
 refine Wp.loop (fun n ds g'=>∃ u1 u2 u3 u4 u5 u6,∃ k:Nat,∃ Z:List Rw,ds=[.int .i64 (k:Int),u1,u2,u3,u4,u5,u6]∧n=N - k∧0<k∧k≤2000000000∧Z.Perm l∧Blk S Pre k Z∧g'[o]?=some (.row a0j 3 (Z.map a0x))∧Same o g g')
  (fun r=>r.1 = .ext 2∧∃ u1 u2 u3 u4 u5 u6 u7,r.2.1=[u1,u2,u3,u4,u5,u6,u7]∧∃ Z:List Rw,Z.Perm l∧Z.Pairwise S∧r.2.2[o]?=some (.row a0j 3 (Z.map a0x))∧Same o g r.2.2)
  (N - 20) ⟨_,_,_,_,_,_,20,Z,rfl,rfl,by omega,by omega,hpZ,bl,q3,s2⟩ ?_ ?_
 ·clear q3 s2 bl hpZ Z hXY hp
  rintro n ds g3 ⟨u1,u2,u3,u4,u5,u6,k,Z,rfl,rfl,k0,k1,hp,bl,ho3,s3⟩
  have lZ:Z.length=N:=by rw [hp.length_eq,hl]
  simp only [a6x,a0e,a0h,bs,c8N,a0n]
  refine Wp.dif ?_ ?_
  ·intro h0
   have h0:k<N:=by
    have:(k:Int)<(N:Int):=by simpa using h0
    omega
   have w1:IntKind.wrap .i64 ((2:Int)*(k:Int))=((2*k:Nat):Int):=by rw [wrap_i64 (by omega) (by omega)];omega
   simp only [a4H,w1,bs,c8N]
   refine Wp.loop (fun n ds g'=>∃ u,∃ X Y:List Rw,ds=[.int .i64 (X.length:Nat),.int .i64 ((X.length+2*k:Nat):Int),u]∧n=Y.length∧(X++Y).Perm l∧Blk S Pre k Y∧CtxB S Pre (2*k) X Y∧g'[o]?=some (.row a0j 3 ((X++Y).map a0x))∧Same o g g')
    (fun r=>r.1 = .ext 4∧∃ u v,∃ X Y:List Rw,r.2.1=[.int .i64 (X.length:Nat),u,v]∧Y.length<2*k∧(X++Y).Perm l∧Blk S Pre k Y∧CtxB S Pre (2*k) X Y∧r.2.2[o]?=some (.row a0j 3 ((X++Y).map a0x))∧Same o g r.2.2)
    N ⟨u5,[],Z,by simp,lZ.symm,by simpa using hp,bl,CtxB.nil,by simpa using ho3,s3⟩ ?_ ?_
   ·rintro n ds g4 ⟨u,X,Y,rfl,rfl,hp4,bl4,hc4,ho4,s4⟩
    have hXY:X.length+Y.length=N:=by rw [← hl,← hp4.length_eq];simp [-bind_some]
    simp only [a9q,a0e,a0h,bs,c8N,a2x]
    refine Wp.dif ?_ ?_
    ·intro h1
     have h1:2*k≤Y.length:=by
      have:((X.length+2*k:Nat):Int)≤(N:Int):=by simpa using h1
      omega
     obtain ⟨A,Y1,rfl,lA,sA,pA,bY1⟩:=bl4.fst (by omega)
     simp only [c8R] at hXY h1
     obtain ⟨B,Y2,rfl,lB,sB,pB,bY2⟩:=bY1.fst (by omega)
     simp only [c8R] at hXY h1
     have w2:IntKind.wrap .i64 ((X.length:Int)+(k:Int))=((X.length+A.length:Nat):Int):=by rw [wrap_i64 (by omega) (by omega)];omega
     simp only [a0p,w2,bs,c8N]
     refine Wp.bind (b8b od hcmp hN (A.length+B.length) g4 X A B Y2 _ _ _ (Nat.le_refl _) (by simp only [c8R];omega) (by omega) (by omega) sA sB (fun x hx y hy=>pA x hx y (by simp [-bind_some, hy])) (by rw [ho4];simp [-bind_some]) rfl rfl (by omega)) ?_
     rintro ⟨d,g5⟩ ⟨C,q1,q2,q3,q4⟩
     have lC:C.length=2*k:=by rw [q1.length_eq,c8R];omega
     have w3:IntKind.wrap .i64 (((X.length+2*k:Nat):Int)+((2*k:Nat):Int))=((X.length+2*k+2*k:Nat):Int):=by rw [wrap_i64 (by omega) (by omega)];omega
     simp only [a4H,a0p,w1,w3,bs]
     have eX:(X++C).length=X.length+2*k:=by simp [-bind_some, lC]
     refine .some (.inl ⟨rfl,Y2.length,by simp only [c8R];omega,_,X++C,Y2,by rw [eX],rfl,?_,bY2,CtxB.step (A:=A++B) (by rw [List.append_assoc];exact hc4) q1 lC q2 (fun x hx y hy=>?_),q3,s4.trans q4⟩)
     ·refine List.Perm.trans ?_ hp4
      rw [List.append_assoc,← List.append_assoc A B Y2]
      exact (q1.append_right Y2).append_left X
     ·rcases c9i.1 hx with hx | hx
      ·exact pA x hx y (by simp [-bind_some, hy])
      ·exact pB x hx y hy
    ·intro h1
     have h1:¬ 2*k≤Y.length:=by
      have:¬ ((X.length+2*k:Nat):Int)≤(N:Int):=by simpa using h1
      omega
     exact .some (.inr ⟨by simp,rfl,_,_,X,Y,rfl,by omega,hp4,bl4,hc4,ho4,s4⟩)
   rintro ⟨ex,ds,g4⟩ ⟨rfl,u,v,X,Y,rfl,hYl,hp4,bl4,hc4,ho4,s4⟩
   have hXY:X.length+Y.length=N:=by rw [← hl,← hp4.length_eq];simp [-bind_some]
   have w2:IntKind.wrap .i64 ((X.length:Int)+(k:Int))=((X.length+k:Nat):Int):=by rw [wrap_i64 (by omega) (by omega)];omega
   have w4:IntKind.wrap .i64 ((k:Int)*2)=((2*k:Nat):Int):=by rw [wrap_i64 (by omega) (by omega)];omega
   simp only [a0m,a0l,a0e,a0h,bs,a0p,w2,a0n,c8N]
   refine Wp.bind (P:=fun r=>r.1 = .nrm∧∃ Z:List Rw,Z.Perm l∧Blk S Pre (2*k) Z∧r.2.2[o]?=some (.row a0j 3 (Z.map a0x))∧Same o g r.2.2) ?_ ?_
   ·by_cases hm:X.length+k<N
    ·have d1:decide (((X.length+k:Nat):Int)<(N:Int))=true:=decide_eq_true (by omega)
     obtain ⟨A,B,rfl,lA,sA,pA,bB⟩:=bl4.fst (by omega)
     simp only [c8R] at hXY hYl
     have sB:B.Pairwise S:=bB.all (by omega)
     simp only [d1,a0f,if_true]
     refine Wp.bind (b8b od hcmp hN (A.length+B.length) g4 X A B [] _ _ _ (Nat.le_refl _) (by simp only [c8R,c9e];omega) (by omega) (by omega) sA sB pA (by rw [ho4];simp [-bind_some]) rfl (by omega) (by omega)) ?_
     rintro ⟨d,g5⟩ ⟨C,q1,q2,q3,q4⟩
     refine .some ⟨rfl,X++C,(q1.append_left X).trans hp4,hc4.done q1 (by rw [q1.length_eq,c8R];omega) q2,by simpa using q3,s4.trans q4⟩
    ·have d1:decide (((X.length+k:Nat):Int)<(N:Int))=false:=decide_eq_false (by omega)
     simp only [d1,a0f,c8O,if_false]
     exact .some ⟨rfl,X++Y,hp4,hc4.done (List.Perm.refl _) (by omega) (bl4.all (by omega)),ho4,s4⟩
   rintro ⟨ex,ds,g5⟩ ⟨rfl,Z2,hp5,bl5,ho5,s5⟩
   simp only [a0l,bs,w4]
   exact .some (.inl ⟨rfl,N - 2*k,by omega,_,_,_,_,_,_,2*k,Z2,rfl,rfl,by omega,by omega,hp5,bl5,ho5,s5⟩)
  ·intro h0
   have h0:¬ k<N:=by
    have:¬ (k:Int)<(N:Int):=by simpa using h0
    omega
   exact .some (.inr ⟨by simp,rfl,_,_,_,_,_,_,_,rfl,Z,hp,bl.all (by omega),ho3,s3⟩)
 rintro ⟨ex,ds,g3⟩ ⟨rfl,u1,u2,u3,u4,u5,u6,u7,rfl,Z3,hp3,sZ,ho3,s3⟩
 simp only [a0m,a1I,bs]
 exact .some ⟨Z3,hp3,sZ,ho3,s3⟩
def a0W:List Str→List Str→Int
 | [],[]=>0
 | [],_::_ => -1
 | _::_,[]=>1
 | a::x,b::y=>if a3R a b=0 then a0W x y else a3R a b
theorem a2E (a b:Str):a3R a b=0↔a=b:=by
 unfold a3R
 by_cases h:Op.bytesLess a b=true
 ·simp only [h,if_true]
  constructor
  ·intro h;cases h
  ·rintro rfl;rw [a5H] at h;cases h
 ·by_cases h2:a=b <;> simp [-bind_some, h,h2,a5H]
theorem b4i (a b:Str):a3R b a = - a3R a b:=by
 unfold a3R
 by_cases h:Op.bytesLess a b=true
 ·have h2:Op.bytesLess b a=false:=by
    cases hh:Op.bytesLess b a
    ·rfl
    ·have:=b6L h hh;rw [a5H] at this;cases this
  have h3:¬ b=a:=by rintro rfl;rw [a5H] at h;cases h
  simp [-bind_some, h,h2,h3]
 ·have h:Op.bytesLess a b=false:=by simpa using h
  by_cases h2:a=b
  ·subst h2;simp [-bind_some, h]
  ·have:=b5t h h2
   simp [-bind_some, h,h2,this]
theorem b6P (a b:Str):a3R a b<0↔Op.bytesLess a b=true:=by
 unfold a3R
 by_cases h:Op.bytesLess a b=true
 ·simp [-bind_some, h]
 ·by_cases h2:a=b <;> simp [-bind_some, h,h2,a5H]
theorem b6Q {a b c:Str} (h:a3R a b<0) (k:a3R b c<0):a3R a c<0:=by
 rw [b6P] at *
 exact b6L h k
theorem a1r:∀ (x y:List Str),a0W x y=0↔x=y
 | [],[]=>by simp [-bind_some, a0W]
 | [],_::_=>by simp [-bind_some, a0W]
 | _::_,[]=>by simp [-bind_some, a0W]
 | a::x,b::y=>by
  have ih:=a1r x y
  unfold a0W
  by_cases h:a3R a b=0
  ·rw [if_pos h,ih]
   have:=(a2E a b).1 h
   simp [-bind_some, this]
  ·rw [if_neg h]
   have h2:¬ a=b:=fun hh=>h ((a2E a b).2 hh)
   simp [-bind_some, h,h2]
theorem a2g:∀ (x y:List Str),a0W y x = - a0W x y
 | [],[]=>rfl
 | [],_::_=>rfl
 | _::_,[]=>rfl
 | a::x,b::y=>by
  have ih:=a2g x y
  unfold a0W
  rw [b4i a b]
  by_cases h:a3R a b=0
  ·rw [if_pos h,if_pos (by omega),ih]
  ·rw [if_neg h,if_neg (by omega)]
theorem a3C:∀ {x y z:List Str},a0W x y<0→a0W y z<0→a0W x z<0
 | [],[],_,h,_=>by simp [-bind_some, a0W] at h
 | _::_,[],_,h,_=>by simp [-bind_some, a0W] at h
 | _,_::_,[],_,k=>by simp [-bind_some, a0W] at k
 | [],_::_,_::_,_,_=>by simp [-bind_some, a0W]
 | a::x,b::y,c::z,h,k=>by
  unfold a0W at h k ⊢
  by_cases h1:a3R a b=0
  ·rw [if_pos h1] at h
   have e:=(a2E a b).1 h1
   subst e
   by_cases k1:a3R a c=0
   ·rw [if_pos k1] at k ⊢
    exact a3C h k
   ·rw [if_neg k1] at k ⊢
    exact k
  ·rw [if_neg h1] at h
   by_cases k1:a3R b c=0
   ·have e:=(a2E b c).1 k1
    subst e
    rw [if_neg h1];exact h
   ·rw [if_neg k1] at k
    have:=b6Q h k
    rw [if_neg (by omega)]
    exact this
theorem a4d (s:Str) (h:Hp):a0c tab h ty9 (.fptr [.str s])=some (.str s):=id rfl
theorem a1n {α:Type} {l:List α} {i:Nat} {x:α} (h:l[i]?=some x):l.drop i=x::l.drop (i+1):=by
 obtain ⟨hn,hh⟩:=c9c.1 h
 rw [List.drop_eq_getElem_cons hn,hh]
theorem c3Z (x y:List Str) (dx dy:D) (h:Hp) (hx:SlOf 1 (fun s=>[D.str s]) x dx) (hy:SlOf 1 (fun s=>[D.str s]) y dy) (hl:x.length≤1000000) (hl2:y.length≤1000000):R b2c [dx,dy] h=some (.int .i64 (a0W x y),h):=by
 apply Wp.val
 rw [c2p]
 simp only [b8L,bs,c8N,a1C hx]
 generalize hV:a0W x y=V
 refine Wp.loop (fun k ds g=>g=h∧∃ a b c d e f1 f2 f3,∃ i:Nat,ds=[a,b,c,d,e,.int .i64 i,f1,f2,f3]∧k+i=x.length∧i≤y.length∧a0W (x.drop i) (y.drop i)=V)
  (fun r=>r.2.2=h∧((r.1 = .ret∧nth 0 r.2.1 = .int .i64 V)∨(r.1 = .ext 0∧x.length≤y.length∧V=if x.length<y.length then -1 else 0))) x.length ⟨rfl,_,_,_,_,_,_,_,_,0,rfl,by omega,by omega,hV⟩ ?_ ?_
 ·rintro k ds g ⟨rfl,a,b,c,d,e,f1,f2,f3,i,rfl,hk,hi,hV⟩
  simp only [a9r,a0e,a0h,bs,c8N,a0n]
  refine Wp.dif ?_ ?_
  ·intro h0
   have h0:i<x.length:=dl_ h0
   obtain ⟨u,hu⟩:=gx_ h0
   have hw:=wi_ i (by omega)
   simp only [a5n hx,a5n hy,Int.natCast_nonneg,if_true,c8V,hu,Option.map_some,bs,a4d,a1C hy,a9W]
   rw [a1n hu] at hV
   by_cases h1:i<y.length
   ·obtain ⟨v,hv⟩:=gx_ h1
    have d1:decide ((i:Int)≥(y.length:Int))=false:=decide_eq_false (by omega)
    rw [a1n hv] at hV
    unfold a0W at hV
    simp only [d1,a0f,c8O,if_false,hv,Option.map_some,bs,a4d,s91,a2d]
    by_cases h2:a3R u v=0
    ·rw [if_pos h2] at hV
     simp only [h2,ne_eq,not_true,decide_false,a0f,c8O,if_false,a0p,hw,bs]
     exact .some (.inl ⟨rfl,k - 1,by omega,rfl,_,_,_,_,_,_,_,_,i+1,rfl,by omega,by omega,hV⟩)
    ·rw [if_neg h2] at hV
     simp only [h2,ne_eq,not_false_eq_true,decide_true,a0f,if_true]
     exact .some (.inr ⟨by simp,rfl,.inl ⟨rfl,by rw [← hV];rfl⟩⟩)
   ·have d1:decide ((i:Int)≥(y.length:Int))=true:=decide_eq_true (by omega)
    rw [List.drop_of_length_le (show y.length≤i by omega)] at hV
    simp only [d1,a0f,if_true]
    exact .some (.inr ⟨by simp,rfl,.inl ⟨rfl,by rw [← hV];rfl⟩⟩)
  ·intro h0
   have h0:i=x.length:=by
    have:¬ (i:Int)<x.length:=by simpa using h0
    omega
   subst h0
   refine .some (.inr ⟨by simp,rfl,.inr ⟨rfl,hi,?_⟩⟩)
   rw [List.drop_length] at hV
   rw [← hV]
   by_cases h1:x.length<y.length
   ·obtain ⟨v,hv⟩:∃ v,y[x.length]?=some v:=⟨_,c9b h1⟩
    rw [a1n hv,if_pos h1];rfl
   ·rw [List.drop_of_length_le (by omega),if_neg h1];rfl
 ·rintro ⟨ex,ds,g⟩ ⟨h1,h2⟩
  simp only at h1 h2
  subst h1
  rcases h2 with ⟨rfl,hn⟩ | ⟨rfl,hle,hv⟩
  ·simp only [a2u,a2t,a2o,a0e,a0h,bs,hn,a0o]
   exact .some rfl
  ·simp only [a0m,a0l,bs,a1C hx,a1C hy,a0n]
   subst hv
   by_cases h1:x.length<y.length
   ·have d1:decide ((x.length:Int)<(y.length:Int))=true:=decide_eq_true (by omega)
    simp only [d1,a0f,if_true,h1,a0o]
    exact .some rfl
   ·have d1:decide ((x.length:Int)<(y.length:Int))=false:=decide_eq_false (by omega)
    simp only [d1,a0f,c8O,if_false,h1,a0o]
    exact .some rfl
theorem b3g (x y:List Str) (dx dy:D) (h:Hp) (hx:SlOf 1 (fun s=>[D.str s]) x dx) (hy:SlOf 1 (fun s=>[D.str s]) y dy) (hl:x.length≤1000000) (hl2:y.length≤1000000):R a5b [dx,dy] h=some (.int .i64 (a0W x y),h):=by
 rw [c2n]
 simp only [b8J,bs,c3Z x y dx dy h hx hy hl hl2,a0o]
theorem c3Y (x y:List Str) (dx dy:D) (h:Hp) (hx:SlOf 1 (fun s=>[D.str s]) x dx) (hy:SlOf 1 (fun s=>[D.str s]) y dy) (hl:x.length≤1000000) (hl2:y.length≤1000000):R a5c [dx,dy] h=some (.int .i64 (a0W x y),h):=by
 apply Wp.val
 rw [b9E]
 simp only [b6v,bs,c8N]
 generalize hV:a0W x y=V
 refine Wp.loop (fun k ds g=>g=h∧∃ a b c d,∃ i:Nat,ds=[a,.int .i64 i,b,c,d]∧k+i=x.length∧i≤y.length∧a0W (x.drop i) (y.drop i)=V)
  (fun r=>r.2.2=h∧((r.1 = .ret∧nth 0 r.2.1 = .int .i64 V)∨(r.1 = .ext 0∧V=if x.length<y.length then -1 else if x.length>y.length then 1 else 0))) x.length ⟨rfl,_,_,_,_,0,rfl,by omega,by omega,hV⟩ ?_ ?_
 ·rintro k ds g ⟨rfl,a,b,c,d,i,rfl,hk,hi,hV⟩
  simp only [a6v,a0e,a0h,bs,c8N,a1C hx,a1C hy,a0n]
  by_cases h0:i<x.length
  ·have d0:decide ((i:Int)<(x.length:Int))=true:=decide_eq_true (by omega)
   obtain ⟨u,hu⟩:=gx_ h0
   have hw:=wi_ i (by omega)
   rw [a1n hu] at hV
   by_cases h1:i<y.length
   ·obtain ⟨v,hv⟩:=gx_ h1
    have d1:decide ((i:Int)<(y.length:Int))=true:=decide_eq_true (by omega)
    rw [a1n hv] at hV
    unfold a0W at hV
    simp only [d0,a0N,if_true,bs,a1C hx,a1C hy,a0n,d1,a0B,a0f,a5n hx,a5n hy,Int.natCast_nonneg,c8V,hu,hv,Option.map_some,a4d,a4W,a0n,c4r]
    by_cases h2:Op.bytesLess u v=true
    ·have hc:a3R u v = -1:=by simp [-bind_some, a3R,h2]
     rw [if_neg (by omega),hc] at hV
     simp only [h2,a0f,if_true]
     exact .some (.inr ⟨by simp,rfl,.inl ⟨rfl,by rw [← hV];rfl⟩⟩)
    ·have h2:Op.bytesLess u v=false:=by simpa using h2
     by_cases h3:u=v
     ·subst h3
      rw [if_pos ((a2E u u).2 rfl)] at hV
      simp only [h2,a0f,c8O,if_false,beq_self_eq_true,Bool.or_true,c8W,a0p,hw,bs]
      exact .some (.inl ⟨rfl,k - 1,by omega,rfl,_,_,_,_,i+1,rfl,by omega,by omega,hV⟩)
     ·have hb:(u==v)=false:=by simpa using h3
      have hc:a3R u v=1:=by simp [-bind_some, a3R,h2,h3]
      rw [if_neg (by omega),hc] at hV
      simp only [h2,hb,a0f,c8O,if_false,Bool.or_self,c8X,if_true]
      exact .some (.inr ⟨by simp,rfl,.inl ⟨rfl,by rw [← hV];rfl⟩⟩)
   ·have d1:decide ((i:Int)<(y.length:Int))=false:=decide_eq_false (by omega)
    rw [List.drop_of_length_le (show y.length≤i by omega)] at hV
    simp only [d0,a0N,if_true,bs,a1C hx,a1C hy,a0n,d1,a0B,a0f,c8O,if_false]
    refine .some (.inr ⟨by simp,rfl,.inr ⟨rfl,?_⟩⟩)
    rw [← hV,if_neg (by omega),if_pos (by omega)];rfl
  ·have h0:i=x.length:=by omega
   subst h0
   have d0:decide ((x.length:Int)<(x.length:Int))=false:=decide_eq_false (by omega)
   simp only [d0,a0N,reduceCtorEq,if_false,bs,a0B,a0f,c8O]
   refine .some (.inr ⟨by simp,rfl,.inr ⟨rfl,?_⟩⟩)
   rw [List.drop_length] at hV
   rw [← hV]
   by_cases h1:x.length<y.length
   ·obtain ⟨v,hv⟩:∃ v,y[x.length]?=some v:=⟨_,c9b h1⟩
    rw [a1n hv,if_pos h1];rfl
   ·rw [List.drop_of_length_le (by omega),if_neg h1,if_neg (by omega)];rfl
 ·rintro ⟨ex,ds,g⟩ ⟨h1,h2⟩
  simp only at h1 h2
  subst h1
  rcases h2 with ⟨rfl,hn⟩ | ⟨rfl,hv⟩
  ·simp only [a2u,a2t,a2o,a0e,a0h,bs,hn,a0o]
   exact .some rfl
  ·simp only [a0m,a0l,bs,a1C hx,a1C hy,a0n,a1c]
   subst hv
   by_cases h1:x.length<y.length
   ·have d1:decide ((x.length:Int)<(y.length:Int))=true:=decide_eq_true (by omega)
    simp only [d1,a0f,if_true,h1,a0o]
    exact .some rfl
   ·have d1:decide ((x.length:Int)<(y.length:Int))=false:=decide_eq_false (by omega)
    by_cases h2:x.length>y.length
    ·have d2:decide ((x.length:Int)>(y.length:Int))=true:=decide_eq_true (by omega)
     simp only [d1,d2,a0f,c8O,if_false,if_true,h1,h2,a0o]
     exact .some rfl
    ·have d2:decide ((x.length:Int)>(y.length:Int))=false:=decide_eq_false (by omega)
     simp only [d1,d2,a0f,c8O,if_false,h1,h2,a0o]
     exact .some rfl
def a4u (r:Rw):Int:=r.n.head?.getD 0
theorem c3O (r:Rw):a0b tab a0j 0 (.fptr (a0x r))=some (.fptr (a0x r)):=id rfl
theorem c1t (r:Rw):a0b tab a0j 1 (.fptr (a0x r))=some (.fptr [r.nd,.int .i64 r.er]):=id rfl
theorem c7X (r:Rw):a0b tab a0j 2 (.fptr (a0x r))=some (.fptr [.int .i64 r.er]):=id rfl
theorem c3P (r:Rw) (h:Hp):a0c tab h a0D (.fptr (a0x r))=some r.kd:=by
 have h1:=a1L r.hk
 show a0c tab h a0D (.fptr [r.kd,r.nd,.int .i64 r.er])=_
 generalize r.kd=a at h1
 cases a <;> first | rfl | (simp [-bind_some, D.one] at h1)
theorem c1u (r:Rw) (h:Hp):a0c tab h a0Y (.fptr [r.nd,.int .i64 r.er])=some r.nd:=by
 have h1:=a1L r.hn
 generalize r.nd=a at h1
 cases a <;> first | rfl | (simp [-bind_some, D.one] at h1)
theorem c7Y (r:Rw) (h:Hp):a0c tab h ty3 (.fptr [.int .i64 r.er])=some (.int .i64 r.er):=id rfl
theorem rwL (r:Rw) (h:Hp):a0c tab h a0j (.fptr (a0x r))=some (.agg (a0x r)):=id rfl
theorem c0s (r:Rw):a1J (.agg (a0x r))=some (.fptr (a0x r)):=a2s _
theorem a6d (n:Int) (h:Hp):a0c tab h ty3 (.fptr [.int .i64 n])=some (.int .i64 n):=id rfl
theorem c3X (r:Rw) (h:Hp):R b0h [.agg (a0x r)] h=some (.int .i64 (a4u r),h):=by
 rw [c2m]
 simp only [b8I,c0s,bs,c1t,c1u,a8p r.hn,a0S]
 have hn:=r.hn
 unfold a4u
 cases hq:r.n with
 | nil=>simp only [c9e,Int.natCast_zero,decide_true,a0f,if_true,a0o,List.head?_nil,Option.getD_none]
 | cons z zs =>
  have d0:decide (((z::zs).length:Int)=0)=false:=decide_eq_false (by simp;omega)
  have hi:=a8W hn 0
  rw [hq] at hi
  simp only [d0,a0f,c8O,if_false,bs,hi,Int.le_refl,if_true,Int.toNat_zero,c8P,Option.map_some,inr,a6d,a0o,List.head?_cons,Option.getD_some]
def cR (x y:Rw):Int:=if a4z (a4u y) (a4u x)=0 then a0W x.k y.k else a4z (a4u y) (a4u x)
theorem c3W (x y:Rw) (h:Hp):R a7W [.agg (a0x x),.agg (a0x y)] h=some (.int .i64 (cR x y),h):=by
 rw [c2l]
 have hs:SlOf 1 inr [a4z (a4u y) (a4u x),a0W x.k y.k] (.sl 1 true [[.int .i64 (a4z (a4u y) (a4u x))],[.int .i64 (a0W x.k y.k)]]) := .inr ⟨true,rfl⟩
 have ho:orI [a4z (a4u y) (a4u x),a0W x.k y.k]=cR x y:=by
  unfold orI orI orI cR
  split
  ·split
   ·rename_i h2;exact h2.symm
   ·rfl
  ·rfl
 simp only [b8H,c0s,bs,rwL,c3X,s90,c3O,c3P,b3g x.k y.k x.kd y.kd h x.hk y.hk x.hkl y.hkl,b1u,s89 _ _ h hs (by simp),ho,a1j,a0o]
theorem c1O:a6t (.fn (.func a7W) [] []) cR:=fun x y g=>by rw [a1x];exact c3W x y g
def rS (x y:Rw):Prop:=¬ cR y x<0
theorem a3Q (a b:Int):a4z a b=0↔a=b:=by
 unfold a4z
 by_cases h:a<b
 ·simp [-bind_some, h];omega
 ·by_cases h2:b<a
  ·simp [-bind_some, h,h2];omega
  ·simp [-bind_some, h,h2];omega
theorem b1C (a b:Int):a4z a b<0↔a<b:=by
 unfold a4z
 by_cases h:a<b
 ·simp [-bind_some, h]
 ·by_cases h2:b<a
  ·simp [-bind_some, h,h2]
  ·simp [-bind_some, h,h2]
theorem b6O (x y:Rw):cR x y<0↔(a4u y<a4u x∨(a4u x=a4u y∧a0W x.k y.k<0)):=by
 unfold cR
 by_cases h:a4z (a4u y) (a4u x)=0
 ·rw [if_pos h]
  rw [a3Q] at h
  constructor
  ·intro h2;exact .inr ⟨h.symm,h2⟩
  ·rintro (h2 | ⟨_,h2⟩)
   ·omega
   ·exact h2
 ·rw [if_neg h,b1C]
  rw [a3Q] at h
  constructor
  ·intro h2;exact .inl h2
  ·rintro (h2 | ⟨h2,_⟩)
   ·exact h2
   ·exact absurd h2.symm h
theorem b0C (x y:Rw):rS x y↔(a4u y<a4u x∨(a4u x=a4u y∧a0W x.k y.k≤0)):=by
 unfold rS
 rw [b6O,a2g]
 omega
theorem b5S {x y z:List Str} (h:a0W x y≤0) (k:a0W y z≤0):a0W x z≤0:=by
 by_cases h1:a0W x y=0
 ·rw [a1r] at h1;subst h1;exact k
 ·by_cases k1:a0W y z=0
  ·rw [a1r] at k1;subst k1;exact h
  ·exact Int.le_of_lt (a3C (show a0W x y<0 by omega) (show a0W y z<0 by omega))
theorem c0o:SOrd cR rS (fun _ _=>True) where
 tr:=fun x y z h k=>by
  rw [b0C] at *
  rcases h with h | ⟨h,h2⟩
  ·rcases k with k | ⟨k,k2⟩
   ·left;omega
   ·left;omega
  ·rcases k with k | ⟨k,k2⟩
   ·left;omega
   ·right;exact ⟨by omega,b5S h2 k2⟩
 lt:=fun x y _ h=>by
  unfold rS
  rw [b6O] at *
  have:=a2g x.k y.k
  omega
 ge:=fun x y _ h=>h
theorem b7P {x y:Rw} (h:rS x y) (k:rS y x):x.k=y.k:=by
 rw [b0C] at h k
 rw [a2g] at k
 rw [← a1r]
 omega
theorem b2X:∀ {C E:List Rw},C.Pairwise rS→E.Pairwise rS→C.Perm E→(C.map Rw.k).Nodup→C=E
 | [],E,_,_,hp,_=>by rw [List.nil_perm.1 hp]
 | x::C,[],_,_,hp,_=>by cases List.perm_nil.1 hp
 | x::C,y::E,hC,hE,hp,hn=>by
  rw [List.pairwise_cons] at hC hE
  rw [c8U,List.nodup_cons] at hn
  have hxy:x=y:=by
   apply Classical.byContradiction
   intro hne
   have hx:x∈E:=by
    have:x∈y::E:=hp.mem_iff.1 (by simp)
    rcases c9h.1 this with h | h
    ·exact absurd h hne
    ·exact h
   have hy:y∈C:=by
    have:y∈x::C:=hp.mem_iff.2 (by simp)
    rcases c9h.1 this with h | h
    ·exact absurd h.symm hne
    ·exact h
   have:=b7P (hC.1 y hy) (hE.1 x hx)
   exact hn.1 (by rw [this];exact c9j.2 ⟨y,hy,rfl⟩)
  subst hxy
  rw [b2X hC.2 hE.2 ((List.perm_cons x).1 hp) hn.2]
def RdR (h:Hp) (l:List Rw) (d:D):Prop:=SlOf 3 a0x l d∨∃ ob,d = .msl 3 ob 0 l.length∧h[ob]?=some (.row a0j 3 (l.map a0x))
theorem b4U {h:Hp} {l:List Rw} {d:D} (hd:RdR h l d):a0G h 3 d=some (l.map a0x):=by
 rcases hd with hd | ⟨ob,rfl,ho⟩
 ·exact a1v h hd
 ·have e:(List.take l.length (l.map a0x))=l.map a0x:=List.take_of_length_le (by simp)
  simp [-bind_some, a0G,ho,e]
theorem a9f {h:Hp} {l:List Rw} {d:D} (hd:RdR h l d):a0w tab a0r d=some (.int .i64 l.length):=by
 rcases hd with hd | ⟨ob,rfl,_⟩
 ·exact a2P hd
 ·exact a7i _ _ _ _
theorem RdR.own {h:Hp} {n0:Nat} {l:List Rw} {d:D} (ow:Own h n0 a0j 3 (l.map a0x) d):RdR h l d:=by
 rcases ow with ⟨rfl,hn⟩ | ⟨o,_,rfl,hg⟩
 ·exact .inl (.inl ⟨rfl,by simpa using hn⟩)
 ·exact .inr ⟨o,by rw [c8S],hg⟩
theorem c4B (l:List Rw) (d:D) (h:Hp) (hd:RdR h l d) (hl:l.length≤1000000):∃ d' h',R b2a [d] h=some (d',h')∧h.length≤h'.length∧(∀ q,q<h.length→h'[q]?=h[q]?) ∧
  ((l=[]∧SlOf 3 a0x [] d')∨∃ ob,h.length≤ob∧d' = .msl 3 ob 0 l.length∧h'[ob]?=some (.row a0j 3 (l.map a0x))):=by
 rw [c2k]
 have hrow:=b4U hd
 by_cases hn:d = .nils
 ·subst hn
  have hl0:l=[]:=by
   rcases hd with (⟨_,h2⟩ | ⟨b,h2⟩) | ⟨ob,h2,_⟩
   ·simpa using h2
   ·cases h2
   ·cases h2
  subst hl0
  exact ⟨.nils,h,by
   have hne:a0k tab .eql a0r .nils .nils=some (.bool true):=id rfl
   simp [-bind_some, b6s,hne],Nat.le_refl _,fun _ _=>rfl,.inl ⟨rfl,.nils _ _⟩⟩
 ·obtain ⟨x',h',e,hl',hq,ho⟩:=a6M (T:=tab) (t:=a0r) (i:=ti1144) (j:=ti1146) (h:=h) (id rfl) (id rfl) (id rfl) (by decide) (y:=d) hrow (a2G (by have:ti1146.by_=56:=rfl;rw [this,c8S];omega) (by rw [c8S];omega))
  have e':a0q tab h a0r a0r (.sl 3 true []) d=some (x',h'):=e
  have hne:a0k tab .eql a0r d .nils=some (.bool false):=by
   rcases hd with (⟨h2,_⟩ | ⟨b,rfl⟩) | ⟨ob,rfl,_⟩
   ·exact absurd h2 hn
   ·exact id rfl
   ·exact id rfl
  refine ⟨x',h',?_,hl',hq,?_⟩
  ·simp only [b6s,bs,hne,a0f,c8O,if_false,b3V,e',a0o]
  ·rcases ho with ⟨rfl,hn⟩ | ⟨rfl,hn⟩ | ⟨ob,h1,rfl,h2⟩
   ·have:l=[]:=by simpa using hn
    exact .inl ⟨this,.inr ⟨true,rfl⟩⟩
   ·have:l=[]:=by simpa using hn
    exact .inl ⟨this,.nils _ _⟩
   ·exact .inr ⟨ob,h1,by rw [c8S];rfl,h2⟩
theorem c0u (d cmp:D) (h:Hp) (hd:SlOf 3 a0x [] d):∃ x,R b0g [d,cmp] h=some (x,h):=by
 have hl:a0w tab a0r d=some (.int .i64 0):=a2P hd
 have h65:∃ x,R a5d [d,.int .i64 0,.int .i64 0,cmp] h=some (x,h):=by
  rw [b9G]
  refine ⟨a0i [],?_⟩
  simp only [b6x,bs,c8N,a0p,show IntKind.wrap .i64 ((0:Int)+1)=1 from rfl]
  rw [a1e]
  simp [-bind_some, a6y]
 obtain ⟨x,h65⟩:=h65
 have h63:∃ x,R b0i [d,.int .i64 0,cmp] h=some (x,h):=by
  rw [b9F]
  refine ⟨a0i [],?_⟩
  simp only [b6w,bs,c8N]
  rw [a1e]
  have h20:¬ (20:Int)≤0:=by omega
  have h21:¬ (20:Int)<0:=by omega
  simp only [a6w,a0e,a0h,bs,a2x,h20,decide_false,a0f,c8O,if_false,a0m,a0l,h65]
  rw [a1e]
  simp only [a6x,a0e,a0h,bs,a0n,h21,decide_false,a0f,c8O,if_false,a0m,a1I]
 obtain ⟨y,h63⟩:=h63
 refine ⟨a0i [],?_⟩
 rw [b9C]
 simp only [b6t,bs,hl,h63]
theorem c4E {cmp:D} (hcmp:a6t cmp cR) {o N:Nat} (hN:N≤1000000000) {g:Hp} {l:List Rw} (hl:l.length=N) (ho:g[o]?=some (.row a0j 3 (l.map a0x))) :
  ∃ d g',∃ C:List Rw,R b0g [.msl 3 o 0 N,cmp] g=some (d,g')∧C.Perm l∧C.Pairwise rS∧g'[o]?=some (.row a0j 3 (C.map a0x))∧Same o g g':=by
 obtain ⟨⟨d,g'⟩,e,C,q1,q2,q3,q4⟩:=c4F c0o hcmp hN hl (List.pairwise_of_forall fun _ _=>trivial) ho
 refine ⟨a0i [],g',C,?_,q1,q2,q3,q4⟩
 rw [b9C]
 simp only [b6t,bs,a7i,e]
def a3r (n:Int) (k:Nat):Nat:=(min (max n 0) (k:Int)).toNat
theorem a3a (n:Int) (k:Nat):a3r n k≤k:=by unfold a3r;omega
theorem a7O (n:Int):b5z (.int .i64 n) (.int .i64 0)=some (.int .i64 (max n 0)):=by
 show some (D.int .i64 (if (0:Int)>n then 0 else n))=_
 congr 2
 split <;> omega
theorem a7P (n:Int) (k:Nat):b1g (.int .i64 (max n 0)) (.int .i64 (k:Int))=some (.int .i64 ((a3r n k:Nat):Int)):=by
 show some (D.int .i64 (if (k:Int)<max n 0 then (k:Int) else max n 0))=_
 congr 2
 unfold a3r
 split <;> omega
theorem a7u (n0:Nat) (h:Hp) (n:Nat) {l:List Str} {d:D} (hd:SlOf 1 (fun s=>[D.str s]) l d):frz n0 h (n+1) d=d:=a2V hd fun a _ x hx=>by
 simp at hx;subst hx;exact a3A _ _ _ _
theorem b7m (n0:Nat) (h:Hp) (n:Nat) {l:List Int} {d:D} (hd:SlOf 1 inr l d):frz n0 h (n+1) d=d:=a2V hd fun a _ x hx=>by
 simp [-bind_some, inr] at hx;subst hx;exact a3c _ _ _ _ _
theorem a6p (n:Nat) {l:List Str} {d:D} (hd:SlOf 1 (fun s=>[D.str s]) l d):Ok n d:=a1u hd fun a _ x hx=>by
 simp at hx;subst hx;exact .str _
theorem b9V (n:Nat) {l:List Int} {d:D} (hd:SlOf 1 inr l d):Ok n d:=a1u hd fun a _ x hx=>by
 simp [-bind_some, inr] at hx;subst hx;exact .int _ _
theorem a7p (n0:Nat) (h:Hp) (n:Nat) (r:Rw):∀ d∈a0x r,frz n0 h (n+1) d=d:=fun d hd=>by
 simp only [a0x,c9h,List.not_mem_nil,or_false] at hd
 rcases hd with rfl | rfl | rfl
 ·exact a7u _ _ _ r.hk
 ·exact b7m _ _ _ r.hn
 ·exact a3c _ _ _ _ _
theorem a9i (n:Nat) (r:Rw):∀ d∈a0x r,Ok n d:=fun d hd=>by
 simp only [a0x,c9h,List.not_mem_nil,or_false] at hd
 rcases hd with rfl | rfl | rfl
 ·exact a6p _ r.hk
 ·exact b9V _ r.hn
 ·exact .int _ _
theorem a6n {h g:Hp} {o m:Nat} {C:List Rw} (hm:m≤C.length) (ho:h.length≤o) (hg:g[o]?=some (.row a0j 3 (C.map a0x))) (hl:h.length≤g.length) (hb:∀ q,q<h.length→g[q]?=h[q]?) :
  scope h g (.msl 3 o 0 m)=some (.sl 3 false ((C.take m).map a0x),h):=by
 refine a1f ?_ ?_ hl hb
 ·rw [a5k ho hg,List.drop_zero,← List.map_take]
  rw [a1s fun row hrow=>a1s fun d hd=>by
   obtain ⟨r,_,rfl⟩:=c9j.1 hrow
   exact a7p _ _ _ r d hd]
 ·exact a1u (SlOf.mk _ _ _ _) fun r _=>a9i _ r
theorem c3T (l:List Rw) (d:D) (n:Int) (h:Hp) (hd:RdR h l d) (hl:l.length≤1000000):∃ C:List Rw,∃ d',R a5V [d,.int .i64 n] h=some (d',h)∧C.Perm l∧C.Pairwise rS∧SlOf 3 a0x (C.take (a3r n l.length)) d':=by
 rw [c2f]
 obtain ⟨d1,h1,e1,hl1,hb1,hd1⟩:=c4B l d h hd hl
 rcases hd1 with ⟨rfl,hd1⟩ | ⟨ob,hob,rfl,ho⟩
 ·obtain ⟨x,hx⟩:=c0u d1 (.fn (.func a7W) [] []) h1 hd1
  have hcut:a3r n ([]:List Rw).length=0:=by have:=a3a n ([]:List Rw).length;simpa using this
  obtain ⟨d2,e2,hd2⟩:=b7T hd1 (k := .i64) (n:=((0:Nat):Int)) (by omega) (by simp)
  have hsc:scope h h1 d2=some (d2,h):=a1f (a2V hd2 fun a ha=>by simp at ha) (a1u hd2 fun a ha=>by simp at ha) hl1 hb1
  refine ⟨[],d2,?_,List.Perm.refl _,List.Pairwise.nil,by simpa using hd2⟩
  have hmin:=a7P n 0
  rw [show a3r n 0=0 from hcut] at hmin
  simp only [b6r,bs,e1,hx,b9D,b6u,a7O,a2P hd1,c9e,hmin,e2,a0o,hsc]
 ·obtain ⟨x,h2,C,q1,q2,q3,q4,q5⟩:=c4E c1O (o:=ob) (N:=l.length) (by omega) rfl ho
  have hmin:=a7P n l.length
  have hcut:=a3a n l.length
  have hslice:a0s tab a0r false true false [.msl 3 ob 0 l.length,.int .i64 ((a3r n l.length:Nat):Int)]=some (.msl 3 ob 0 (a3r n l.length)):=a5q (T:=tab) (t:=a0r) (i:=ti1144) (j:=ti1146) (id rfl) (id rfl) (id rfl) (id rfl) (by decide) hcut
  have hsc:=a6n (m:=a3r n l.length) (C:=C) (by rw [q2.length_eq];exact hcut) hob q4 (by have:=q5.1;omega) (fun q hq=>(q5.2 q (by omega)).trans (hb1 q hq))
  refine ⟨C,.sl 3 false ((C.take (a3r n l.length)).map a0x),?_,q2,q3,.mk _ _ _ _⟩
  simp only [b6r,bs,e1,q1,b9D,b6u,a7O,a7i,hmin,hslice,a0o,hsc]
theorem a6g {α:Type} [BEq α] [LawfulBEq α] {x y:List α} {i:Nat} {u v:α} (hu:x[i]?=some u) (hv:y[i]?=some v):(x.drop i==y.drop i)=((u==v)&&(x.drop (i+1)==y.drop (i+1))):=by
 rw [a1n hu,a1n hv];rfl
theorem c0t (x y:List Str) (dx dy:D) (h:Hp) (hx:SlOf 1 (fun s=>[D.str s]) x dx) (hy:SlOf 1 (fun s=>[D.str s]) y dy) (hl:x.length≤1000000):R a7V [dx,dy] h=some (.bool (x==y),h):=by
 apply Wp.val
 rw [c2i]
 simp only [b8F,bs,c8N,a1C hx,a1C hy,a2d]
 by_cases hne:x.length=y.length
 case neg =>
  have d0:decide ((x.length:Int)≠(y.length:Int))=true:=decide_eq_true (by omega)
  have hb:(x==y)=false:=by
   cases hq:x==y
   ·rfl
   ·exact absurd (congrArg List.length (eq_of_beq hq)) hne
  simp only [d0,a0f,if_true,a0o,hb]
  exact .some rfl
 have d0:decide ((x.length:Int)≠(y.length:Int))=false:=decide_eq_false (by omega)
 simp only [d0,a0f,c8O,if_false]
 generalize hV:(x==y)=V
 refine Wp.loop (fun k ds g=>g=h∧∃ a b c,∃ i:Nat,ds=[a,.int .i64 i,b,c]∧k+i=x.length∧(x.drop i==y.drop i)=V)
  (fun r=>r.2.2=h∧((r.1 = .ret∧nth 0 r.2.1 = .bool false∧V=false)∨(r.1 = .ext 0∧V=true))) x.length ⟨rfl,_,_,_,0,rfl,by omega,hV⟩ ?_ ?_
 ·rintro k ds g ⟨rfl,a,b,c,i,rfl,hk,hV⟩
  simp only [a9o,a0e,a0h,bs,c8N,a1C hx,a0n]
  refine Wp.dif ?_ ?_
  ·intro h0
   have h0:i<x.length:=dl_ h0
   obtain ⟨u,hu⟩:=gx_ h0
   obtain ⟨v,hv⟩:∃ v,y[i]?=some v:=⟨_,c9b (by omega)⟩
   have hw:=wi_ i (by omega)
   rw [a6g hu hv] at hV
   simp only [a5n hx,a5n hy,Int.natCast_nonneg,if_true,c8V,hu,hv,Option.map_some,bs,a4d,b1E]
   cases hb:(u==v)
   ·rw [hb] at hV
    simp only [c8X,a0f,if_true]
    exact .some (.inr ⟨by simp,rfl,.inl ⟨rfl,rfl,hV.symm⟩⟩)
   ·rw [hb] at hV
    simp only [c8W,a0f,c8O,if_false,a0p,hw,bs]
    exact .some (.inl ⟨rfl,k - 1,by omega,rfl,_,_,_,i+1,rfl,by omega,hV⟩)
  ·intro h0
   have h0:x.length≤i:=by
    have:¬ (i:Int)<x.length:=by simpa using h0
    omega
   rw [List.drop_of_length_le h0,List.drop_of_length_le (by omega)] at hV
   exact .some (.inr ⟨by simp,rfl,.inr ⟨rfl,hV.symm⟩⟩)
 ·rintro ⟨ex,ds,g⟩ ⟨h1,h2⟩
  simp only at h1 h2
  subst h1
  rcases h2 with ⟨rfl,hn,rfl⟩ | ⟨rfl,rfl⟩
  ·simp only [a2u,a2t,a2o,a0e,a0h,bs,hn,a0o]
   exact .some rfl
  ·simp only [a0m,a0l,bs,a0o]
   exact .some rfl
theorem c3V (x y:List Int) (dx dy:D) (h:Hp) (hx:SlOf 1 inr x dx) (hy:SlOf 1 inr y dy) (hl:x.length≤1000000):R b1Z [dx,dy] h=some (.bool (x==y),h):=by
 apply Wp.val
 rw [c2j]
 simp only [b8G,bs,c8N,a8p hx,a8p hy,a2d]
 by_cases hne:x.length=y.length
 case neg =>
  have d0:decide ((x.length:Int)≠(y.length:Int))=true:=decide_eq_true (by omega)
  have hb:(x==y)=false:=by
   cases hq:x==y
   ·rfl
   ·exact absurd (congrArg List.length (eq_of_beq hq)) hne
  simp only [d0,a0f,if_true,a0o,hb]
  exact .some rfl
 have d0:decide ((x.length:Int)≠(y.length:Int))=false:=decide_eq_false (by omega)
 simp only [d0,a0f,c8O,if_false]
 generalize hV:(x==y)=V
 refine Wp.loop (fun k ds g=>g=h∧∃ a b c,∃ i:Nat,ds=[a,.int .i64 i,b,c]∧k+i=x.length∧(x.drop i==y.drop i)=V)
  (fun r=>r.2.2=h∧((r.1 = .ret∧nth 0 r.2.1 = .bool false∧V=false)∨(r.1 = .ext 0∧V=true))) x.length ⟨rfl,_,_,_,0,rfl,by omega,hV⟩ ?_ ?_
 ·rintro k ds g ⟨rfl,a,b,c,i,rfl,hk,hV⟩
  simp only [a9p,a0e,a0h,bs,c8N,a8p hx,a0n]
  refine Wp.dif ?_ ?_
  ·intro h0
   have h0:i<x.length:=dl_ h0
   obtain ⟨u,hu⟩:=gx_ h0
   obtain ⟨v,hv⟩:∃ v,y[i]?=some v:=⟨_,c9b (by omega)⟩
   have hw:=wi_ i (by omega)
   rw [a6g hu hv] at hV
   simp only [a8W hx,a8W hy,Int.natCast_nonneg,if_true,c8V,hu,hv,Option.map_some,bs,inr,a6d,a2d]
   by_cases hb:u=v
   ·have hb':(u==v)=true:=by simpa using hb
    rw [hb'] at hV
    simp only [hb,ne_eq,not_true,decide_false,a0f,c8O,if_false,a0p,hw,bs]
    exact .some (.inl ⟨rfl,k - 1,by omega,rfl,_,_,_,i+1,rfl,by omega,hV⟩)
   ·have hb':(u==v)=false:=by simpa using hb
    rw [hb'] at hV
    simp only [hb,ne_eq,not_false_eq_true,decide_true,a0f,if_true]
    exact .some (.inr ⟨by simp,rfl,.inl ⟨rfl,rfl,hV.symm⟩⟩)
  ·intro h0
   have h0:x.length≤i:=by
    have:¬ (i:Int)<x.length:=by simpa using h0
    omega
   rw [List.drop_of_length_le h0,List.drop_of_length_le (by omega)] at hV
   exact .some (.inr ⟨by simp,rfl,.inr ⟨rfl,hV.symm⟩⟩)
 ·rintro ⟨ex,ds,g⟩ ⟨h1,h2⟩
  simp only at h1 h2
  subst h1
  rcases h2 with ⟨rfl,hn,rfl⟩ | ⟨rfl,rfl⟩
  ·simp only [a2u,a2t,a2o,a0e,a0h,bs,hn,a0o]
   exact .some rfl
  ·simp only [a0m,a0l,bs,a0o]
   exact .some rfl
def a2m (r:Rw):List Str × List Int × Int:=(r.k,r.n,r.er)
theorem c3S (l m:List Rw) (dl dm:D) (h:Hp) (hd:SlOf 3 a0x l dl) (he:SlOf 3 a0x m dm) (hs:l.map a2m=m.map a2m) (hl:l.length≤1000000):R a5U [dl,dm] h=some (.bool true,h):=by
 apply Wp.val
 have hlen:l.length=m.length:=by simpa using congrArg List.length hs
 rw [c2e]
 have d0:decide ((l.length:Int)≠(m.length:Int))=false:=decide_eq_false (by omega)
 simp only [b8C,bs,c8N,a2P hd,a2P he,a2d,d0,a0f,c8O,if_false]
 refine Wp.loop (fun k ds g=>g=h∧∃ a b c,∃ i:Nat,ds=[a,.int .i64 i,b,c]∧k+i=l.length)
  (fun r=>r.2.2=h∧r.1 = .ext 0) l.length ⟨rfl,_,_,_,0,rfl,rfl⟩ ?_ ?_
 ·rintro k ds g ⟨rfl,a,b,c,i,rfl,hk⟩
  simp only [a9m,a0e,a0h,bs,c8N,a2P hd,a0n]
  refine Wp.dif ?_ ?_
  ·intro h0
   have h0:i<l.length:=dl_ h0
   obtain ⟨u,hu⟩:=gx_ h0
   obtain ⟨v,hv⟩:∃ v,m[i]?=some v:=⟨_,c9b (by omega)⟩
   have hw:=wi_ i (by omega)
   have hc:a2m u=a2m v:=by
    have:=congrArg (fun z:List (List Str × List Int × Int)=>z[i]?) hs
    simp only [c8Z,hu,hv,Option.map_some,Option.some.injEq] at this
    exact this
   simp only [a2m,Prod.mk.injEq] at hc
   obtain ⟨c1,c2,c3⟩:=hc
   have b1:(u.k==v.k)=true:=by rw [c1];simp [-bind_some]
   have b2:(u.n==v.n)=true:=by rw [c2];simp [-bind_some]
   simp only [a7g hd,a7g he,Int.natCast_nonneg,if_true,c8V,hu,hv,Option.map_some,bs,c3O,c1t,c7X,c3P,c1u,c7Y,c0t _ _ _ _ g u.hk v.hk u.hkl,b1,a2M,c8W,a0N,a1d,c3V _ _ _ _ g u.hn v.hn u.hnl,b2,a0B,c8O,if_false,a2d]
   simp only [c3,ne_eq,not_true,decide_false,a0f,c8O,if_false,a0p,hw,bs]
   exact .some (.inl ⟨rfl,k - 1,by omega,rfl,_,_,_,i+1,rfl,by omega⟩)
  ·intro h0
   exact .some (.inr ⟨by simp,rfl,rfl⟩)
 ·rintro ⟨ex,ds,g⟩ ⟨h1,rfl⟩
  simp only at h1
  subst h1
  simp only [a0m,a0l,bs,a0o]
  exact .some rfl
theorem a9e {h:Hp} {l:List Rw} {d:D} (hd:RdR h l d) (m:Nat) (y:Rw) (hy:l[m]?=some y):∃ q,a0a tab a0r d (.int .i64 (m:Int))=some q∧a0c tab h a0j q=some (.agg (a0x y))∧(∃ qn,a0b tab a0j 1 q=some qn∧a0c tab h a0Y qn=some y.nd)∧(∃ qk,a0b tab a0j 0 q=some qk∧a0c tab h a0D qk=some y.kd):=by
 have hm:=(c9c.1 hy).1
 rcases hd with hC | ⟨ob,he,ho⟩
 ·exact ⟨.fptr (a0x y),by rw [a7g hC];simp [-bind_some, hy],rwL y h,⟨_,c1t y,c1u y h⟩,⟨_,c3O y,c3P y h⟩⟩
 ·have hr:(l.map a0x)[m]?=some (a0x y):=by rw [c8Z,hy];rfl
  refine ⟨.ptr ob m 0,by rw [he,a5m,if_pos (by omega)];simp [-bind_some],by rw [a8X,a1g ho,hr];rfl,⟨.ptr ob m 1,by rw [b1V],?_⟩,⟨.ptr ob m 0,by rw [b1U],?_⟩⟩
  ·rw [c3J,a1g ho,hr];rfl
  ·rw [c0d,a1g ho,hr];rfl
theorem RdR.keep {h g:Hp} {l:List Rw} {d:D} (hd:RdR h l d) (hk:∀ q,q<h.length→g[q]?=h[q]?):RdR g l d:=by
 rcases hd with hd | ⟨ob,he,ho⟩
 ·exact .inl hd
 ·exact .inr ⟨ob,he,by rw [hk ob (c9c.1 ho).1];exact ho⟩
theorem c3A (l:List Rw) (d:D) (h:Hp) (hd:RdR h l d) (ds0:List D) (i:Nat) (x:Rw) (hx:l[i]?=some x) (hi1:nth 1 ds0 = .int .i64 (i:Int)) (C:List Rw) (hC:RdR h C (nth 0 ds0)) (hCl:C.length≤1000000) (hnn:x.n≠[]) (hnC:∀ y∈C,y.n≠[]) (b:D) {β:Type} {f:Out→Option β} {Q:β→Prop}
  (K:∀ (k:Nat) (v:D),k≤C.length→(k=0∨∃ y,C[k - 1]?=some y∧¬ cR x y<0)→(∀ j y,k≤j→C[j]?=some y→cR x y<0)→Wp (f (.ext 2,[.int .i64 (k:Int),v],h)) Q):Wp ((a0z (a6u d ds0) [.int .i64 (C.length:Int),b] h).bind f) Q:=by
 refine Wp.loop (fun n ds g=>g=h∧∃ c,ds=[.int .i64 (n:Int),c]∧n≤C.length∧∀ j y,n≤j→C[j]?=some y→cR x y<0)
  (fun r=>r.1 = .ext 2∧r.2.2=h∧∃ (k:Nat) (v:D),r.2.1=[.int .i64 (k:Int),v]∧k≤C.length∧(k=0∨∃ y,C[k - 1]?=some y∧¬ cR x y<0)∧(∀ j y,k≤j→C[j]?=some y→cR x y<0)) C.length ⟨rfl,_,rfl,Nat.le_refl _,fun j y hj hy=>by
   have:=(c9c.1 hy).1;omega⟩ ?_ ?_
 ·rintro n ds g ⟨rfl,c,rfl,hn,hall⟩
  obtain ⟨qx,hix,_,⟨xn,x1,x1l⟩,⟨xk,x0,x0l⟩⟩:=a9e hd i x hx
  obtain ⟨z,zs,hz⟩:∃ z zs,x.n=z::zs:=by
   cases hq:x.n with
   | nil=>exact absurd hq hnn
   | cons z zs=>exact ⟨z,zs,rfl⟩
  have hx0:a0a tab a0Y x.nd (.int .i64 0)=some (.fptr (inr z)):=by rw [a8W x.hn,hz];rfl
  have hxr:a4u x=z:=by unfold a4u;rw [hz];rfl
  simp only [a6u,a0e,a0h,bs,c8N,hi1,a1c]
  by_cases h0:n=0
  ·subst h0
   have d0:decide (((0:Nat):Int)>0)=false:=decide_eq_false (by omega)
   simp only [d0,a0N,a1d,a6c,a8R,reduceCtorEq,if_false,if_true,bs,a0B,c8O,a0f]
   exact .some (.inr ⟨by simp,rfl,rfl,0,_,rfl,by omega,.inl rfl,hall⟩)
  ·obtain ⟨m,rfl⟩:∃ m,n=m+1:=⟨n - 1,by omega⟩
   have d0:decide (((m+1:Nat):Int)>0)=true:=decide_eq_true (by omega)
   have hw:IntKind.wrap .i64 (((m+1:Nat):Int) - 1)=(m:Int):=by rw [wrap_i64 (by omega) (by omega)];omega
   obtain ⟨y,hy⟩:∃ y,C[m]?=some y:=⟨_,c9b (by omega)⟩
   have hyn:=hnC y (c9a hy)
   obtain ⟨w,ws,hw2⟩:∃ w ws,y.n=w::ws:=by
    cases hq:y.n with
    | nil=>exact absurd hq hyn
    | cons z zs=>exact ⟨z,zs,rfl⟩
   have hy0:a0a tab a0Y y.nd (.int .i64 0)=some (.fptr (inr w)):=by rw [a8W y.hn,hw2];rfl
   have hyr:a4u y=w:=by unfold a4u;rw [hw2];rfl
   obtain ⟨q,q1,_,q2,q3⟩:=a9e hC m y hy
   obtain ⟨qn,q2,q2l⟩:=q2
   obtain ⟨qk,q3,q3l⟩:=q3
   have hk:=c3Y x.k y.k x.kd y.kd g x.hk y.hk x.hkl y.hkl
   have hlt:=b6O x y
   rw [hxr,hyr] at hlt
   simp only [d0,a0N,if_true,bs,hix,x1,x1l,hx0,inr,a6d,a0E,hw,q1,q2,q2l,hy0,a1c,x0,x0l,q3,q3l]
   have hcond:∀ (B:Bool) (f1 f2:D→D × Hp→Option Out) ,True:=fun _ _ _=>trivial
   by_cases c1:w<z
   ·have d1:decide (z>w)=true:=decide_eq_true c1
    have hc:cR x y<0:=hlt.2 (.inl c1)
    simp only [d1,a0N,a1d,a6c,a8R,reduceCtorEq,Bool.true_eq_false,c8O,if_true,if_false,bs,a0B,a0f,a0E,hw]
    exact .some (.inl ⟨rfl,m,by omega,rfl,_,rfl,by omega,fun j y' hj hy'=>by
     by_cases hjm:j=m
     ·subst hjm;rw [hy] at hy';injection hy' with hy';subst hy';exact hc
     ·exact hall j y' (by omega) hy'⟩)
   ·have d1:decide (z>w)=false:=decide_eq_false (by omega)
    by_cases c2:z=w
    ·have d2:decide (z=w)=true:=decide_eq_true c2
     simp only [d1,d2,a0N,a1d,if_true,bs,hix,x0,x1,x0l,x1l,hx0,inr,a6d,a0E,hw,q1,q2,q2l,q3,q3l,hy0,a0S,hk,a0n,a0B,c8O,if_false,a0f]
     by_cases c3:a0W x.k y.k<0
     ·have hc:cR x y<0:=hlt.2 (.inr ⟨c2,c3⟩)
      simp only [c3,decide_true,if_true]
      exact .some (.inl ⟨rfl,m,by omega,rfl,_,rfl,by omega,fun j y' hj hy'=>by
       by_cases hjm:j=m
       ·subst hjm;rw [hy] at hy';injection hy' with hy';subst hy';exact hc
       ·exact hall j y' (by omega) hy'⟩)
     ·have hc:¬ cR x y<0:=fun hh=>by
        rcases hlt.1 hh with h | ⟨_,h⟩
        ·exact c1 h
        ·exact c3 h
      simp only [c3,decide_false,c8O,if_false]
      exact .some (.inr ⟨by simp,rfl,rfl,m+1,_,rfl,hn,.inr ⟨y,by simpa using hy,hc⟩,hall⟩)
    ·have d2:decide (z=w)=false:=decide_eq_false c2
     have hc:¬ cR x y<0:=fun hh=>by
      rcases hlt.1 hh with h | ⟨h,_⟩
      ·exact c1 h
      ·exact c2 h
     simp only [d1,d2,a0N,a1d,a6c,a8R,reduceCtorEq,c8O,if_true,if_false,bs,hix,x0,x1,x0l,x1l,hx0,inr,a6d,a0E,hw,q1,q2,q2l,hy0,a0S,a0B,a0f]
     exact .some (.inr ⟨by simp,rfl,rfl,m+1,_,rfl,hn,.inr ⟨y,by simpa using hy,hc⟩,hall⟩)
 ·rintro ⟨ex,ds,g⟩ ⟨rfl,h2,k,v,rfl,k1,k2,k3⟩
  simp only at h2
  subst h2
  exact K k v k1 k2 k3
theorem c0k {T:Tab} {t e:Nat} {i j:TI} (ht:T t=some i) (hi:i.td = .sl e) (he:T e=some j) (hp:0<j.sz) {h:Hp} {n0 U:Nat} {rows:List (List D)} {d:D} (hd:Own h n0 U j.sz rows d) {kk:IntKind} {k:Nat} (hk:k≤rows.length) :
  ∃ d',a0s T t false true false [d,.int kk (k:Int)]=some d'∧a0G h j.sz d'=some (rows.take k):=by
 rcases hd with ⟨rfl,rfl⟩ | ⟨o,_,rfl,hg⟩
 ·have:k=0:=by simpa using hk
  subst this
  exact ⟨.nils,by simp [-bind_some, a0s,a1G,a0Z,ht,hi,he],rfl⟩
 ·exact ⟨_,a5q ht hi he rfl hp hk,by simp [-bind_some, a0G,hg]⟩
theorem c0l {T:Tab} {t e:Nat} {i j:TI} (ht:T t=some i) (hi:i.td = .sl e) (he:T e=some j) (hp:0<j.sz) {h:Hp} {n0 U:Nat} {rows:List (List D)} {d:D} (hd:Own h n0 U j.sz rows d) {kk:IntKind} {k:Nat} (hk:k≤rows.length) :
  ∃ d',a0s T t true false false [d,.int kk (k:Int)]=some d'∧a0G h j.sz d'=some (rows.drop k):=by
 rcases hd with ⟨rfl,rfl⟩ | ⟨o,_,rfl,hg⟩
 ·have:k=0:=by simpa using hk
  subst this
  exact ⟨.nils,by simp [-bind_some, a0s,a1G,a0Z,ht,hi,he],rfl⟩
 ·have h1:(k:Int)≤(rows.length:Int):=by omega
  have h2:(0:Int)≤(k:Int):=by omega
  by_cases hlt:(k:Int)<(rows.length:Int)∨(k:Int)=0
  ·refine ⟨.msl j.sz o (0+k) (rows.length - k),?_,?_⟩
   ·have h3:((rows.length:Int) - (k:Int)).toNat=rows.length - k:=by omega
    simp [-bind_some, a0s,a1G,a0Z,ht,hi,he,hp,h1]
    intro hh;omega
   ·simp [-bind_some, a0G,hg]
    rw [List.take_of_length_le (by simp)]
  ·have hk2:k=rows.length:=by omega
   subst hk2
   refine ⟨.sl j.sz false [],?_,by simp [-bind_some, a0G]⟩
   simp [-bind_some, a0s,a1G,a0Z,ht,hi,he,hp]
   first | (intro hh;omega) | (intro hh;exact absurd hh (by simpa using hlt))
theorem c3U (l:List Rw) (d:D) (n:Int) (h:Hp) (hd:RdR h l d) (hl:l.length≤1000000) (hnn:∀ r∈l,r.n≠[]):∃ C:List Rw,∃ d',R b0e [d,.int .i64 n] h=some (d',h)∧C.Perm l∧C.Pairwise rS∧SlOf 3 a0x (C.take (a3r n l.length)) d':=by
 suffices Wp (R b0e [d,.int .i64 n] h) (fun p=>p.2=h∧∃ C:List Rw,C.Perm l∧C.Pairwise rS∧SlOf 3 a0x (C.take (a3r n l.length)) p.1) by
  obtain ⟨⟨x,h'⟩,h1,rfl,C,h2,h3,h4⟩:=this
  exact ⟨C,x,h1,h2,h3,h4⟩
 have t1:tab a0r=some ti1144:=id rfl
 have t2:ti1144.td = .sl a0j:=id rfl
 have t3:tab a0j=some ti1146:=id rfl
 rw [c2g]
 simp only [b8D,bs,c8N]
 refine Wp.loop (fun k ds g=>∃ x a b c e,∃ i:Nat,∃ C:List Rw,ds=[x,.int .i64 (i:Int),a,b,c,e]∧k+i=l.length∧Own g h.length a0j 3 (C.map a0x) x∧h.length≤g.length∧(∀ q,q<h.length→g[q]?=h[q]?)∧C.Perm (l.take i)∧C.Pairwise rS)
  (fun r=>r.1 = .ext 0∧∃ x a b c e f,∃ C:List Rw,r.2.1=[x,a,b,c,e,f]∧Own r.2.2 h.length a0j 3 (C.map a0x) x∧h.length≤r.2.2.length∧(∀ q,q<h.length→r.2.2[q]?=h[q]?)∧C.Perm l∧C.Pairwise rS) l.length
  ⟨_,_,_,_,_,0,[],rfl,rfl,Own.nils _ _ _ _,Nat.le_refl _,fun _ _=>rfl,by simp,List.Pairwise.nil⟩ ?_ ?_
 ·rintro k ds g ⟨x,a,b,c,e,i,C,rfl,hk,ow,hlen,hq,hp,hs⟩
  have hdg:RdR g l d:=hd.keep hq
  simp only [a9n,a0e,a0h,bs,c8N,a9f hdg,a0n]
  refine Wp.dif ?_ ?_
  ·intro h0
   have h0:i<l.length:=dl_ h0
   obtain ⟨u,hu⟩:=gx_ h0
   have hum:=c9a hu
   have hw:=wi_ i (by omega)
   have hCl:C.length≤1000000:=by rw [hp.length_eq,c9g];omega
   have hCi:C.length=i:=by rw [hp.length_eq,c9g];omega
   have hnC:∀ y∈C,y.n≠[]:=fun y hy=>hnn y (List.mem_of_mem_take (hp.mem_iff.1 hy))
   have hRd:RdR g C x:=RdR.own ow
   simp only [a9f hRd,bs]
   refine c3A l d g hdg [x,.int .i64 (i:Int),a,b,c,e] i u hu rfl C hRd hCl (hnn u hum) hnC _ fun k' v k1 k2 k3=>?_
   simp only [a0m,a0l,bs,a0e,a0h,c8N]
   obtain ⟨d1,s1,r1⟩:=c0k t1 t2 t3 (by decide) ow (kk := .i64) (k:=k') (by simpa using k1)
   have r1:a0G g 3 d1=some ((C.take k').map a0x):=by rw [List.map_take];exact r1
   have s1:a0s tab a0r false true false [x,.int .i64 (k':Int)]=some d1:=s1
   simp only [s1,bs]
   refine a5v (n0:=g.length) (rows:=[]) (Nat.le_refl _) (.nils _ _ _ _) r1 (by simp only [c8S,c9e,c9g];omega) fun x8 g1 o1 l1 b1 _ _=>?_
   rw [List.nil_append] at o1
   have hdg1:RdR g1 l d:=hdg.keep b1
   obtain ⟨qu,hix,hlu,_,_⟩:=a9e hdg1 i u hu
   have hlit:a0A tab a0r 1 [0] [.agg (a0x u)]=some (.sl 3 true [a0x u]):=a6O _ _ _
   simp only [hix,hlu,hlit,bs]
   refine a5v (n0:=g.length) (by omega) o1 (a1o _ _ _ _) (by simp only [c8S,c9d,c9e,c9g];omega) fun x9 g2 o2 l2 b2 _ _=>?_
   have ow2:Own g2 h.length a0j 3 (C.map a0x) x:=ow.keep fun q hq' hx=>by
    have hlt:=(ow.lt hx).2
    rw [b2 q (by omega),b1 q (by omega)]
   obtain ⟨d2,s2,r2⟩:=c0l t1 t2 t3 (by decide) ow2 (kk := .i64) (k:=k') (by simpa using k1)
   have r2:a0G g2 3 d2=some ((C.drop k').map a0x):=by rw [List.map_drop];exact r2
   have s2:a0s tab a0r true false false [x,.int .i64 (k':Int)]=some d2:=s2
   simp only [s2,bs]
   refine a5v (n0:=g.length) (by omega) o2 r2 (by simp only [c8S,c8R,c9d,c9e,c9g,c9f];omega) fun x10 g3 o3 l3 b3 _ _=>?_
   simp only [bs,a0p,hw]
   have hrows:(C.take k').map a0x++[a0x u]++(C.drop k').map a0x=(C.take k'++u::C.drop k').map a0x:=by simp
   rw [hrows] at o3
   refine .some (.inl ⟨rfl,k - 1,by omega,_,_,_,_,_,i+1,C.take k'++u::C.drop k',rfl,by omega,o3.from hlen,(by show h.length≤g3.length;omega),fun q hq'=>by rw [b3 q (by omega),b2 q (by omega),b1 q (by omega)];exact hq q hq',?_,?_⟩)
   ·rw [c8Y,hu,Option.toList_some]
    refine List.perm_middle.trans ?_
    rw [List.take_append_drop]
    exact (List.Perm.cons u hp).trans (by simpa using (List.perm_append_comm (l₁:=[u]) (l₂:=l.take i)))
   ·refine b0B c0o (by rw [List.take_append_drop];exact hs) (fun _ _=>trivial) ?_ ?_
    ·rcases Nat.lt_or_ge k' C.length with hlt | hge
     ·right
      obtain ⟨y,hy⟩:∃ y,C[k']?=some y:=⟨_,c9b hlt⟩
      exact ⟨y,C.drop (k'+1),a1n hy,k3 k' y (Nat.le_refl _) hy⟩
     ·left;exact List.drop_eq_nil_of_le hge
    ·rcases k2 with rfl | ⟨y,hy,hc⟩
     ·left;rfl
     ·rcases Nat.eq_zero_or_pos k' with rfl | hpos
      ·left;rfl
      ·right
       obtain ⟨r,hr⟩:=a5o (A:=C) (t:=k') (y:=y) hpos hy
       exact ⟨y,r,hr,hc⟩
  ·intro h0
   have h0:l.length≤i:=by
    have:¬ (i:Int)<l.length:=by simpa using h0
    omega
   rw [List.take_of_length_le h0] at hp
   exact .some (.inr ⟨by simp,rfl,_,_,_,_,_,_,C,rfl,ow,hlen,hq,hp,hs⟩)
 ·rintro ⟨ex,ds,g⟩ ⟨rfl,x,a,b,c,e,f,C,rfl,ow,hlen,hq,hp,hs⟩
  have hRd:RdR g C x:=RdR.own ow
  have hmin:=a7P n l.length
  have hcut:=a3a n l.length
  have hCl:=hp.length_eq
  simp only [a0m,a0l,bs,a0e,a0h,c8N,a7O,a9f hRd,hCl,hmin]
  rcases ow with ⟨rfl,hn⟩ | ⟨o,ho,rfl,hg⟩
  ·have hC:C=[]:=by simpa using hn
   subst hC
   have hl0:l=[]:=List.nil_perm.1 hp
   subst hl0
   have hcut:a3r n ([]:List Rw).length=0:=by have:=a3a n ([]:List Rw).length;simpa using this
   have hsl:a0s tab a0r false true false [.nils,.int .i64 ((0:Nat):Int)]=some .nils:=by simp [-bind_some, a0s,a1G,a0Z,t1,t2,t3]
   have hsc:scope h g .nils=some (.nils,h):=a1f (by simp) .nils hlen hq
   rw [hcut,hsl]
   simp only [bs,a0o,hsc]
   exact .some ⟨rfl,[],List.Perm.refl _,List.Pairwise.nil,.inl ⟨rfl,rfl⟩⟩
  ·have hslice:a0s tab a0r false true false [.msl 3 o 0 (C.map a0x).length,.int .i64 ((a3r n l.length:Nat):Int)]=some (.msl 3 o 0 (a3r n l.length)):=a5q (T:=tab) (t:=a0r) (i:=ti1144) (j:=ti1146) t1 t2 t3 (id rfl) (by decide) (by rw [c8S,hCl];exact hcut)
   have hsc:=a6n (m:=a3r n l.length) (C:=C) (by rw [hCl];exact hcut) ho hg hlen hq
   simp only [hslice,bs,a0o,hsc]
   exact .some ⟨rfl,C,hp,hs,.mk _ _ _ _⟩
def dig (n:Int):Str:=[UInt8.ofNat (48+n.toNat)]
theorem c4d (n:Int) (h:Hp) (h0:0≤n) (h9:n≤9):R a5W [.int .i64 n] h=some (.str (dig n),h):=by
 apply Wp.val
 have d0:decide (n<0)=false:=decide_eq_false (by omega)
 have w1:IntKind.wrap .u64 n=n:=a4N h0 (by omega)
 have r1:n.tmod 10=n:=by rw [Int.tmod_eq_emod_of_nonneg h0];omega
 have q1:n.tdiv 10=0:=by rw [Int.tdiv_eq_ediv_of_nonneg h0];omega
 have w2:IntKind.wrap .u64 (48+n)=48+n:=a4N (by omega) (by omega)
 have w3:IntKind.wrap .u8 (48+n)=48+n:=by rw [b5l];omega
 have w4:IntKind.wrap .u64 0=0:=a4N (by omega) (by omega)
 have ap:a0q tab h a5F a5F (.sl 1 true [[.int .u8 (48+n)]]) .nils=some (.sl 1 true [[.int .u8 (48+n)]],h):=id rfl
 have ts:a7R h (.sl 1 true [[.int .u8 (48+n)]])=some (.str (dig n)):=by
  have e:(48+n).toNat=48+n.toNat:=by omega
  simp [-bind_some, a7R,a0G,a5O,dig,e]
 have hsc:scope h h (.str (dig n))=some (.str (dig n),h):=a1f (by simp) (.str _) (Nat.le_refl _) fun _ _=>rfl
 rw [c2t]
 simp only [b8P,bs,c8N,b4m,w1,a0n,d0,a0f,c8O,if_false,a0l,a0e]
 rw [a1e]
 simp only [a9u,a0e,a0h,bs,b4o,show ¬ (10:Int)=0 by omega,if_false,r1,a0p,w2,b4l,w3,b9r,ap,b4n,q1,w4,a0S,decide_true,a0f,if_true,a0m,a0l,a0n,d0,c8O,ts,a0o,hsc]
 exact .some rfl
def b5g (e:Ev) (nm:Str):Str × Bool :=
 if nm=[64,104,111,115,116] then (dig e.a0,true) else if nm=[64,116,114,97,99,101] then (e.s7,true) else if nm=[64,115,116,114,101,97,109] then (e.s8,true) else ((a8H e.fs nm).getD [],(a8H e.fs nm).isSome)
def b3C (nm:Str):Prop:=nm≠[64,102,105,108,101]∧nm≠[64,116,105,109,101]∧nm≠[64,119,101,105,103,104,116]
theorem c4c (e:Ev) (nm:Str) (h:Hp) (h0:0≤e.a0) (h9:e.a0≤9) (hn:b3C nm):R a7X [.agg (evr e),.str nm] h=some (.tup [.str (b5g e nm).1,.bool (b5g e nm).2],h):=by
 have q0:a0b tab a0P 0 (.fptr (evr e))=some (.fptr (evr e)):=id rfl
 have q7:a0b tab a0P 7 (.fptr (evr e))=some (.fptr [.str e.s7,.str e.s8,e.fd]):=id rfl
 have q8:a0b tab a0P 8 (.fptr (evr e))=some (.fptr [.str e.s8,e.fd]):=id rfl
 have q9:a0b tab a0P 9 (.fptr (evr e))=some (.fptr [e.fd]):=id rfl
 have l0:a0c tab h ty3 (.fptr (evr e))=some (.int .i64 e.a0):=id rfl
 have l9:a0c tab h a5y (.fptr [e.fd])=some e.fd:=by
  have h1:=a1L e.hfd
  generalize e.fd=a at h1
  cases a <;> first | rfl | (simp [-bind_some, D.one] at h1)
 rw [c2r]
 simp only [b8N,a2s,bs,a7N,q0,q7,q8,q9,l0]
 unfold b5g
 have n1:(nm==[64,102,105,108,101])=false:=by simpa using hn.1
 have n2:(nm==[64,116,105,109,101])=false:=by simpa using hn.2.1
 have n3:(nm==[64,119,101,105,103,104,116])=false:=by simpa using hn.2.2
 by_cases c1:nm=[64,104,111,115,116]
 ·have b1:(nm==[64,104,111,115,116])=true:=by simpa using c1
  rw [if_pos c1]
  simp only [b1,a0f,if_true,c4d e.a0 h h0 h9,bs,a2r]
 have b1:(nm==[64,104,111,115,116])=false:=by simpa using c1
 by_cases c2:nm=[64,116,114,97,99,101]
 ·have b2:(nm==[64,116,114,97,99,101])=true:=by simpa using c2
  have l7:a0c tab h ty9 (.fptr [.str e.s7,.str e.s8,e.fd])=some (.str e.s7):=id rfl
  rw [if_neg c1,if_pos c2]
  simp only [b1,n1,n2,n3,b2,a0f,c8O,if_false,if_true,l7,bs,a2r]
 have b2:(nm==[64,116,114,97,99,101])=false:=by simpa using c2
 by_cases c3:nm=[64,115,116,114,101,97,109]
 ·have b3:(nm==[64,115,116,114,101,97,109])=true:=by simpa using c3
  have l8:a0c tab h ty9 (.fptr [.str e.s8,e.fd])=some (.str e.s8):=id rfl
  rw [if_neg c1,if_neg c2,if_pos c3]
  simp only [b1,n1,n2,n3,b2,b3,a0f,c8O,if_false,if_true,l8,bs,a2r]
 have b3:(nm==[64,115,116,114,101,97,109])=false:=by simpa using c3
 rw [if_neg c1,if_neg c2,if_neg c3]
 simp only [b1,n1,n2,n3,b2,b3,a0f,c8O,if_false,l9,bs,s76 _ _ _ h e.hfd e.hl,a8S,a1q,c8P,c8Q,a2r]
def a4f (ns:List Str) (e:Ev):List Str:=ns.map fun n=>(b5g e n).1
theorem c4b (ns:List Str) (dn:D) (e:Ev) (h:Hp) (hd:SlOf 1 (fun s=>[D.str s]) ns dn) (hl:ns.length≤1000) (h0:0≤e.a0) (h9:e.a0≤9) (hn:∀ n∈ns,b3C n):∃ d',R a5e [dn,.agg (evr e)] h=some (d',h)∧SlOf 1 (fun s=>[D.str s]) (a4f ns e) d':=by
 suffices Wp (R a5e [dn,.agg (evr e)] h) (fun p=>p.2=h∧SlOf 1 (fun s=>[D.str s]) (a4f ns e) p.1) by
  obtain ⟨⟨x,h'⟩,h1,rfl,h2⟩:=this
  exact ⟨x,h1,h2⟩
 rw [c2q]
 have hL:∀ g,a0c tab g a0P (.fptr (evr e))=some (.agg (evr e)):=fun g=>id rfl
 simp only [b8M,a2s,bs,c8N]
 refine Wp.loop (fun k ds g=>∃ x a b,∃ i:Nat,ds=[x,.int .i64 (i:Int),a,b]∧k+i=ns.length∧Own g h.length ty9 1 ((a4f (ns.take i) e).map fun s=>[D.str s]) x∧h.length≤g.length∧(∀ q,q<h.length→g[q]?=h[q]?))
  (fun r=>r.1 = .ext 0∧∃ x a b c,r.2.1=[x,a,b,c]∧Own r.2.2 h.length ty9 1 ((a4f ns e).map fun s=>[D.str s]) x∧h.length≤r.2.2.length∧(∀ q,q<h.length→r.2.2[q]?=h[q]?)) ns.length
  ⟨_,_,_,0,rfl,rfl,Own.nils _ _ _ _,Nat.le_refl _,fun _ _=>rfl⟩ ?_ ?_
 ·rintro k ds g ⟨x,a,b,i,rfl,hk,ow,hlen,hq⟩
  simp only [a9s,a0e,a0h,bs,c8N,a1C hd,a0n]
  refine Wp.dif ?_ ?_
  ·intro hlt
   have hlt:i<ns.length:=dl_ hlt
   obtain ⟨u,hu⟩:=gx_ hlt
   have hw:=wi_ i (by omega)
   simp only [hL,a5n hd,Int.natCast_nonneg,if_true,c8V,hu,Option.map_some,bs,a4d,c4c e u g h0 h9 (hn u (c9a hu)),a1q,c8P,c8Q,a9P]
   refine b5k (n0:=h.length) hlen ow (a1o _ _ _ _) (by simp [-bind_some, a4f];omega) fun x9 g2 o2 l2 b2 _ _=>?_
   simp only [bs,a0p,hw]
   refine .some (.inl ⟨rfl,k - 1,by omega,_,_,_,i+1,rfl,by omega,?_,by show h.length≤g2.length;omega,fun q hq'=>by rw [b2 q hq'];exact hq q hq'⟩)
   have:(a4f (ns.take (i+1)) e).map (fun s=>[D.str s])=(a4f (ns.take i) e).map (fun s=>[D.str s])++[[D.str (b5g e u).1]]:=by
    rw [c8Y,hu];simp [-bind_some, a4f]
   rw [this];exact o2
  ·intro hge
   have hge:ns.length≤i:=by
    have:¬ (i:Int)<ns.length:=by simpa using hge
    omega
   rw [List.take_of_length_le hge] at ow
   exact .some (.inr ⟨by simp,rfl,_,_,_,_,rfl,ow,hlen,hq⟩)
 ·rintro ⟨ex,ds,g⟩ ⟨rfl,x,a,b,c,rfl,ow,hlen,hq⟩
  simp only [a0m,a0l,bs,a0e,a0o]
  have hs:=a2y (n0:=h.length) (n:=3) ow (Nat.le_refl _) fun s _ y hy=>by simp at hy;subst hy;exact a3A _ _ _ _
  have hsc:scope h g x=some (frz h.length g 4 x,h):=a1f rfl (a6p _ hs) hlen hq
  rw [hsc]
  exact .some ⟨rfl,hs⟩
theorem b6I {α:Type} {f:α→List D} {l:List α} {h':Hp} {n0 e z:Nat} {x':D} (ow:Own h' n0 e z (l.map f) x') (hf:∀ a∈l,∀ (n0:Nat) (h:Hp),∀ d∈f a,frz n0 h 2 d=d):SlOf z f l (b3z (x',h')).1∧h'.length≤(b3z (x',h')).2.length∧∀ q,q<n0→(b3z (x',h')).2[q]?=h'[q]?:=by
 rcases ow with ⟨rfl,hn⟩ | ⟨o,ho,rfl,hg⟩
 ·exact ⟨.inl ⟨rfl,by simpa using hn⟩,Nat.le_refl _,fun _ _=>rfl⟩
 ·have e:b3z (.msl z o 0 (l.map f).length,h')=(frz o h' 3 (.msl z o 0 (l.map f).length),a2C o h'):=rfl
  rw [e]
  have ow2:Own h' o _ z (l.map f) (.msl z o 0 (l.map f).length) := .inr ⟨o,Nat.le_refl _,rfl,hg⟩
  have hlt:=(c9c.1 hg).1
  refine ⟨a2y ow2 (Nat.le_refl _) fun a ha d hd=>hf a ha _ _ d hd,by simp [-bind_some, a2C];omega,fun q hq=>?_⟩
  unfold a2C
  rw [c9l (by simp;omega),List.getElem?_take,if_pos (by omega)]
structure CtOK (ns:List Str) (dn:D):Prop where
 hd:SlOf 1 (fun s=>[D.str s]) ns dn
 hl:ns.length≤1000
 hn:∀ n∈ns,b3C n
theorem b6J {T:Tab} {t e:Nat} {i j:TI} (ht:T t=Option.some i) (hi:i.td = .sl e) (he:T e=Option.some j) (hz:0<j.sz) {h:Hp} {rows ys:List (List D)} {y:D} (hy:a0G h j.sz y=Option.some ys) (hl:lim (rows.length+ys.length) j.by_=true) (hne:ys≠[]) :
  ∃ x' h',a0q T h t t (.sl j.sz true rows) y=Option.some (x',h')∧h.length≤h'.length∧(∀ q,q<h.length→h'[q]?=h[q]?)∧Own h' h.length e j.sz (rows++ys) x':=by
 have hz':Nat.blt 0 j.sz=true:=Nat.ble_eq_true_of_le hz
 have hs:a6W h i j y=Option.some ys:=by simp [-bind_some, a6W,hi,hy]
 unfold a0q
 simp only [ht,hi,he,hz',hs]
 cases ys with
 | nil=>exact absurd rfl hne
 | cons y1 yr =>
  simp only [hl,and_self,if_true,true_and]
  exact ⟨_,_,rfl,by simp [-bind_some, a0Q],fun q hq=>by simp only [a0Q];rw [c9l hq],.inr ⟨h.length,Nat.le_refl _,by simp,by simp [-bind_some, a0Q]⟩⟩
theorem c1W {h:Hp} {o:Nat} (hc:CD h o):∃ s h',R b2b [.ptr o 0 0] h=some (.str s,h')∧CD h' o∧Same o h h'∧s∈lt98_46:=by
 obtain ⟨v,h',h1,h2,h3,h4,h5⟩:=a1t hc 4 (by omega) (by omega)
 obtain ⟨s,hs,hg⟩:=a2R lt98_46 v h4 h5
 refine ⟨s,h',?_,h2,h3,hs⟩
 rw [c2o];simp [-bind_some, b8K,h1,h4,hg]
theorem c1V {h:Hp} {o:Nat} (hc:CD h o):∃ ns dn h',R b0f [.ptr o 0 0] h=some (dn,h')∧CD h' o∧Same o h h'∧CtOK ns dn:=by
 suffices Wp (R b0f [.ptr o 0 0] h) (fun p=>CD p.2 o∧Same o h p.2∧∃ ns,CtOK ns p.1) by
  obtain ⟨⟨x,h'⟩,h1,h2,h3,ns,h4⟩:=this
  exact ⟨ns,x,h',h1,h2,h3,h4⟩
 have ok45:∀ s∈lt98_45,b3C s:=by unfold b3C;decide
 have ok46:∀ s∈lt98_46,b3C s:=by unfold b3C;decide
 rw [c2h]
 simp only [b8E,bs,c8N,b0V]
 obtain ⟨v,h1,e1,c1,s1,v0,v1⟩:=a1t hc 5 (by omega) (by omega)
 obtain ⟨s,hs,hg⟩:=a2R lt98_45 v v0 v1
 have S1:St h o h1:=(St.refl hc).next c1 s1
 refine Wp.step e1 ?_
 simp only [bs,c8N]
 have hix:a0a tab a0D (.sl 1 true (lt98_45.map fun s=>[D.str s])) (.int .i64 v)=some (.fptr [.str s]):=by
  have:=a5n (SlOf.mk 1 (fun s=>[D.str s]) lt98_45 true) v
  rw [this,if_pos v0,hg];rfl
 simp only [hix,a4d,a9P,bs,c8N]
 obtain ⟨w,h2,e2,c2,s2,w0,w1⟩:=a1t S1.cd 2 (by omega) (by omega)
 have S2:=S1.next c2 s2
 refine Wp.step e2 ?_
 simp only [a0S,bs]
 refine Wp.join (P:=fun r=>∃ x g,∃ ns:List Str,r=(.nrm,[x],g)∧St h o g∧(SlOf 1 (fun s=>[D.str s]) ns x∨Own g h.length ty9 1 (ns.map fun s=>[D.str s]) x)∧ns.length≤2∧∀ n∈ns,b3C n) ?_ ?_ ?_
 ·intro _
  obtain ⟨u,h3,e3,c3,s3,hu⟩:=c1W S2.cd
  have S3:=S2.next c3 s3
  refine Wp.step e3 ?_
  simp only [a9P,bs,c8N]
  obtain ⟨x',g,e4,l4,q4,o4⟩:=b6J (T:=tab) (t:=a0D) (i:=c0H) (j:=ti9) (id rfl) (id rfl) (id rfl) (by decide) (h:=h3) (rows:=[[.str s]]) (y := .sl 1 true [[.str u]]) (ys:=[[.str u]]) (a1o _ _ _ _) (by rfl) (by simp)
  have e4:a0q tab h3 a0D a0D (.sl 1 true [[.str s]]) (.sl 1 true [[.str u]])=some (x',g):=e4
  simp only [e4,bs]
  refine .some ⟨x',g,[s,u],rfl,S3.app l4 fun q hq=>q4 q (by have:=S3.le;omega),.inr (o4.from S3.le),by simp,fun n hn=>?_⟩
  simp at hn
  rcases hn with rfl | rfl
  ·exact ok45 _ hs
  ·exact ok46 _ hu
 ·intro _
  exact .some ⟨_,_,[s],rfl,S2,.inl (.inr ⟨true,rfl⟩),by simp,fun n hn=>by simp at hn;subst hn;exact ok45 _ hs⟩
 ·rintro r ⟨x,g,ns,rfl,S,hx,hl,hn⟩
  simp only [a0l,bs,a0e,a0o]
  have hs4:SlOf 1 (fun s=>[D.str s]) ns (frz h.length g 4 x):=by
   rcases hx with hx | hx
   ·rw [a7u _ _ 3 hx];exact hx
   ·exact a2y hx (Nat.le_refl _) fun a _ y hy=>by simp at hy;subst hy;exact a3A _ _ _ _
  obtain ⟨h',e,cd,sm⟩:=S.scope (d:=x) rfl (a6p _ hs4)
  rw [e]
  exact .some ⟨cd,sm,ns,hs4,by omega,hn⟩
theorem c3R (zs:List Int) (d:D) (h:Hp) (hd:a3M .u8 zs d) (hz:∀ z∈zs,0≤z∧z<256):∃ (ns:List Str) (l:List Ev) (dn dl:D) (sz:Int) (o:Nat) (h':Hp),R a5T [d] h=some (.tup [dn,dl,.int .i64 sz,.ptr o 0 0],h')∧CD h' o∧CtOK ns dn∧SlOf 10 evr l dl∧a2Z l∧l.length≤600∧1≤sz∧sz≤5:=by
 obtain ⟨h0,e0,c0,l0⟩:=d44 zs d 500 h hd (by omega) (by omega) hz
 obtain ⟨ns,dn,h1,e1,c1,s1,C⟩:=c1V c0
 obtain ⟨dl,h2,e2,c2,s2,l,hl,hok,hll⟩:=d48 c1 7 (by omega) (by omega)
 obtain ⟨v,h3,e3,c3,s3,v0,v1⟩:=a1t c2 5 (by omega) (by omega)
 have w:IntKind.wrap .i64 (1+v)=1+v:=wrap_i64 (by omega) (by omega)
 refine ⟨ns,l,dn,dl,1+v,h.length,h3,?_,c3,C,hl,hok,hll,by omega,by omega⟩
 rw [c2d]
 simp only [b8B,bs,e0,e1,e2,e3,a0p,w]
 rfl
def rwa:Rw:=⟨[],.nils,.nils _ _,by simp,[1],.sl 1 true [[.int .i64 1]],.inr ⟨true,rfl⟩,by simp,0⟩
def rwb:Rw:=⟨[[98]],.sl 1 true [[.str [98]]],.inr ⟨true,rfl⟩,by simp,[2],.sl 1 true [[.int .i64 2]],.inr ⟨true,rfl⟩,by simp,0⟩
theorem c3Q (h:Hp):R a5S [] h=some (.bool true,h):=by
 obtain ⟨C,d',e,hp,hs,hd⟩:=c3T [rwa,rwb] (.sl 3 true [a0x rwa,a0x rwb]) 1 h (.inl (.inr ⟨true,rfl⟩)) (by simp)
 have hE:[rwb,rwa].Pairwise rS:=by
  refine List.pairwise_cons.2 ⟨fun x hx=>?_,by simp⟩
  simp at hx
  subst hx
  rw [b0C]
  left
  decide
 have hC:C=[rwb,rwa]:=b2X hs hE (hp.trans (List.Perm.swap _ _ _)) (by
  have:=(hp.map Rw.k).nodup_iff
  rw [this]
  simp [-bind_some, rwa,rwb])
 subst hC
 have hcut:a3r 1 ([rwa,rwb]:List Rw).length=1:=by decide
 rw [hcut] at hd
 have hd:SlOf 3 a0x [rwb] d':=hd
 have hb1:a0M tab a0j [1] [.sl 1 true [[.int .i64 1]]]=some (.agg (a0x rwa)):=id rfl
 have hb2:a0M tab a0j [0,1] [.sl 1 true [[.str [98]]],.sl 1 true [[.int .i64 2]]]=some (.agg (a0x rwb)):=id rfl
 have hl:a0A tab a0r 2 [0,1] [.agg (a0x rwa),.agg (a0x rwb)]=some (.sl 3 true [a0x rwa,a0x rwb]):=b3W _ _ _ _ _ _
 have h1:a0A tab a0Y 1 [0] [.int .i64 1]=some (.sl 1 true [[.int .i64 1]]):=id rfl
 have h2:a0A tab a0Y 1 [0] [.int .i64 2]=some (.sl 1 true [[.int .i64 2]]):=id rfl
 have h3:a0A tab a0D 1 [0] [.str [98]]=some (.sl 1 true [[.str [98]]]):=id rfl
 have hix:a0a tab a0r d' (.int .i64 0)=some (.fptr (a0x rwb)):=by rw [a7g hd];rfl
 have hn:a0w tab a0Y rwb.nd=some (.int .i64 1):=id rfl
 have hi:a0a tab a0Y rwb.nd (.int .i64 0)=some (.fptr [.int .i64 2]):=id rfl
 rw [c2c]
 simp only [b8A,bs,h1,h2,h3,hb1,hb2,hl,e,a2P hd,List.length_singleton,Int.natCast_one,a0S,decide_true,a0N,if_true,hix,c1t,c1u,hn,a0B,hi,a6d,a0o]
theorem b7E {g:Hp} {n1 m e z n:Nat} {rows:List (List D)} {d:D} (hd:Own g n1 e z rows d) (hn:m≤n1):(rows=[]∧frz m g (n+1) d = .nils)∨frz m g (n+1) d = .sl z false (rows.map fun row=>row.map (frz m g n)):=by
 rcases hd with ⟨rfl,hr⟩ | ⟨o,ho,rfl,hg⟩
 ·exact .inl ⟨hr,rfl⟩
 ·right
  have:Nat.ble m o=true:=by rw [Nat.ble_eq];omega
  simp only [Pi.frz,this,hg,List.drop_zero,c9k]
abbrev Cn:=List Str × Int × Int
def a9S:List Cn→Cn→List Cn
 | [],x=>[x]
 | y::r,x=>if a0W y.1 x.1<0 then y::a9S r x else x::y::r
def a6P (S:List Cn) (k:List Str) (w:Int):List Cn:=S.map fun c=>if c.1=k then (c.1,c.2.1+w,c.2.2) else c
def lst (S:List Cn):Nat→Nat
 | 0=>0
 | i+1=>if ((S[i]?).getD ([],0,0)).2.1<((S[lst S i]?).getD ([],0,0)).2.1 then i else lst S i
def a5E (S:List Cn):Int:=((S[lst S S.length]?).getD ([],0,0)).2.1
def obs (size:Int) (S:List Cn) (k:List Str) (w:Int):List Cn :=
 if k∈S.map (·.1) then a6P S k w
 else if (S.length:Int)<size then a9S S (k,w,0)
 else a9S (S.eraseIdx (lst S S.length)) (k,a5E S+w,a5E S)
theorem b0t (S:List Cn):∀ n,n≤S.length→0<n→lst S n<n
 | 0,_,h=>by omega
 | n+1,hn,_=>by
  unfold lst
  split
  ·omega
  ·by_cases h:n=0
   ·subst h;show lst S 0<1;unfold lst;omega
   ·have:=b0t S n (by omega) (by omega);omega
theorem b5X (S:List Cn):∀ n,n≤S.length→∀ i c,i<n→S[i]?=some c→((S[lst S n]?).getD ([],0,0)).2.1≤c.2.1
 | 0,_,i,c,h,_=>by omega
 | n+1,hn,i,c,h,hc=>by
  unfold lst
  by_cases hi:i=n
  ·subst hi
   rw [hc]
   split
   ·rw [hc];exact Int.le_refl _
   ·rename_i h1
    simp only [Option.getD_some] at h1
    omega
  ·have ih:=b5X S n (by omega) i c (by omega) hc
   split
   ·rename_i h1;omega
   ·exact ih
theorem b7z {S:List Cn} {c:Cn} (h:c∈S):a5E S≤c.2.1:=by
 obtain ⟨i,hi⟩:=List.mem_iff_getElem?.1 h
 exact b5X S S.length (Nat.le_refl _) i c (c9c.1 hi).1 hi
theorem a3P:∀ (S:List Cn) (x:Cn),(a9S S x).Perm (x::S)
 | [],x => .refl _
 | y::r,x=>by
  unfold a9S
  split
  ·exact ((a3P r x).cons y).trans (.swap _ _ _)
  ·exact .refl _
def CAsc (S:List Cn):Prop:=S.Pairwise fun a b=>a0W a.1 b.1<0
theorem a6Q:∀ (S:List Cn) (x:Cn),CAsc S→(∀ c∈S,c.1≠x.1)→CAsc (a9S S x)
 | [],x,_,_=>by simp [-bind_some, a9S,CAsc]
 | y::r,x,h,hx=>by
  have hr:=List.pairwise_cons.1 h
  unfold a9S
  split
  ·rename_i h1
   refine List.pairwise_cons.2 ⟨fun z hz=>?_,a6Q r x hr.2 fun c hc=>hx c (by simp [-bind_some, hc])⟩
   rcases c9h.1 ((a3P r x).mem_iff.1 hz) with rfl | hz
   ·exact h1
   ·exact hr.1 z hz
  ·rename_i h1
   have hne:¬ a0W y.1 x.1=0:=fun h0=>hx y (by simp) ((a1r _ _).1 h0)
   have hlt:a0W x.1 y.1<0:=by rw [a2g];omega
   refine List.pairwise_cons.2 ⟨fun z hz=>?_,h⟩
   rcases c9h.1 hz with rfl | hz
   ·exact hlt
   ·exact a3C hlt (hr.1 z hz)
theorem a2q (x:List Str):a0W x x=0:=(a1r x x).2 rfl
theorem CAsc.uniq {S:List Cn} (h:CAsc S) {a b:Cn} (ha:a∈S) (hb:b∈S) (e:a.1=b.1):a=b:=by
 induction S with
 | nil=>cases ha
 | cons y r ih =>
  have hr:=List.pairwise_cons.1 h
  rcases c9h.1 ha with rfl | ha' <;> rcases c9h.1 hb with rfl | hb'
  ·rfl
  ·have:=hr.1 b hb';rw [e,a2q] at this;omega
  ·have:=hr.1 a ha';rw [e,a2q] at this;omega
  ·exact ih hr.2 ha' hb'
theorem b3Z {S:List Cn} (h:CAsc S) (k:List Str) (w:Int):CAsc (a6P S k w):=by
 unfold a6P CAsc
 rw [List.pairwise_map]
 exact List.Pairwise.imp (fun {a b} hab=>by
  have:∀ c:Cn,(if c.1=k then ((c.1,c.2.1+w,c.2.2):Cn) else c).1=c.1:=fun c=>by split <;> rfl
  rw [this,this];exact hab) h
theorem a9Q (S:List Cn) (k:List Str) (w:Int):(a6P S k w).length=S.length:=by simp [-bind_some, a6P]
theorem b1w (S:List Cn) (k:List Str) (w:Int):(a6P S k w).map (·.1)=S.map (·.1):=by
 simp only [a6P,List.map_map]
 exact List.map_congr_left fun c _=>by simp only [Function.comp];split <;> rfl
def a2v (S:List Cn):Int:=(S.map (·.2.1)).sum
theorem a4R {S S':List Cn} (h:S.Perm S'):a2v S=a2v S':=by
 induction h with
 | nil=>rfl
 | cons x _ ih=>simp only [a2v,c8U,List.sum_cons] at ih ⊢;omega
 | swap x y l=>simp only [a2v,c8U,List.sum_cons];omega
 | trans _ _ i1 i2=>exact i1.trans i2
theorem a5Q:∀ (S:List Cn) (i:Nat) (m:Cn),S[i]?=some m→S.Perm (m::S.eraseIdx i)
 | [],i,m,h=>by simp at h
 | y::r,0,m,h=>by simp at h;subst h;exact .refl _
 | y::r,i+1,m,h=>by
  rw [c8Q] at h
  rw [List.eraseIdx_cons_succ]
  exact ((a5Q r i m h).cons y).trans (.swap _ _ _)
theorem a9R:∀ {S:List Cn},CAsc S→∀ (k:List Str) (w:Int),k∈S.map (·.1)→a2v (a6P S k w)=a2v S+w
 | [],_,k,w,h=>by cases h
 | y::r,h,k,w,hk=>by
  have hr:=List.pairwise_cons.1 h
  by_cases e:y.1=k
  ·have:a6P r k w=r:=by
     unfold a6P
     conv=>rhs;rw [← List.map_id r]
     refine List.map_congr_left fun c hc=>?_
     have h1:=hr.1 c hc
     rw [if_neg (fun e2=>by rw [e,e2,a2q] at h1;omega)]
     rfl
   have e2:a6P (y::r) k w=(y.1,y.2.1+w,y.2.2)::a6P r k w:=by simp [-bind_some, a6P,e]
   rw [e2,this]
   simp only [a2v,c8U,List.sum_cons]
   omega
  ·have hk':k∈r.map (·.1):=by
     rcases c9h.1 hk with h1 | h1
     ·exact absurd h1.symm e
     ·exact h1
   have e2:a6P (y::r) k w=y::a6P r k w:=by simp [-bind_some, a6P,e]
   have ih:=a9R hr.2 k w hk'
   rw [e2]
   simp only [a2v,c8U,List.sum_cons] at ih ⊢
   omega
structure Sk (T:List Str→Int) (tot size:Int) (S:List Cn):Prop where
 asc:CAsc S
 sum:a2v S=tot
 len:(S.length:Int)≤size
 bd:∀ c∈S,T c.1≤c.2.1∧c.2.1 - c.2.2≤T c.1
 ab:∀ k,k∉S.map (·.1)→((S.length:Int)<size→T k=0)∧((S.length:Int)=size→∀ c∈S,T k≤c.2.1)
def adT (T:List Str→Int) (k:List Str) (w:Int):List Str→Int:=fun k'=>if k'=k then T k'+w else T k'
theorem Sk.obs {T:List Str→Int} {tot size:Int} {S:List Cn} (h:Sk T tot size S) (hT:∀ k,0≤T k) (hs:1≤size) (k:List Str) (w:Int) (hw:0≤w):Sk (adT T k w) (tot+w) size (obs size S k w):=by
 unfold Proofs.YtehgglgadbmecaaGreatDoor.obs
 by_cases hk:k∈S.map (·.1)
 ·rw [if_pos hk]
  refine ⟨b3Z h.asc k w,by rw [a9R h.asc k w hk,h.sum],by rw [a9Q];exact h.len,fun c hc=>?_,fun k' hk'=>?_⟩
  ·obtain ⟨d,hd,rfl⟩:=c9j.1 hc
   have:=h.bd d hd
   unfold adT
   by_cases e:d.1=k
   ·simp only [e,if_true];rw [e] at this;omega
   ·simp only [e,if_false];exact this
  ·rw [b1w] at hk'
   obtain ⟨q1,q2⟩:=h.ab k' hk'
   have hne:k'≠k:=fun e=>hk' (e▸hk)
   rw [a9Q]
   unfold adT
   rw [if_neg hne]
   refine ⟨q1,fun hl c hc=>?_⟩
   obtain ⟨d,hd,rfl⟩:=c9j.1 hc
   have:=q2 hl d hd
   split
   ·show _≤d.2.1+w;omega
   ·exact this
 ·rw [if_neg hk]
  have hkc:∀ c∈S,c.1≠k:=fun c hc e=>hk (c9j.2 ⟨c,hc,e⟩)
  obtain ⟨a1,a2⟩:=h.ab k hk
  by_cases hl:(S.length:Int)<size
  ·rw [if_pos hl]
   have hp:=a3P S (k,w,0)
   have hlen:(a9S S (k,w,0)).length=S.length+1:=by rw [hp.length_eq];rfl
   refine ⟨a6Q S _ h.asc hkc,by rw [a4R hp];have:=h.sum;simp only [a2v,c8U,List.sum_cons] at this ⊢;omega,by rw [hlen];omega,fun c hc=>?_,fun k' hk'=>?_⟩
   ·unfold adT
    rcases c9h.1 (hp.mem_iff.1 hc) with rfl | hc
    ·simp only [if_true,a1 hl];omega
    ·rw [if_neg (hkc c hc)];exact h.bd c hc
   ·have hk2:k'∉((k,w,0)::S).map (·.1):=fun hh=>hk' ((hp.map _).mem_iff.2 hh)
    simp only [c8U,c9h,not_or] at hk2
    obtain ⟨b1,_⟩:=h.ab k' hk2.2
    unfold adT
    rw [if_neg hk2.1,b1 hl]
    refine ⟨fun _=>rfl,fun _ c hc=>?_⟩
    rcases c9h.1 (hp.mem_iff.1 hc) with rfl | hc
    ·exact hw
    ·have:=(h.bd c hc).1;have:=hT c.1;omega
  ·rw [if_neg hl]
   have hle:=h.len
   have hsz:(S.length:Int)=size:=by omega
   have hn:0<S.length:=by omega
   have hlt:=b0t S S.length (Nat.le_refl _) hn
   obtain ⟨m,hm⟩:∃ m,S[lst S S.length]?=some m:=⟨_,c9b hlt⟩
   have hc:a5E S=m.2.1:=by unfold a5E;rw [hm];rfl
   have hmS:m∈S:=c9a hm
   have hse:S.Perm (m::S.eraseIdx (lst S S.length)):=a5Q S _ m hm
   have hsub:(S.eraseIdx (lst S S.length)).Sublist S:=List.eraseIdx_sublist _ _
   have hsum:a2v S=m.2.1+a2v (S.eraseIdx (lst S S.length)):=by rw [a4R hse];simp [-bind_some, a2v]
   have hE:=hsub.length_le
   have hel:S.length=(S.eraseIdx (lst S S.length)).length+1:=hse.length_eq
   have hle2:=fun (c:Cn) (hcS:c∈S)=>b7z hcS
   generalize S.eraseIdx (lst S S.length)=E at *
   have hp:=a3P E (k,a5E S+w,a5E S)
   have hlen:(a9S E (k,a5E S+w,a5E S)).length=S.length:=by rw [hp.length_eq,hel];rfl
   have hEc:∀ c∈E,c∈S:=fun c hc=>hsub.subset hc
   refine ⟨a6Q E _ (h.asc.sublist hsub) fun c hc=>hkc c (hEc c hc),?_,by rw [hlen];exact h.len,fun c hcc=>?_,fun k' hk'=>?_⟩
   ·rw [a4R hp]
    have:=h.sum
    simp only [a2v,c8U,List.sum_cons] at this hsum ⊢
    omega
   ·unfold adT
    rcases c9h.1 (hp.mem_iff.1 hcc) with rfl | hcc
    ·have t1:=a2 hsz m hmS
     have t2:=hT k
     simp only [if_true,hc];omega
    ·rw [if_neg (hkc c (hEc c hcc))];exact h.bd c (hEc c hcc)
   ·have hk2:k'∉((k,a5E S+w,a5E S)::E).map (·.1):=fun hh=>hk' ((hp.map _).mem_iff.2 hh)
    simp only [c8U,c9h,not_or] at hk2
    unfold adT
    rw [if_neg hk2.1,hlen]
    refine ⟨fun h1=>absurd h1 hl,fun _ c hcc=>?_⟩
    have hTk:T k'≤a5E S:=by
     by_cases e:k'=m.1
     ·rw [e,hc];exact (h.bd m hmS).1
     ·have hk3:k'∉S.map (·.1):=fun hh=>by
        rcases c9h.1 ((hse.map (·.1)).mem_iff.1 hh) with h1 | h1
        ·exact e h1
        ·exact hk2.2 h1
      rw [hc]
      exact (h.ab k' hk3).2 hsz m hmS
    rcases c9h.1 (hp.mem_iff.1 hcc) with rfl | hcc
    ·show _≤a5E S+w;omega
    ·have:=hle2 c (hEc c hcc);omega
theorem b0r {α β:Type} (f:β→α→β) (P:List α→β→Prop) (hs:∀ pre a b,P pre b→P (pre++[a]) (f b a)):∀ (l pre:List α) (b:β),P pre b→P (pre++l) (l.foldl f b)
 | [],pre,b,h=>by rw [List.append_nil];exact h
 | a::r,pre,b,h=>by
  have:=b0r f P hs r (pre++[a]) (f b a) (hs pre a b h)
  rwa [List.append_assoc] at this
abbrev Ob1:=List Str × Int
def TL (ps:List Ob1) (k:List Str):Int:=((ps.filter fun p=>p.1==k).map (·.2)).sum
def b3F (ps:List Ob1):Int:=(ps.map (·.2)).sum
def WOK (ps:List Ob1):Prop:=∀ p∈ps,0≤p.2∧p.2≤5040
theorem b6H (ps:List Ob1) (p:Ob1):TL (ps++[p])=adT (TL ps) p.1 p.2:=by
 funext k
 unfold TL adT
 rw [List.filter_append,c8T,List.sum_append]
 by_cases h:k=p.1
 ·subst h;simp [-bind_some]
 ·have:(p.1==k)=false:=by simpa using fun e=>h e.symm
  simp [-bind_some, this,h]
theorem b3x (ps:List Ob1) (p:Ob1):b3F (ps++[p])=b3F ps+p.2:=by simp [-bind_some, b3F]
theorem b6G:∀ {ps:List Ob1},WOK ps→∀ k,0≤TL ps k
 | [],_,k=>by simp [-bind_some, TL]
 | p::r,h,k=>by
  have ih:=b6G (ps:=r) (fun q hq=>h q (by simp [-bind_some, hq])) k
  have:=(h p (by simp)).1
  unfold TL at ih ⊢
  by_cases e:(p.1==k)=true
  ·simp only [List.filter_cons,e,if_true,c8U,List.sum_cons];omega
  ·simp only [List.filter_cons,e,if_false,c8O];exact ih
theorem b3w:∀ {ps:List Ob1},WOK ps→0≤b3F ps∧b3F ps≤5040*ps.length
 | [],_=>by simp [-bind_some, b3F]
 | p::r,h=>by
  have ih:=b3w (ps:=r) fun q hq=>h q (by simp [-bind_some, hq])
  have:=h p (by simp)
  simp only [b3F,c8U,List.sum_cons,c9d] at ih ⊢
  omega
def skO (size:Int) (ps:List Ob1):List Cn:=ps.foldl (fun S p=>obs size S p.1 p.2) []
theorem WOK.pre {ps qs:List Ob1} (h:WOK (ps++qs)):WOK ps:=fun p hp=>h p (List.mem_append_left _ hp)
theorem c0D {size:Int} (hs:1≤size) (ps:List Ob1) (h:WOK ps):Sk (TL ps) (b3F ps) size (skO size ps):=by
 have:=b0r (fun S (p:Ob1)=>obs size S p.1 p.2) (fun pre S=>WOK pre→Sk (TL pre) (b3F pre) size S) (fun pre a S hP hw=>by
  have h1:=hP hw.pre
  have h2:=hw a (by simp)
  rw [b6H,b3x]
  exact h1.obs (b6G hw.pre) hs a.1 a.2 h2.1) ps [] [] (fun _=>⟨.nil,rfl,by show (0:Int)≤size;omega,by simp,fun k _=>⟨fun _=>rfl,fun h=>by simp at h;omega⟩⟩)
 exact this h
theorem a7H (y x:Cn) (r:List Cn):a9S (y::r) x=if a0W y.1 x.1<0 then y::a9S r x else x::y::r:=rfl
structure Ct where
 k:List Str
 kd:D
 hk:SlOf 1 (fun s=>[D.str s]) k kd
 hkl:k.length≤1000000
 n:Int
 e:Int
def ctr (c:Ct):List D:=[c.kd,.int .i64 c.n,.int .i64 c.e]
theorem a2b (c:Ct):(D.agg (ctr c)).okv=true:=by
 have h1:=a1L c.hk
 have h3:(D.agg (ctr c)) = .agg [c.kd,.int .i64 c.n,.int .i64 c.e]:=rfl
 rw [h3]
 generalize c.kd=a at h1
 simp [-bind_some, D.okv,h1,D.one]
theorem b5U {h:Hp} {q k T z:Nat} {rows:List (List D)} {p:Ct} (hq:h[q]?=some (.row T z rows)) (hk:rows[k]?=some (ctr p)):a0c tab h a0d (.ptr q k 0)=some (.agg (ctr p)):=by
 rw [a2O,a1g hq,hk]
 rfl
theorem c3C (c:Ct→Ct→Int) (cmp:D) (hc:∀ x y g,a1X R cmp [.agg (ctr x),.agg (ctr y)] g=some (.int .i64 (c x y),g)) (ob N a:Nat) (hN:N≤1000000000) {β:Type} {K:Out→Option β} {Q:β→Prop}
  (l:List Ct) (hl:l.length=N) (j:Nat) (hj:j<N) (h:Hp) (ho:h[ob]?=some (.row a0d 3 (l.map ctr))) (b:D)
  (k:∀ x y h',h'[ob]?=some (.row a0d 3 ((dn c a j l).map ctr))→Same ob h h'→Wp (K (.ext 2,[x,y],h')) Q) :
  Wp ((a0z (a6H (.msl 3 ob 0 N) (.int .i64 a) cmp) [.int .i64 j,b] h).bind K) Q:=by
 generalize hV:dn c a j l=V at k
 refine Wp.loop (fun n ds g=>∃ b,∃ j:Nat,∃ l':List Ct,n=j∧ds=[.int .i64 j,b]∧l'.length=N∧j<N∧g[ob]?=some (.row a0d 3 (l'.map ctr))∧Same ob h g∧dn c a j l'=V)
  (fun r=>r.1 = .ext 2∧(∃ x y,r.2.1=[x,y])∧r.2.2[ob]?=some (.row a0d 3 (V.map ctr))∧Same ob h r.2.2) j ⟨b,j,l,rfl,rfl,hl,hj,ho,.refl _ _,hV⟩ ?_ ?_
 ·clear ho hl hj hV l j
  rintro n ds g ⟨b,j,l,rfl,rfl,hl,hj,ho,sm,hV⟩
  simp only [a6H,a0e,a0h,bs,c8N,a1c]
  cases n with
  | zero =>
   have hq:¬ (a:Int)<((0:Nat):Int):=by omega
   have hV:l=V:=hV
   subst hV
   simp only [hq,decide_false,a0N,a1d,c8O,if_false,reduceCtorEq,bs,a0B,a0f]
   exact .some (.inr ⟨by simp,rfl,⟨_,_,rfl⟩,ho,sm⟩)
  | succ j =>
   have g1:l[j+1]?=some l[j+1]:=c9b (by omega)
   have g0:l[j]?=some l[j]:=c9b (by omega)
   unfold dn at hV
   rw [g1,g0] at hV
   simp only at hV
   generalize l[j+1]=x at g1 hV
   generalize l[j]=y at g0 hV
   by_cases ha:a<j+1
   ·have ha':(a:Int)<((j+1:Nat):Int):=by omega
    have hw:IntKind.wrap .i64 (((j+1:Nat):Int) - 1)=(j:Int):=by
     rw [wrap_i64 (by omega) (by omega)];omega
    have i1:(0:Int)≤((j+1:Nat):Int)∧((j+1:Nat):Int)<(N:Int):=by omega
    have i0:(0:Int)≤(j:Int)∧(j:Int)<(N:Int):=by omega
    have m1:(l.map ctr)[j+1]?=some (ctr x):=by rw [c8Z,g1];rfl
    have m0:(l.map ctr)[j]?=some (ctr y):=by rw [c8Z,g0];rfl
    simp only [ha',decide_true,a0N,a1d,if_true,a2B,i1,i0,and_self,Nat.zero_add,c8V,a0E,hw,bs,b5U ho m1,b5U ho m0,hc,a0n,a0B]
    by_cases hlt:c x y<0
    ·rw [if_pos ⟨ha,hlt⟩] at hV
     simp only [hlt,decide_true,a0f,if_true]
     refine a2c ho m1 (by rfl) (by simp [-bind_some, ctr]) (a2b _) fun g2 p2 s2=>?_
     rw [show spl (ctr x) 0 (a0u (.agg (ctr y)))=ctr y from id rfl,a2U] at p2
     have m2:((l.set (j+1) y).map ctr)[j]?=some (ctr y):=by
      rw [c8Z,c9m (by omega),g0];rfl
     try simp only [bs,i0,and_self,if_true,Nat.zero_add,c8V]
     refine a2c p2 m2 (by rfl) (by simp [-bind_some, ctr]) (a2b _) fun g3 p3 s3=>?_
     rw [show spl (ctr y) 0 (a0u (.agg (ctr x)))=ctr x from id rfl,a2U] at p3
     try simp only [bs]
     exact .some (.inl ⟨rfl,j,by omega,_,j,_,rfl,rfl,by simpa using hl,by omega,p3,(sm.trans s2).trans s3,hV⟩)
    ·rw [if_neg (fun hh=>hlt hh.2)] at hV
     subst hV
     simp only [hlt,decide_false,a0f,c8O,if_false]
     exact .some (.inr ⟨by simp,rfl,⟨_,_,rfl⟩,ho,sm⟩)
   ·rw [if_neg (fun hh=>ha hh.1)] at hV
    subst hV
    have ha':¬ (a:Int)<((j+1:Nat):Int):=by omega
    simp only [ha',decide_false,a0N,a1d,c8O,if_false,reduceCtorEq,bs,a0B,a0f]
    exact .some (.inr ⟨by simp,rfl,⟨_,_,rfl⟩,ho,sm⟩)
 ·rintro ⟨x,ds,g⟩ ⟨rfl,⟨u,v,rfl⟩,h1,h2⟩
  exact k u v g h1 h2
theorem c4p (c:Ct→Ct→Int) (cmp:D) (hc:∀ x y g,a1X R cmp [.agg (ctr x),.agg (ctr y)] g=some (.int .i64 (c x y),g)) (ob N a b:Nat) (hN:N≤1000000000) (hab:a<b∨(a=b∧b≤N)) (hb:b≤N)
  (l:List Ct) (hl:l.length=N) (h:Hp) (ho:h[ob]?=some (.row a0d 3 (l.map ctr))) :
  ∃ d h',R a5j [.msl 3 ob 0 N,.int .i64 a,.int .i64 b,cmp] h=some (d,h')∧h'[ob]?=some (.row a0d 3 ((isr c a (a+1) (b - (a+1)) l).map ctr))∧Same ob h h':=by
 suffices Wp (R a5j [.msl 3 ob 0 N,.int .i64 a,.int .i64 b,cmp] h) (fun p=>p.2[ob]?=some (.row a0d 3 ((isr c a (a+1) (b - (a+1)) l).map ctr))∧Same ob h p.2) by
  obtain ⟨⟨x,h'⟩,h1,h2⟩:=this
  exact ⟨x,h',h1,h2⟩
 rw [b9K]
 have hw:=wi_ a (by omega)
 simp only [b6D,bs,c8N,a0p,hw]
 generalize hV:isr c a (a+1) (b - (a+1)) l=V
 refine Wp.loop (fun n ds g=>∃ u v w,∃ i:Nat,∃ l':List Ct,ds=[.int .i64 i,u,v,w]∧n=b - i∧l'.length=N∧g[ob]?=some (.row a0d 3 (l'.map ctr))∧Same ob h g∧isr c a i (b - i) l'=V)
  (fun r=>r.1 = .ext 0∧r.2.2[ob]?=some (.row a0d 3 (V.map ctr))∧Same ob h r.2.2) (b - (a+1)) ⟨_,_,_,a+1,l,rfl,rfl,hl,ho,.refl _ _,hV⟩ ?_ ?_
 ·rintro n ds g ⟨u,v,w,i,l',rfl,rfl,hl',ho',sm,hV⟩
  simp only [a6G,a0e,a0h,bs,c8N,a0n]
  refine Wp.dif ?_ ?_
  ·intro h0
   have h0:i<b:=by
    have:(i:Int)<(b:Int):=by simpa using h0
    omega
   have hb1:b - i=(b - (i+1))+1:=by omega
   rw [hb1] at hV
   unfold isr at hV
   have hw2:=wi_ i (by omega)
   refine c3C c cmp hc ob N a hN l' hl' i (by omega) g ho' _ fun x y g2 p2 s2=>?_
   simp only [a0m,a0F,a0l,bs,a0e,a0p,hw2]
   exact .some (.inl ⟨rfl,b - (i+1),by omega,_,_,_,i+1,_,rfl,rfl,by rw [b1I];exact hl',p2,sm.trans s2,hV⟩)
  ·intro h0
   have h0:¬ i<b:=by
    have:¬ (i:Int)<(b:Int):=by simpa using h0
    omega
   rw [show b - i=0 by omega] at hV
   have hV:l'=V:=hV
   subst hV
   exact .some (.inr ⟨by simp,rfl,ho',sm⟩)
 ·rintro ⟨x,ds,g⟩ ⟨rfl,h1,h2⟩
  simp only [a0m,a1I,bs]
  exact .some ⟨h1,h2⟩
theorem a4B {g:Hp} {o n:Nat} {rows:List Ct} {p:Ct} (ho:g[o]?=some (.row a0d 3 (rows.map ctr))) (hp:rows[n]?=some p):a0c tab g a0d (.ptr o n 0)=some (.agg (ctr p)):=by
 have hr:(rows.map ctr)[n]?=some (ctr p):=by rw [c8Z,hp];rfl
 rw [a2O,a1g ho,hr]
 rfl
theorem b8e {g:Hp} {o N:Nat} {P X M Y Q:List Ct} (hN:N≤1000000000) (hlen:(P++X++M++Y++Q).length=N) (hxy:X.length=Y.length) (ho:g[o]?=some (.row a0d 3 ((P++X++M++Y++Q).map ctr))) (cmp:D) (a b k:Int) (ha:a=P.length) (hb:b=(P.length+X.length+M.length:Nat)) (hk:k=X.length) {β:Type} {f:D × Hp→Option β} {R1:β→Prop}
  (K:∀ g',g'[o]?=some (.row a0d 3 ((P++Y++M++X++Q).map ctr))→Same o g g'→Wp (f (a0i [],g')) R1):Wp ((R a8h [.msl 3 o 0 N,.int .i64 a,.int .i64 b,.int .i64 k,cmp] g).bind f) R1:=by
 subst ha hb hk
 rw [c2S]
 simp only [b9m,bs,c8N]
 simp only [c8R] at hlen
 refine Wp.loop (fun kk ds g'=>∃ x,∃ i:Nat,ds=[.int .i64 i,x]∧kk+i=X.length∧Same o g g'∧g'[o]?=some (.row a0d 3 ((P++Y.take i++X.drop i++M++X.take i++Y.drop i++Q).map ctr)))
  (fun r=>r.1 = .ext 0∧(∃ x y,r.2.1=[x,y])∧Same o g r.2.2∧r.2.2[o]?=some (.row a0d 3 ((P++Y++M++X++Q).map ctr))) X.length ⟨_,0,rfl,rfl,⟨rfl,fun _ _=>rfl⟩,by simpa using ho⟩ ?_ ?_
 ·rintro kk ds g' ⟨x1,i,rfl,hk,sm,ho'⟩
  simp only [a9M,a0e,a0h,bs,c8N,a0n]
  refine Wp.dif ?_ ?_
  ·intro h0
   have h0:i<X.length:=dl_ h0
   obtain ⟨x,hx⟩:=gx_ h0
   obtain ⟨y,hy⟩:∃ y,Y[i]?=some y:=⟨_,c9b (by omega)⟩
   have hdx:X.drop i=x::X.drop (i+1):=by
    obtain ⟨hn,hh⟩:=c9c.1 hx
    rw [List.drop_eq_getElem_cons hn,hh]
   have hdy:Y.drop i=y::Y.drop (i+1):=by
    obtain ⟨hn,hh⟩:=c9c.1 hy
    rw [List.drop_eq_getElem_cons hn,hh]
   have hw:=wi_ i (by omega)
   have wa:IntKind.wrap .i64 ((P.length:Int)+i)=((P.length+i:Nat):Int):=by
    rw [wrap_i64 (by omega) (by omega)];omega
   have wb:IntKind.wrap .i64 (((P.length+X.length+M.length:Nat):Int)+i)=((P.length+X.length+M.length+i:Nat):Int):=by
    rw [wrap_i64 (by omega) (by omega)];omega
   have e1:P++Y.take i++X.drop i++M++X.take i++Y.drop i++Q=(P++Y.take i)++x::(X.drop (i+1)++M++X.take i++y::(Y.drop (i+1)++Q)):=by rw [hdx,hdy];simp [-bind_some]
   have e2:(P++Y.take i)++x::(X.drop (i+1)++M++X.take i++y::(Y.drop (i+1)++Q))=(P++Y.take i++x::(X.drop (i+1)++M++X.take i))++y::(Y.drop (i+1)++Q):=by simp
   have e3:(P++Y.take i)++y::(X.drop (i+1)++M++X.take i++y::(Y.drop (i+1)++Q))=(P++Y.take i++y::(X.drop (i+1)++M++X.take i))++y::(Y.drop (i+1)++Q):=by simp
   have e4:(P++Y.take i++y::(X.drop (i+1)++M++X.take i))++x::(Y.drop (i+1)++Q)=P++Y.take (i+1)++X.drop (i+1)++M++X.take (i+1)++Y.drop (i+1)++Q:=by
    rw [c8Y,c8Y,hx,hy];simp [-bind_some]
   have n1:(P++Y.take i).length=P.length+i:=by simp;omega
   have n2:∀ z,(P++Y.take i++z::(X.drop (i+1)++M++X.take i)).length=P.length+X.length+M.length+i:=fun z=>by simp;omega
   rw [e1] at ho'
   have la:=a4B ho' (a0J _ _ x _ n1)
   have lb:=a4B ho' (by rw [e2];exact a0J _ _ y _ (n2 x))
   have ia:a0a tab a0g (.msl 3 o 0 N) (.int .i64 ((P.length+i:Nat):Int))=some (.ptr o (P.length+i) 0):=by rw [a2B,if_pos (by omega),c8V,Nat.zero_add]
   have ib:a0a tab a0g (.msl 3 o 0 N) (.int .i64 ((P.length+X.length+M.length+i:Nat):Int))=some (.ptr o (P.length+X.length+M.length+i) 0):=by rw [a2B,if_pos (by omega),c8V,Nat.zero_add]
   simp only [a0p,wa,wb,ia,ib,la,lb,bs,c8N]
   have ra:(((P++Y.take i)++x::(X.drop (i+1)++M++X.take i++y::(Y.drop (i+1)++Q))).map ctr)[P.length+i]?=some (ctr x):=by rw [c8Z,a0J _ _ x _ n1];rfl
   refine a2c (off:=0) (row:=ctr x) (v := .agg (ctr y)) ho' ra (by rfl) (by exact Nat.le_refl _) (a2b _) fun g1 p1 w1=>?_
   have p1:g1[o]?=some (.row a0d 3 (((P++Y.take i++y::(X.drop (i+1)++M++X.take i))++y::(Y.drop (i+1)++Q)).map ctr)):=by
    rw [p1,show spl (ctr x) 0 (a0u (.agg (ctr y)))=ctr y from rfl,← List.map_set,a2i _ _ x y _ n1,e3]
   try simp only [bs]
   have rb:(((P++Y.take i++y::(X.drop (i+1)++M++X.take i))++y::(Y.drop (i+1)++Q)).map ctr)[P.length+X.length+M.length+i]?=some (ctr y):=by rw [c8Z,a0J _ _ y _ (n2 y)];rfl
   refine a2c (off:=0) (row:=ctr y) (v := .agg (ctr x)) p1 rb (by rfl) (by exact Nat.le_refl _) (a2b _) fun g2 p2 w2=>?_
   have p2:g2[o]?=some (.row a0d 3 ((P++Y.take (i+1)++X.drop (i+1)++M++X.take (i+1)++Y.drop (i+1)++Q).map ctr)):=by
    rw [p2,show spl (ctr y) 0 (a0u (.agg (ctr x)))=ctr x from rfl,← List.map_set,a2i _ _ y x _ (n2 y),e4]
   simp only [bs,hw]
   exact .some (.inl ⟨rfl,kk - 1,by omega,_,i+1,rfl,by omega,(sm.trans w1).trans w2,p2⟩)
  ·intro h0
   have h0:i=X.length:=by
    have:¬ (i:Int)<X.length:=by simpa using h0
    omega
   subst h0
   refine .some (.inr ⟨by simp,rfl,⟨_,_,rfl⟩,sm,?_⟩)
   rw [ho',hxy,c9k,List.drop_length,← hxy,c9k,List.drop_length]
   simp [-bind_some]
 ·rintro ⟨ex,ds,g'⟩ ⟨rfl,⟨x,y,rfl⟩,sm,p⟩
  simp only [a0m,a1I,bs]
  exact K g' p sm
theorem c4J {g:Hp} {o N:Nat} {P U V Q:List Ct} (hN:N≤1000000000) (hlen:(P++U++V++Q).length=N) (hU:0<U.length) (hV:0<V.length) (ho:g[o]?=some (.row a0d 3 ((P++U++V++Q).map ctr))) (cmp:D) (a m b:Int) (ha:a=P.length) (hm:m=(P.length+U.length:Nat)) (hb:b=(P.length+U.length+V.length:Nat)) {β:Type} {f:D × Hp→Option β} {R1:β→Prop}
  (K:∀ g',g'[o]?=some (.row a0d 3 ((P++V++U++Q).map ctr))→Same o g g'→Wp (f (a0i [],g')) R1):Wp ((R b2h [.msl 3 o 0 N,.int .i64 a,.int .i64 m,.int .i64 b,cmp] g).bind f) R1:=by
 obtain ⟨mm,hmm⟩:∃ mm:Nat,mm=P.length+U.length:=⟨_,rfl⟩
 rw [← hmm] at hm
 subst ha hm hb
 have hl:=hlen
 simp only [c8R] at hl
 have w1:IntKind.wrap .i64 ((mm:Int) - (P.length:Int))=(U.length:Int):=by rw [wrap_i64 (by omega) (by omega)];omega
 have w2:IntKind.wrap .i64 (((P.length+U.length+V.length:Nat):Int) - (mm:Int))=(V.length:Int):=by rw [wrap_i64 (by omega) (by omega)];omega
 rw [c2R]
 simp only [b9l,bs,c8N,a0E,w1,w2]
 refine Wp.loop (fun kk ds g'=>∃ x y,∃ P' U' V' Q':List Ct,ds=[.int .i64 U'.length,.int .i64 V'.length,x,y]∧kk=U'.length+V'.length∧0<U'.length∧0<V'.length∧P'.length+U'.length=mm∧P'++V'++U'++Q'=P++V++U++Q∧(P'++U'++V'++Q').length=N∧Same o g g'∧g'[o]?=some (.row a0d 3 ((P'++U'++V'++Q').map ctr)))
  (fun r=>r.1 = .ext 0∧∃ x y,∃ P' U' V' Q':List Ct,r.2.1=[.int .i64 U'.length,.int .i64 V'.length,x,y]∧U'.length=V'.length∧P'.length+U'.length=mm∧P'++V'++U'++Q'=P++V++U++Q∧(P'++U'++V'++Q').length=N∧Same o g r.2.2∧r.2.2[o]?=some (.row a0d 3 ((P'++U'++V'++Q').map ctr)))
  (U.length+V.length) ⟨_,_,P,U,V,Q,rfl,rfl,hU,hV,by omega,rfl,hlen,⟨rfl,fun _ _=>rfl⟩,ho⟩ ?_ ?_
 ·rintro kk ds g' ⟨x,y,P',U',V',Q',rfl,hk,h1,h2,h3,h4,h5,sm,ho'⟩
  have hl':=h5
  simp only [c8R] at hl'
  simp only [a9L,a0e,a0h,bs,c8N,a2d]
  refine Wp.dif ?_ ?_
  ·intro h0
   have h0:U'.length≠V'.length:=by
    have:¬ (U'.length:Int)=V'.length:=by simpa using h0
    omega
   simp only [a1c,bs]
   have wi:IntKind.wrap .i64 ((mm:Int) - (U'.length:Int))=(P'.length:Int):=by rw [wrap_i64 (by omega) (by omega)];omega
   by_cases hgt:V'.length<U'.length
   ·have hd:decide ((U'.length:Int)>(V'.length:Int))=true:=decide_eq_true (by omega)
    obtain ⟨X,M,hXM,hXl⟩:∃ X M,U'=X++M∧X.length=V'.length:=⟨U'.take V'.length,U'.drop V'.length,(List.take_append_drop _ _).symm,by simp;omega⟩
    subst hXM
    simp only [c8R] at *
    have wd:IntKind.wrap .i64 (((X.length+M.length:Nat):Int) - (V'.length:Int))=(M.length:Int):=by rw [wrap_i64 (by omega) (by omega)];omega
    simp only [hd,a0f,if_true,a0E,wi,wd,bs,c8N]
    refine b8e (P:=P') (X:=X) (M:=M) (Y:=V') (Q:=Q') hN (by simp only [c8R];omega) hXl (by simpa using ho') cmp _ _ _ rfl (by omega) (by omega) fun g1 p1 s1'=>?_
    simp only [bs,a0F,a0e,a0h]
    rw [← hXl]
    refine .some (.inl ⟨rfl,M.length+X.length,by omega,_,_,P'++V',M,X,Q',rfl,rfl,by omega,by omega,by simp only [c8R];omega,by rw [← h4];simp [-bind_some],by simp only [c8R];omega,sm.trans s1',by rw [p1]⟩)
   ·have hd:decide ((U'.length:Int)>(V'.length:Int))=false:=decide_eq_false (by omega)
    obtain ⟨M,Y,hMY,hYl⟩:∃ M Y,V'=M++Y∧Y.length=U'.length:=⟨V'.take (V'.length - U'.length),V'.drop (V'.length - U'.length),(List.take_append_drop _ _).symm,by simp;omega⟩
    subst hMY
    simp only [c8R] at *
    have we:IntKind.wrap .i64 ((mm:Int)+((M.length+Y.length:Nat):Int))=((mm+(M.length+Y.length):Nat):Int):=by rw [wrap_i64 (by omega) (by omega)];omega
    have wf':IntKind.wrap .i64 (((mm+(M.length+Y.length):Nat):Int) - (U'.length:Int))=((P'.length+U'.length+M.length:Nat):Int):=by rw [wrap_i64 (by omega) (by omega)];omega
    have wd:IntKind.wrap .i64 (((M.length+Y.length:Nat):Int) - (U'.length:Int))=(M.length:Int):=by rw [wrap_i64 (by omega) (by omega)];omega
    simp only [hd,a0f,c8O,if_false,a0E,a0p,wi,we,wf',wd,bs,c8N]
    refine b8e (P:=P') (X:=U') (M:=M) (Y:=Y) (Q:=Q') hN (by simp only [c8R];omega) hYl.symm (by simpa using ho') cmp _ _ _ rfl rfl rfl fun g1 p1 s1'=>?_
    simp only [bs,a0F,a0e,a0h]
    rw [← hYl]
    refine .some (.inl ⟨rfl,Y.length+M.length,by omega,_,_,P',Y,M,U'++Q',rfl,rfl,by omega,by omega,by omega,by rw [← h4];simp [-bind_some],by simp only [c8R];omega,sm.trans s1',by rw [p1];simp [-bind_some]⟩)
  ·intro h0
   have h0:U'.length=V'.length:=by
    have:(U'.length:Int)=V'.length:=by simpa using h0
    omega
   exact .some (.inr ⟨by simp,rfl,_,_,P',U',V',Q',rfl,h0,h3,h4,h5,sm,ho'⟩)
 ·rintro ⟨ex,ds,g'⟩ ⟨rfl,x,y,P',U',V',Q',rfl,h0,h3,h4,h5,sm,ho'⟩
  have hl':=h5
  simp only [c8R] at hl'
  have wi:IntKind.wrap .i64 ((mm:Int) - (U'.length:Int))=(P'.length:Int):=by rw [wrap_i64 (by omega) (by omega)];omega
  simp only [a0m,a0l,a0e,a0h,bs,c8N,a0E,wi]
  refine b8e (P:=P') (X:=U') (M:=[]) (Y:=V') (Q:=Q') hN (by simp only [c8R,c9e];omega) h0 (by simpa using ho') cmp _ _ _ rfl (by simp only [c9e];omega) rfl fun g1 p1 s1'=>?_
  simp only [bs]
  refine K g1 ?_ (sm.trans s1')
  rw [p1,← h4]
  simp [-bind_some]
theorem b5c {g:Hp} {o:Nat} {A B:List Ct} {x y:Ct} {n:Nat} (hn:A.length=n) (ho:g[o]?=some (.row a0d 3 ((A++x::y::B).map ctr))) {β:Type} {f:Hp→Option β} {Q:β→Prop}
  (K:∀ g',g'[o]?=some (.row a0d 3 ((A++y::x::B).map ctr))→Same o g g'→Wp (f g') Q):Wp ((a0t tab g a0d (.ptr o n 0) (.agg (ctr y))).bind fun g1=>(a0t tab g1 a0d (.ptr o (n+1) 0) (.agg (ctr x))).bind f) Q:=by
 have ra:((A++x::y::B).map ctr)[n]?=some (ctr x):=by rw [c8Z,a0J _ _ x _ hn];rfl
 refine a2c (off:=0) (row:=ctr x) (v := .agg (ctr y)) ho ra (by rfl) (by exact Nat.le_refl _) (a2b _) fun g1 p1 w1=>?_
 have e1:A++y::y::B=(A++[y])++y::B:=by simp
 have n1:(A++[y]).length=n+1:=by simp [-bind_some, hn]
 have p1:g1[o]?=some (.row a0d 3 (((A++[y])++y::B).map ctr)):=by
  rw [p1,show spl (ctr x) 0 (a0u (.agg (ctr y)))=ctr y from rfl,← List.map_set,a2i _ _ x y _ hn,e1]
 have rb:(((A++[y])++y::B).map ctr)[n+1]?=some (ctr y):=by rw [c8Z,a0J _ _ y _ n1];rfl
 refine a2c (off:=0) (row:=ctr y) (v := .agg (ctr x)) p1 rb (by rfl) (by exact Nat.le_refl _) (a2b _) fun g2 p2 w2=>?_
 refine K g2 ?_ (w1.trans w2)
 rw [p2,show spl (ctr y) 0 (a0u (.agg (ctr x)))=ctr x from rfl,← List.map_set,a2i _ _ y x _ n1]
 simp [-bind_some]
theorem b3r {g:Hp} {o:Nat} {A B:List Ct} {x y:Ct} {n:Nat} (hn:A.length=n) (ho:g[o]?=some (.row a0d 3 ((A++x::y::B).map ctr))) {β:Type} {f:Hp→Option β} {Q:β→Prop}
  (K:∀ g',g'[o]?=some (.row a0d 3 ((A++y::x::B).map ctr))→Same o g g'→Wp (f g') Q):Wp ((a0t tab g a0d (.ptr o (n+1) 0) (.agg (ctr x))).bind fun g1=>(a0t tab g1 a0d (.ptr o n 0) (.agg (ctr y))).bind f) Q:=by
 have e1:A++x::y::B=(A++[x])++y::B:=by simp
 have n1:(A++[x]).length=n+1:=by simp [-bind_some, hn]
 rw [e1] at ho
 have rb:(((A++[x])++y::B).map ctr)[n+1]?=some (ctr y):=by rw [c8Z,a0J _ _ y _ n1];rfl
 refine a2c (off:=0) (row:=ctr y) (v := .agg (ctr x)) ho rb (by rfl) (by exact Nat.le_refl _) (a2b _) fun g1 p1 w1=>?_
 have p1:g1[o]?=some (.row a0d 3 ((A++x::x::B).map ctr)):=by
  rw [p1,show spl (ctr y) 0 (a0u (.agg (ctr x)))=ctr x from rfl,← List.map_set,a2i _ _ y x _ n1]
  simp [-bind_some]
 have ra:((A++x::x::B).map ctr)[n]?=some (ctr x):=by rw [c8Z,a0J _ _ x _ hn];rfl
 refine a2c (off:=0) (row:=ctr x) (v := .agg (ctr y)) p1 ra (by rfl) (by exact Nat.le_refl _) (a2b _) fun g2 p2 w2=>?_
 refine K g2 ?_ (w1.trans w2)
 rw [p2,show spl (ctr x) 0 (a0u (.agg (ctr y)))=ctr y from rfl,← List.map_set,a2i _ _ x y _ hn]
theorem a3v {o N n:Nat} (h:n<N):a0a tab a0g (.msl 3 o 0 N) (.int .i64 (n:Int))=some (.ptr o n 0):=by rw [a2B,if_pos (by omega),c8V,Nat.zero_add]
theorem c8G {g:Hp} {o N:Nat} {P A Q:List Ct} {x:Ct} (hN:N≤1000000000) (hlen:(P++x::A++Q).length=N) (ho:g[o]?=some (.row a0d 3 ((P++x::A++Q).map ctr))) (r14:Out) (hr:nth 0 r14.2.1 = .int .i64 ((P.length+A.length+1:Nat):Int)) (a:Int) (ha:a=P.length) (x1:D) {β:Type} {f:Out→Option β} {R1:β→Prop}
  (K:∀ g' b1 b2,g'[o]?=some (.row a0d 3 ((P++A++x::Q).map ctr))→Same o g g'→Wp (f (.ext 2,[b1,b2],g')) R1):Wp ((a0z (a6L (.msl 3 o 0 N) r14) [.int .i64 a,x1] g).bind f) R1:=by
 subst ha
 simp only [c8R,c9d] at hlen
 refine Wp.loop (fun kk ds g'=>∃ y,∃ i:Nat,ds=[.int .i64 ((P.length+i:Nat):Int),y]∧kk+i=A.length∧Same o g g'∧g'[o]?=some (.row a0d 3 ((P++A.take i++x::(A.drop i++Q)).map ctr)))
  (fun r=>r.1 = .ext 2∧(∃ b1 b2,r.2.1=[b1,b2])∧Same o g r.2.2∧r.2.2[o]?=some (.row a0d 3 ((P++A++x::Q).map ctr))) A.length ⟨_,0,rfl,rfl,⟨rfl,fun _ _=>rfl⟩,by simpa using ho⟩ ?_ ?_
 ·rintro kk ds g' ⟨y1,i,rfl,hk,sm,ho'⟩
  have w0:IntKind.wrap .i64 (((P.length+A.length+1:Nat):Int) - 1)=((P.length+A.length:Nat):Int):=by rw [wrap_i64 (by omega) (by omega)];omega
  simp only [a6L,a0e,a0h,bs,c8N,hr,a0E,w0,a0n]
  refine Wp.dif ?_ ?_
  ·intro h0
   have h0:i<A.length:=by
    have:((P.length+i:Nat):Int)<((P.length+A.length:Nat):Int):=by simpa using h0
    omega
   obtain ⟨y,hy⟩:=gx_ h0
   have hdy:A.drop i=y::A.drop (i+1):=by
    obtain ⟨hn,hh⟩:=c9c.1 hy
    rw [List.drop_eq_getElem_cons hn,hh]
   have hw:IntKind.wrap .i64 (((P.length+i:Nat):Int)+1)=((P.length+i+1:Nat):Int):=by
    rw [wrap_i64 (by omega) (by omega)];omega
   have e1:P++A.take i++x::(A.drop i++Q)=(P++A.take i)++x::y::(A.drop (i+1)++Q):=by rw [hdy];simp [-bind_some]
   have e2:(P++A.take i++[x])++y::(A.drop (i+1)++Q)=(P++A.take i)++x::y::(A.drop (i+1)++Q):=by simp
   have n1:(P++A.take i).length=P.length+i:=by simp;omega
   have n2:(P++A.take i++[x]).length=P.length+i+1:=by simp;omega
   rw [e1] at ho'
   have la:=a4B ho' (a0J _ _ x _ n1)
   have lb:=a4B ho' (by rw [← e2];exact a0J _ _ y _ n2)
   have ia:=@a3v o N (P.length+i) (by omega)
   have ib:=@a3v o N (P.length+i+1) (by omega)
   simp only [a0p,hw,ia,ib,la,lb,bs,c8N]
   refine b5c n1 ho' fun g2 p2 w2=>?_
   try simp only [bs]
   refine .some (.inl ⟨rfl,kk - 1,by omega,_,i+1,rfl,by omega,sm.trans w2,?_⟩)
   rw [p2,c8Y,hy]
   simp [-bind_some]
  ·intro h0
   have h0:i=A.length:=by
    have:¬ ((P.length+i:Nat):Int)<((P.length+A.length:Nat):Int):=by simpa using h0
    omega
   subst h0
   rw [c9k,List.drop_length] at ho'
   exact .some (.inr ⟨by simp,rfl,⟨_,_,rfl⟩,sm,by simpa using ho'⟩)
 ·rintro ⟨ex,ds,g'⟩ ⟨rfl,⟨b1,b2,rfl⟩,sm,p⟩
  exact K g' b1 b2 p sm
theorem c8C {g:Hp} {o N:Nat} {P A Q:List Ct} {x:Ct} (hN:N≤1000000000) (hlen:(P++A++x::Q).length=N) (ho:g[o]?=some (.row a0d 3 ((P++A++x::Q).map ctr))) (r9:Out) (hr:nth 0 r9.2.1 = .int .i64 (P.length:Int)) (m:Int) (hm:m=(P.length+A.length:Nat)) (x1:D) {β:Type} {f:Out→Option β} {R1:β→Prop}
  (K:∀ g' b1 b2,g'[o]?=some (.row a0d 3 ((P++x::A++Q).map ctr))→Same o g g'→Wp (f (.ext 6,[b1,b2],g')) R1):Wp ((a0z (a6J (.msl 3 o 0 N) r9) [.int .i64 m,x1] g).bind f) R1:=by
 subst hm
 simp only [c8R,c9d] at hlen
 refine Wp.loop (fun kk ds g'=>∃ y,ds=[.int .i64 ((P.length+kk:Nat):Int),y]∧kk≤A.length∧Same o g g'∧g'[o]?=some (.row a0d 3 ((P++A.take kk++x::(A.drop kk++Q)).map ctr)))
  (fun r=>r.1 = .ext 6∧(∃ b1 b2,r.2.1=[b1,b2])∧Same o g r.2.2∧r.2.2[o]?=some (.row a0d 3 ((P++x::A++Q).map ctr))) A.length ⟨_,rfl,Nat.le_refl _,⟨rfl,fun _ _=>rfl⟩,by simpa using ho⟩ ?_ ?_
 ·rintro kk ds g' ⟨y1,rfl,hk,sm,ho'⟩
  simp only [a6J,a0e,a0h,bs,c8N,hr,a1c]
  refine Wp.dif ?_ ?_
  ·intro h0
   have h0:0<kk:=by
    have:((P.length+kk:Nat):Int)>(P.length:Int):=by simpa using h0
    omega
   obtain ⟨i,rfl⟩:∃ i,kk=i+1:=⟨kk - 1,by omega⟩
   obtain ⟨y,hy⟩:∃ y,A[i]?=some y:=⟨_,c9b (by omega)⟩
   have hdy:A.drop i=y::A.drop (i+1):=by
    obtain ⟨hn,hh⟩:=c9c.1 hy
    rw [List.drop_eq_getElem_cons hn,hh]
   have hw:IntKind.wrap .i64 (((P.length+(i+1):Nat):Int) - 1)=((P.length+i:Nat):Int):=by
    rw [wrap_i64 (by omega) (by omega)];omega
   have e1:P++A.take (i+1)++x::(A.drop (i+1)++Q)=(P++A.take i)++y::x::(A.drop (i+1)++Q):=by rw [c8Y,hy];simp [-bind_some]
   have e2:(P++A.take i++[y])++x::(A.drop (i+1)++Q)=(P++A.take i)++y::x::(A.drop (i+1)++Q):=by simp
   have n1:(P++A.take i).length=P.length+i:=by simp;omega
   have n2:(P++A.take i++[y]).length=P.length+i+1:=by simp;omega
   rw [e1] at ho'
   have la:=a4B ho' (a0J _ _ y _ n1)
   have lb:=a4B ho' (by rw [← e2];exact a0J _ _ x _ n2)
   have ia:=@a3v o N (P.length+i) (by omega)
   have ib:=@a3v o N (P.length+(i+1)) (by omega)
   rw [show P.length+(i+1)=P.length+i+1 from rfl] at hw ib ⊢
   simp only [a0E,hw,ia,ib,la,lb,bs,c8N]
   refine b3r n1 ho' fun g2 p2 w2=>?_
   try simp only [bs]
   refine .some (.inl ⟨rfl,i,by omega,_,rfl,by omega,sm.trans w2,?_⟩)
   rw [p2,hdy]
   simp [-bind_some]
  ·intro h0
   have h0:kk=0:=by
    have:¬ ((P.length+kk:Nat):Int)>(P.length:Int):=by simpa using h0
    omega
   subst h0
   exact .some (.inr ⟨by simp,rfl,⟨_,_,rfl⟩,sm,by simpa using ho'⟩)
 ·rintro ⟨ex,ds,g'⟩ ⟨rfl,⟨b1,b2,rfl⟩,sm,p⟩
  exact K g' b1 b2 p sm
theorem c8E {g:Hp} {o N:Nat} {L:List Ct} (hN:N≤1000000000) (hlen:L.length=N) (ho:g[o]?=some (.row a0d 3 (L.map ctr))) (cmp:D) (a m b:Nat) (q:Nat→Prop) (ha:a<N) (hmb:m≤b) (hbN:b≤N) (x:Ct) (hx:L[a]?=some x)
  (hc:∀ t y,m≤t→t<b→L[t]?=some y→∃ v,a1X R cmp [.agg (ctr y),.agg (ctr x)] g=some (.int .i64 v,g)∧(v<0↔q t)) (x1 x2 x3:D) {β:Type} {f:Out→Option β} {Q:β→Prop}
  (K:∀ (c:Nat) b1 b2 b3,m≤c→c≤b→(c=m∨q (c - 1))→(c=b∨¬ q c)→Wp (f (.ext 0,[.int .i64 (c:Int),.int .i64 (c:Int),b1,b2,b3],g)) Q):Wp ((a0z (a6K (.msl 3 o 0 N) (.int .i64 (a:Int)) cmp) [.int .i64 (m:Int),.int .i64 (b:Int),x1,x2,x3] g).bind f) Q:=by
 refine Wp.loop (fun kk ds g'=>g'=g∧∃ y1 y2 y3,∃ i j:Nat,ds=[.int .i64 (i:Int),.int .i64 (j:Int),y1,y2,y3]∧kk=j - i∧m≤i∧i≤j∧j≤b∧(i=m∨q (i - 1))∧(j=b∨¬ q j))
  (fun r=>r.1 = .ext 0∧r.2.2=g∧∃ b1 b2 b3,∃ c:Nat,r.2.1=[.int .i64 (c:Int),.int .i64 (c:Int),b1,b2,b3]∧m≤c∧c≤b∧(c=m∨q (c - 1))∧(c=b∨¬ q c)) (b - m) ⟨rfl,_,_,_,m,b,rfl,rfl,Nat.le_refl _,hmb,Nat.le_refl _,.inl rfl,.inl rfl⟩ ?_ ?_
 ·rintro kk ds g' ⟨rfl,y1,y2,y3,i,j,rfl,hk,h1,h2,h3,h4,h5⟩
  simp only [a6K,a0e,a0h,bs,c8N,a0n]
  refine Wp.dif ?_ ?_
  ·intro h0
   have h0:i<j:=by
    have:(i:Int)<(j:Int):=by simpa using h0
    omega
   obtain ⟨u1,u2,u3,u4⟩:=@a4b i j (by omega) (by omega)
   obtain ⟨y,hy⟩:∃ y,L[(i+j) / 2]?=some y:=⟨_,c9b (by omega)⟩
   obtain ⟨v,hv,hvc⟩:=hc ((i+j) / 2) y (by omega) (by omega) hy
   have ia:=@a3v o N ((i+j) / 2) (by omega)
   have ib:=@a3v o N a ha
   have la:=a4B ho hy
   have lb:=a4B ho hx
   have w1:IntKind.wrap .i64 ((((i+j) / 2:Nat):Int)+1)=(((i+j) / 2+1:Nat):Int):=by rw [wrap_i64 (by omega) (by omega)];omega
   simp only [a0p,u1,a2L,u2,a2k,show ¬ (1:Int)<0 by omega,if_false,u3,a2K,u4,ia,ib,la,lb,hv,bs,a0n,c8N]
   by_cases hlt:v<0
   ·have:=hvc.1 hlt
    simp only [hlt,decide_true,a0f,if_true,w1,bs,a0F,a0e,a0h]
    exact .some (.inl ⟨rfl,j - ((i+j) / 2+1),by omega,rfl,_,_,_,_,_,rfl,rfl,by omega,by omega,by omega,.inr (by simpa using this),h5⟩)
   ·have:=fun h=>hlt (hvc.2 h)
    simp only [hlt,decide_false,a0f,c8O,if_false,bs,a0F,a0e,a0h]
    exact .some (.inl ⟨rfl,(i+j) / 2 - i,by omega,rfl,_,_,_,_,_,rfl,rfl,by omega,by omega,by omega,h4,.inr this⟩)
  ·intro h0
   have h0:¬ i<j:=by
    have:¬ (i:Int)<(j:Int):=by simpa using h0
    omega
   obtain rfl:j=i:=by omega
   exact .some (.inr ⟨by simp,rfl,rfl,_,_,_,j,rfl,h1,h3,h4,h5⟩)
 ·rintro ⟨ex,ds,g'⟩ ⟨rfl,q2,b1,b2,b3,c,rfl,k1,k2,k3,k4⟩
  simp only at q2
  subst q2
  exact K c b1 b2 b3 k1 k2 k3 k4
end Go.Proofs.YtehgglgadbmecaaGreatDoor

/- Laws, on plain data, about functions that the statement reaches. -/
import Derived.Test.YtehgglgadbmecaaDoorL1
set_option linter.unusedSimpArgs false
set_option linter.unusedVariables false
set_option linter.unnecessarySimpa false
set_option maxRecDepth 100000
namespace Go.Proofs.YtehgglgadbmecaaDoor
open Go.Eng Go.Pi
open Option (bind_some)
theorem b5W {g:Hp} {o N:Nat} {P A B Q:List Rw} (hN:N≤1000000000) (hlen:(P++A++B++Q).length=N) (hA:0<A.length) (hB:0<B.length) (ho:g[o]?=some (.row a0h 3 ((P++A++B++Q).map a0w))) (cmp:D) (c:Rw→Rw→Int) (hcmp:a5C cmp c)
  (mid s0 r0:Nat) (hmid:mid=(P.length+(P.length+A.length+B.length)) / 2) (hs:(P.length+A.length>mid∧s0+B.length=mid∧r0=mid)∨(P.length+A.length≤mid∧s0=P.length∧r0=P.length+A.length))
  (p:Int) (hp:p=(mid+(P.length+A.length) - 1:Nat)) (x1 x2 x3:D) {β:Type} {f:Out→Option β} {R1:β→Prop}
  (K:∀ (k:Nat) b1 b2 b3 A1 A2 B1 B2,A=A1++A2→B=B1++B2→k=P.length+A1.length→mid=P.length+A1.length+B1.length →
   (A1=[]∨B2=[]∨∃ x y r s,A1=r++[x]∧B2=y::s∧¬ c y x<0)→(A2=[]∨B1=[]∨∃ x y r s,B1=r++[y]∧A2=x::s∧c y x<0) →
   Wp (f (.ext 8,[.int .i64 (k:Int),.int .i64 (k:Int),b1,b2,b3],g)) R1):Wp ((a0F (a4k (.msl 3 o 0 N) cmp (.int .i64 p)) [.int .i64 (s0:Int),.int .i64 (r0:Int),x1,x2,x3] g).bind f) R1:=by
 subst hp
 have hl:=hlen
 simp only [c6T] at hl
 have gA:∀ t,P.length≤t→t<P.length+A.length→(P++A++B++Q)[t]?=A[t - P.length]?:=fun t h0 h1=>by
  rw [List.append_assoc (P++A)];exact c3C P A _ t h0 h1
 have gB:∀ t,P.length+A.length≤t→t<P.length+A.length+B.length→(P++A++B++Q)[t]?=B[t - (P.length+A.length)]?:=fun t h0 h1=>by
  have:=c3C (P++A) B Q t (by simpa using h0) (by simpa using h1)
  simpa using this
 obtain ⟨q,hq⟩:∃ q:Nat→Prop,∀ t,q t↔∃ y z,(P++A++B++Q)[t]?=some y∧(P++A++B++Q)[mid+(P.length+A.length) - 1 - t]?=some z∧¬ c z y<0:=⟨_,fun t=>Iff.rfl⟩
 refine c6E hN hlen ho cmp (mid+(P.length+A.length) - 1) s0 r0 q (by omega) (by omega) (by omega) (by omega)
  (fun t y z _ _ hy hz=>⟨c z y,hcmp z y g,fun h=>(hq t).2 ⟨y,z,hy,hz,h⟩,fun hh=>by
   obtain ⟨y',z',h1,h2,h3⟩:=(hq t).1 hh
   rw [hy] at h1;rw [hz] at h2;injection h1 with h1;injection h2 with h2;rw [h1,h2];exact h3⟩) _ _ _ fun k b1 b2 b3 k1 k2 k3 k4=>?_
 have hkA:k - P.length≤A.length:=by omega
 have hkB:mid - k≤B.length:=by omega
 have la:(A.take (k - P.length)).length=k - P.length:=by simp;omega
 have lb:(B.take (mid - k)).length=mid - k:=by simp;omega
 refine K k b1 b2 b3 (A.take (k - P.length)) (A.drop (k - P.length)) (B.take (mid - k)) (B.drop (mid - k)) (List.take_append_drop _ _).symm (List.take_append_drop _ _).symm (by omega) (by omega) ?_ ?_
 ·rcases k3 with k3 | k3
  ·rcases hs with ⟨h1,h2,h3⟩ | ⟨h1,h2,h3⟩
   ·right;left
    exact List.drop_eq_nil_of_le (by omega)
   ·left
    apply List.eq_nil_of_length_eq_zero
    omega
  ·by_cases hk0:k=P.length
   ·left;apply List.eq_nil_of_length_eq_zero;omega
   ·right
    by_cases hk1:B.length≤mid - k
    ·left;exact List.drop_eq_nil_of_le hk1
    ·right
     obtain ⟨y,z,hy,hz,hlt⟩:=(hq _).1 k3
     rw [gA _ (by omega) (by omega)] at hy
     rw [gB _ (by omega) (by omega)] at hz
     obtain ⟨r,hr⟩:=b1R (A:=A) (t:=k - P.length) (y:=y) (by omega) (by rw [← hy];congr 1;omega)
     obtain ⟨s,hs'⟩:=a9f (A:=B) (t:=mid - k) (y:=z) (by rw [← hz];congr 1;omega)
     exact ⟨y,z,r,s,hr,hs',hlt⟩
 ·by_cases hk0:k=P.length+A.length
  ·left;exact List.drop_eq_nil_of_le (by omega)
  ·right
   by_cases hk1:mid - k=0
   ·left;rw [hk1];rfl
   ·right
    rcases k4 with k4 | k4
    ·omega
    ·obtain ⟨y,hy⟩:∃ y,A[k - P.length]?=some y:=⟨_,c7d (by omega)⟩
     obtain ⟨z,hz⟩:∃ z,B[mid - k - 1]?=some z:=⟨_,c7d (by omega)⟩
     obtain ⟨r,hr⟩:=b1R (A:=B) (t:=mid - k) (y:=z) (by omega) hz
     obtain ⟨s,hs'⟩:=a9f (A:=A) (t:=k - P.length) (y:=y) hy
     refine ⟨y,z,r,s,hr,hs',Classical.byContradiction fun h=>k4 ((hq _).2 ⟨y,z,?_,?_,h⟩)⟩
     ·rw [gA _ (by omega) (by omega)];exact hy
     ·rw [gB _ (by omega) (by omega),← hz];congr 1;omega
theorem b9O {c:Rw→Rw→Int} {S Pre:Rw→Rw→Prop} (od:SOrd c S Pre) {cmp:D} (hcmp:a5C cmp c) {o N n:Nat} (hN:N≤1000000000) (ih:a8O c S Pre cmp o N n)
  {g:Hp} {P A B Q:List Rw} {a m b:Int} (hn:A.length+B.length≤n+1) (hlen:(P++A++B++Q).length=N) (hA:0<A.length) (hB:0<B.length) (sA:A.Pairwise S) (sB:B.Pairwise S) (hp:∀ x∈A,∀ y∈B,Pre x y)
  (ho:g[o]?=some (.row a0h 3 ((P++A++B++Q).map a0w))) (ha:a=(P.length:Nat)) (hm:m=(P.length+A.length:Nat)) (hb:b=(P.length+A.length+B.length:Nat)) :
  Wp (a3p (.msl 3 o 0 N) (.int .i64 a) (.int .i64 m) (.int .i64 b) cmp g) fun p=>∃ C:List Rw,C.Perm (A++B)∧C.Pairwise S∧p.2[o]?=some (.row a0h 3 ((P++C++Q).map a0w))∧Same o g p.2:=by
 have hl:=hlen
 simp only [c6T] at hl
 obtain ⟨mid,hmid⟩:∃ mid:Nat,mid=(P.length+(P.length+A.length+B.length)) / 2:=⟨_,rfl⟩
 obtain ⟨mm,hmm⟩:∃ mm:Nat,mm=P.length+A.length:=⟨_,rfl⟩
 obtain ⟨bb,hbb⟩:∃ bb:Nat,bb=P.length+A.length+B.length:=⟨_,rfl⟩
 rw [← hmm] at hm
 rw [← hbb] at hb
 subst ha hm hb
 obtain ⟨u1,u2,u3,u4⟩:=@a7t P.length bb (by omega) (by omega)
 rw [← show mid=(P.length+bb) / 2 by rw [hmid,hbb]] at u3 u4
 have w1:IntKind.wrap .i64 ((mid:Int)+(mm:Int))=((mid+mm:Nat):Int):=by rw [wrap_i64 (by omega) (by omega)];omega
 have w2:IntKind.wrap .i64 (((mid+mm:Nat):Int) - 1)=((mid+(P.length+A.length) - 1:Nat):Int):=by rw [wrap_i64 (by omega) (by omega)];omega
 simp only [a3p,bs,c6O,a0n,u1,a4C,u2,a3v,show ¬ (1:Int)<0 by omega,if_false,u3,a4B,u4,w1,a1l]
 refine Wp.join (P:=fun r=>r.1 = .nrm∧r.2.2=g∧∃ s0 r0:Nat,r.2.1=[.int .i64 (s0:Int),.int .i64 (r0:Int)]∧((P.length+A.length>mid∧s0+B.length=mid∧r0=mid)∨(P.length+A.length≤mid∧s0=P.length∧r0=P.length+A.length))) ?_ ?_ ?_
 ·intro h0
  have h0:mid<mm:=by
   have:(mm:Int)>(mid:Int):=by simpa using h0
   omega
  have w3:IntKind.wrap .i64 (((mid+mm:Nat):Int) - (bb:Int))=((mid - B.length:Nat):Int):=by rw [wrap_i64 (by omega) (by omega)];omega
  simp only [a0Y,w3,bs]
  exact .some ⟨rfl,rfl,mid - B.length,mid,rfl,.inl ⟨by omega,by omega,rfl⟩⟩
 ·intro h0
  have h0:¬ mid<mm:=by
   have:¬ (mm:Int)>(mid:Int):=by simpa using h0
   omega
  exact .some ⟨rfl,rfl,P.length,mm,rfl,.inr ⟨by omega,rfl,hmm⟩⟩
 rintro ⟨ex,ds,g'⟩ ⟨rfl,q2,s0,r0,rfl,hs⟩
 simp only at q2
 subst q2
 simp only [a0g,a0Y,w2,bs,a0d,a0f,c6O]
 refine b5W hN hlen hA hB ho cmp c hcmp mid s0 r0 hmid hs _ rfl _ _ _ fun k b1 b2 b3 A1 A2 B1 B2 eA eB ek em h1 h2=>?_
 subst eA eB
 simp only [c6T] at *
 have w4:IntKind.wrap .i64 (((mid+mm:Nat):Int) - (k:Int))=((mm+B1.length:Nat):Int):=by rw [wrap_i64 (by omega) (by omega)];omega
 simp only [a0m,a0g,bs,a0d,a0f,c6O,a0Y,w4,a0o,a7O]
 rw [List.pairwise_append] at sA sB
 -- the rotation
 refine Wp.bind (P:=fun r=>r.1 = .nrm∧r.2.2[o]?=some (.row a0h 3 ((P++A1++B1++A2++B2++Q).map a0w))∧Same o g' r.2.2) ?_ ?_
 ·by_cases c1:0<A2.length
  ·have d1:decide ((k:Int)<(mm:Int))=true:=decide_eq_true (by omega)
   by_cases c2:0<B1.length
   ·have d2:decide ((mm:Int)<((mm+B1.length:Nat):Int))=true:=decide_eq_true (by omega)
    simp only [d1,d2,Bool.and_self,a0e,if_true]
    refine c3a (P:=P++A1) (U:=A2) (V:=B1) (Q:=B2++Q) hN (by simp only [c6T];omega) c1 c2 (by rw [ho];simp [-bind_some]) cmp _ _ _ (by simp only [c6T];omega) (by simp only [c6T];omega) (by simp only [c6T];omega) fun g1 p1 s1=>?_
    exact .some ⟨rfl,by simp only [p1];simp [-bind_some],s1⟩
   ·have e2:B1=[]:=List.eq_nil_of_length_eq_zero (by omega)
    subst e2
    have d2:decide ((mm:Int)<((mm+([]:List Rw).length:Nat):Int))=false:=decide_eq_false (by simp)
    simp only [d1,d2,Bool.and_false,a0e,c6P,if_false]
    exact .some ⟨rfl,by simp only [ho];simp [-bind_some],.refl _ _⟩
  ·have e2:A2=[]:=List.eq_nil_of_length_eq_zero (by omega)
   subst e2
   have d1:decide ((k:Int)<(mm:Int))=false:=decide_eq_false (by simp only [c7g] at *;omega)
   simp only [d1,Bool.false_and,a0e,c6P,if_false]
   exact .some ⟨rfl,by simp only [ho];simp [-bind_some],.refl _ _⟩
 rintro ⟨ex,ds,g1⟩ ⟨rfl,p1,s1⟩
 simp only [a0g,bs,c6O,a0o,a7O]
 -- the first half
 refine Wp.bind (P:=fun r=>r.1 = .nrm∧∃ C1:List Rw,C1.Perm (A1++B1)∧C1.Pairwise S∧r.2.2[o]?=some (.row a0h 3 ((P++C1++(A2++B2++Q)).map a0w))∧Same o g' r.2.2) ?_ ?_
 ·by_cases c1:0<A1.length
  ·have d1:decide (((P.length:Nat):Int)<(k:Int))=true:=decide_eq_true (by omega)
   by_cases c2:0<B1.length
   ·have d2:decide ((k:Int)<(mid:Int))=true:=decide_eq_true (by omega)
    simp only [d1,d2,Bool.and_self,a0e,if_true]
    refine Wp.bind (ih g1 P A1 B1 (A2++B2++Q) _ _ _ (by omega) (by simp only [c6T];omega) c1 c2 sA.1 sB.1 (fun x hx y hy=>hp x (by simp [-bind_some, hx]) y (by simp [-bind_some, hy])) (by rw [p1];simp [-bind_some]) rfl (by omega) (by omega)) ?_
    rintro ⟨d,g2⟩ ⟨C,q1,q2,q3,q4⟩
    exact .some ⟨rfl,C,q1,q2,q3,s1.trans q4⟩
   ·have e2:B1=[]:=List.eq_nil_of_length_eq_zero (by omega)
    subst e2
    have d2:decide ((k:Int)<(mid:Int))=false:=decide_eq_false (by simp only [c7g] at *;omega)
    simp only [d1,d2,Bool.and_false,a0e,c6P,if_false]
    exact .some ⟨rfl,A1,by simp,sA.1,by simp only [p1];simp [-bind_some],s1⟩
  ·have e2:A1=[]:=List.eq_nil_of_length_eq_zero (by omega)
   subst e2
   have d1:decide (((P.length:Nat):Int)<(k:Int))=false:=decide_eq_false (by simp only [c7g] at *;omega)
   simp only [d1,Bool.false_and,a0e,c6P,if_false]
   exact .some ⟨rfl,B1,by simp,sB.1,by simp only [p1];simp [-bind_some],s1⟩
 rintro ⟨ex,ds,g2⟩ ⟨rfl,C1,r1,r2,p2,s2⟩
 have lC1:C1.length=A1.length+B1.length:=by rw [r1.length_eq];simp [-bind_some]
 simp only [a0g,bs,c6O,a0o,a7O]
 -- the second half
 refine Wp.bind (P:=fun r=>r.1 = .nrm∧∃ C2:List Rw,C2.Perm (A2++B2)∧C2.Pairwise S∧r.2.2[o]?=some (.row a0h 3 ((P++(C1++C2)++Q).map a0w))∧Same o g' r.2.2) ?_ ?_
 ·by_cases c1:0<A2.length
  ·have d1:decide ((mid:Int)<((mm+B1.length:Nat):Int))=true:=decide_eq_true (by omega)
   by_cases c2:0<B2.length
   ·have d2:decide (((mm+B1.length:Nat):Int)<(bb:Int))=true:=decide_eq_true (by omega)
    simp only [d1,d2,Bool.and_self,a0e,if_true]
    refine Wp.bind (ih g2 (P++C1) A2 B2 Q _ _ _ (by omega) (by simp only [c6T];omega) c1 c2 sA.2.1 sB.2.1 (fun x hx y hy=>hp x (by simp [-bind_some, hx]) y (by simp [-bind_some, hy])) (by rw [p2];simp [-bind_some]) (by simp only [c6T];omega) (by simp only [c6T];omega) (by simp only [c6T];omega)) ?_
    rintro ⟨d,g3⟩ ⟨C,q1,q2,q3,q4⟩
    exact .some ⟨rfl,C,q1,q2,by rw [q3];simp [-bind_some],s2.trans q4⟩
   ·have e2:B2=[]:=List.eq_nil_of_length_eq_zero (by omega)
    subst e2
    have d2:decide (((mm+B1.length:Nat):Int)<(bb:Int))=false:=decide_eq_false (by simp only [c7g] at *;omega)
    simp only [d1,d2,Bool.and_false,a0e,c6P,if_false]
    exact .some ⟨rfl,A2,by simp,sA.2.1,by simp only [p2];simp [-bind_some],s2⟩
  ·have e2:A2=[]:=List.eq_nil_of_length_eq_zero (by omega)
   subst e2
   have d1:decide ((mid:Int)<((mm+B1.length:Nat):Int))=false:=decide_eq_false (by simp only [c7g] at *;omega)
   simp only [d1,Bool.false_and,a0e,c6P,if_false]
   exact .some ⟨rfl,B2,by simp,sB.2.1,by simp only [p2];simp [-bind_some],s2⟩
 rintro ⟨ex,ds,g3⟩ ⟨rfl,C2,r3,r4,p3,s3⟩
 simp only [a2J,bs]
 obtain ⟨v1,v2⟩:=b9d od (List.pairwise_append.2 sA) (List.pairwise_append.2 sB) hp h1 h2 r1 r2 r3 r4
 exact .some ⟨C1++C2,v1,v2,p3,s3⟩
theorem b7i {c:Rw→Rw→Int} {S Pre:Rw→Rw→Prop} (od:SOrd c S Pre) {cmp:D} (hcmp:a5C cmp c) {o N:Nat} (hN:N≤1000000000):∀ n,a8O c S Pre cmp o N n
 | 0=>fun g P A B Q a m b h0 _ h1=>by omega
 | n + 1 => fun g P A B Q a m b h0 hlen hA hB sA sB hp ho ha hm hb=>by
  have ih:=b7i od hcmp (o:=o) hN n
  have hl:=hlen
  simp only [c6T] at hl
  by_cases c1:A.length=1
  ·obtain ⟨x,rfl⟩:=List.length_eq_one_iff.1 c1
   have := b9M (g:=g) (o:=o) (N:=N) (P:=P) (B:=B) (Q:=Q) (x:=x) hN (by simpa using hlen) (by simpa using ho) cmp c hcmp a m b ha (by rw [hm];rfl) (by rw [hb];rfl) (f:=some) (R1:=fun p=>∃ C:List Rw,C.Perm ([x]++B)∧C.Pairwise S∧p.2[o]?=some (.row a0h 3 ((P++C++Q).map a0w))∧Same o g p.2)
    (fun g' B1 B2 e h1 h2 p1 s1 => .some ⟨B1++x::B2,by rw [e];exact List.perm_middle,by
     subst e
     rw [List.pairwise_append] at sB ⊢
     refine ⟨sB.1,List.pairwise_cons.2 ⟨?_,sB.2.1⟩,?_⟩
     ·rcases h2 with rfl | ⟨y,r,rfl,hy⟩
      ·intro z hz;cases hz
      ·have hxy:=od.ge x y (hp x (by simp) y (by simp)) hy
       intro z hz
       rcases c7j.1 hz with rfl | hz
       ·exact hxy
       ·exact od.tr _ _ _ hxy ((List.pairwise_cons.1 sB.2.1).1 z hz)
     ·have hx1:∀ u∈B1,S u x:=by
        rcases h1 with rfl | ⟨y,r,rfl,hy⟩
        ·intro z hz;cases hz
        ·have hyx:=od.lt x y (hp x (by simp) y (by simp)) hy
         intro z hz
         rcases c7k.1 hz with hz | hz
         ·exact od.tr _ _ _ ((List.pairwise_append.1 sB.1).2.2 z hz y (by simp)) hyx
         ·simp at hz;subst hz;exact hyx
      intro u hu v hv
      rcases c7j.1 hv with rfl | hv
      ·exact hx1 u hu
      ·exact sB.2.2 u hu v hv,by rw [p1],s1⟩)
   rwa [show ∀ x:Option (D × Hp),x.bind some=x from fun x=>by cases x <;> rfl] at this
  ·by_cases c2:B.length=1
   ·obtain ⟨x,rfl⟩:=List.length_eq_one_iff.1 c2
    have:=b9N (g:=g) (o:=o) (N:=N) (P:=P) (A:=A) (Q:=Q) (x:=x) hN (by simpa using hlen) c1 (by simpa using ho) cmp c hcmp a m b ha (by rw [hm]) (by rw [hb];rfl) (f:=some) (R1:=fun p=>∃ C:List Rw,C.Perm (A++[x])∧C.Pairwise S∧p.2[o]?=some (.row a0h 3 ((P++C++Q).map a0w))∧Same o g p.2)
     (fun g' A1 A2 e h1 h2 p1 s1 => .some ⟨A1++x::A2,by rw [e];exact List.perm_middle.trans (by simpa using (List.perm_append_comm (l₁:=[x]) (l₂:=A1++A2))),b5k od (by rw [← e];exact sA) (fun y hy=>hp y (by rw [e];exact hy) x (by simp)) h2 h1,by rw [p1],s1⟩)
    rwa [show ∀ x:Option (D × Hp),x.bind some=x from fun x=>by cases x <;> rfl] at this
   ·have r:=b9O od hcmp hN ih h0 hlen hA hB sA sB hp ho ha hm hb
    rw [b6a]
    have v1:IntKind.wrap .i64 (m - a)=(A.length:Int):=by rw [hm,ha,wrap_i64 (by omega) (by omega)];omega
    have v2:IntKind.wrap .i64 (b - m)=(B.length:Int):=by rw [hm,hb,wrap_i64 (by omega) (by omega)];omega
    have d1:decide ((A.length:Int)=1)=false:=decide_eq_false (by omega)
    have d2:decide ((B.length:Int)=1)=false:=decide_eq_false (by omega)
    simp only [b2Z,a3o,bs,a0Y,v1,v2,a0Q,d1,d2,a0e,c6P,if_false]
    exact r
theorem b1N {c:Rw→Rw→Int} {S Pre:Rw→Rw→Prop} (od:SOrd c S Pre) {cmp:D} (hcmp:a5C cmp c) {o N:Nat} (hN:N≤1000000000) {g:Hp} {P A Q:List Rw} (hlen:(P++A++Q).length=N) (hA:A.Pairwise Pre)
  (ho:g[o]?=some (.row a0h 3 ((P++A++Q).map a0w))) (a b:Int) (ha:a=P.length) (hb:b=(P.length+A.length:Nat)) :
  Wp (R a4H [.msl 3 o 0 N,.int .i64 a,.int .i64 b,cmp] g) fun p=>∃ C:List Rw,C.Perm A∧C.Pairwise S∧p.2[o]?=some (.row a0h 3 ((P++C++Q).map a0w))∧Same o g p.2:=by
 subst ha hb
 have hl:=hlen
 simp only [c6T] at hl
 obtain ⟨d,h',e,p1,s1⟩:=c2x c cmp hcmp o N P.length (P.length+A.length) hN (by omega) (by omega) _ hlen g ho
 refine ⟨(d,h'),e,?_⟩
 cases A with
 | nil =>
  refine ⟨[],by simp,List.Pairwise.nil,?_,s1⟩
  rw [p1]
  simp [-bind_some, isr]
 | cons x A =>
  obtain ⟨C,q1,q2,q3⟩:=b4W od P Q A [x] (by simp) (fun u hu v hv=>by simp at hu;subst hu;exact (List.pairwise_cons.1 hA).1 v hv) (List.pairwise_cons.1 hA).2
  refine ⟨C,q2,q3,?_,s1⟩
  rw [p1]
  have e1:P.length+(x::A).length - (P.length+1)=A.length:=by simp;omega
  rw [e1]
  have e2:P++x::A++Q=P++[x]++A++Q:=by simp
  rw [e2]
  exact congrArg (fun z:List Rw=>some (Ob.row a0h 3 (z.map a0w))) q1
theorem c2Z {c:Rw→Rw→Int} {S Pre:Rw→Rw→Prop} (od:SOrd c S Pre) {cmp:D} (hcmp:a5C cmp c) {o N:Nat} (hN:N≤1000000000) {g:Hp} {l:List Rw} (hl:l.length=N) (hpre:l.Pairwise Pre)
  (ho:g[o]?=some (.row a0h 3 (l.map a0w))):Wp (R a9l [.msl 3 o 0 N,.int .i64 N,cmp] g) fun p=>∃ C:List Rw,C.Perm l∧C.Pairwise S∧p.2[o]?=some (.row a0h 3 (C.map a0w))∧Same o g p.2:=by
 rw [b8T]
 simp only [b5A,bs,c6O]
 refine Wp.loop (fun n ds g'=>∃ u,∃ X Y:List Rw,ds=[.int .i64 (X.length:Nat),.int .i64 ((X.length+20:Nat):Int),u]∧n=Y.length∧(X++Y).Perm l∧Y.Pairwise Pre∧CtxB S Pre 20 X Y∧g'[o]?=some (.row a0h 3 ((X++Y).map a0w))∧Same o g g')
  (fun r=>r.1 = .ext 0∧∃ u,∃ X Y:List Rw,r.2.1=[.int .i64 (X.length:Nat),.int .i64 ((X.length+20:Nat):Int),u]∧Y.length<20∧(X++Y).Perm l∧Y.Pairwise Pre∧CtxB S Pre 20 X Y∧r.2.2[o]?=some (.row a0h 3 ((X++Y).map a0w))∧Same o g r.2.2)
  l.length ⟨_,[],l,rfl,rfl,by simp,hpre,CtxB.nil,by simpa using ho,.refl _ _⟩ ?_ ?_
 ·rintro n ds g' ⟨u,X,Y,rfl,rfl,hp,hY,hc,ho',sm⟩
  have hXY:X.length+Y.length=N:=by rw [← hl,← hp.length_eq];simp [-bind_some]
  simp only [a5D,a0d,a0f,bs,c6O,a3u]
  refine Wp.dif ?_ ?_
  ·intro h0
   have h0:20≤Y.length:=by
    have:((X.length+20:Nat):Int)≤(N:Int):=by simpa using h0
    omega
   obtain ⟨A,Y',rfl,hA⟩:∃ A Y',Y=A++Y'∧A.length=20:=⟨Y.take 20,Y.drop 20,(List.take_append_drop _ _).symm,by simp;omega⟩
   obtain ⟨y1,y2,y3⟩:=b2p hY
   simp only [c6T] at hXY h0
   refine Wp.bind (b1N od hcmp hN (P:=X) (A:=A) (Q:=Y') (by simp only [c6T];omega) y1 (by rw [ho'];simp [-bind_some]) _ _ rfl (by omega)) ?_
   rintro ⟨d,g2⟩ ⟨C,q1,q2,q3,q4⟩
   have lC:C.length=20:=by rw [q1.length_eq,hA]
   have w1:IntKind.wrap .i64 (((X.length+20:Nat):Int)+20)=((X.length+20+20:Nat):Int):=by rw [wrap_i64 (by omega) (by omega)];omega
   simp only [a0n,w1,bs]
   have eX:(X++C).length=X.length+20:=by simp [-bind_some, lC]
   refine .some (.inl ⟨rfl,Y'.length,by simp only [c6T];omega,_,X++C,Y',by rw [eX],rfl,?_,y2,hc.step q1 lC q2 y3,q3,sm.trans q4⟩)
   refine List.Perm.trans ?_ hp
   rw [List.append_assoc]
   exact (q1.append_right Y').append_left X
  ·intro h0
   have h0:¬ 20≤Y.length:=by
    have:¬ ((X.length+20:Nat):Int)≤(N:Int):=by simpa using h0
    omega
   exact .some (.inr ⟨by simp,rfl,_,X,Y,rfl,by omega,hp,hY,hc,ho',sm⟩)
 rintro ⟨ex,ds,g1⟩ ⟨rfl,u,X,Y,rfl,hYl,hp,hY,hc,ho1,s1⟩
 have hXY:X.length+Y.length=N:=by rw [← hl,← hp.length_eq];simp [-bind_some]
 simp only [a0m,a0g,a0d,a0f,bs]
 refine Wp.bind (b1N od hcmp hN (P:=X) (A:=Y) (Q:=[]) (by simp only [c6T,c7g];omega) hY (by simpa using ho1) _ _ rfl (by omega)) ?_
 rintro ⟨d,g2⟩ ⟨C,q1,q2,q3,q4⟩
 have bl:Blk S Pre 20 (X++C):=hc.done q1 (by rw [q1.length_eq];omega) q2
 have hpZ:(X++C).Perm l:=(q1.append_left X).trans hp
 have q3:g2[o]?=some (.row a0h 3 ((X++C).map a0w)):=by simpa using q3
 have s2:Same o g g2:=s1.trans q4
 generalize X++C=Z at bl hpZ q3
 clear q1 q2 hc hY ho1 s1 q4
 simp only [bs,c6O]
 refine Wp.loop (fun n ds g'=>∃ u1 u2 u3 u4 u5 u6,∃ k:Nat,∃ Z:List Rw,ds=[.int .i64 (k:Int),u1,u2,u3,u4,u5,u6]∧n=N - k∧0<k∧k≤2000000000∧Z.Perm l∧Blk S Pre k Z∧g'[o]?=some (.row a0h 3 (Z.map a0w))∧Same o g g')
  (fun r=>r.1 = .ext 2∧∃ u1 u2 u3 u4 u5 u6 u7,r.2.1=[u1,u2,u3,u4,u5,u6,u7]∧∃ Z:List Rw,Z.Perm l∧Z.Pairwise S∧r.2.2[o]?=some (.row a0h 3 (Z.map a0w))∧Same o g r.2.2)
  (N - 20) ⟨_,_,_,_,_,_,20,Z,rfl,rfl,by omega,by omega,hpZ,bl,q3,s2⟩ ?_ ?_
 ·clear q3 s2 bl hpZ Z hXY hp
  rintro n ds g3 ⟨u1,u2,u3,u4,u5,u6,k,Z,rfl,rfl,k0,k1,hp,bl,ho3,s3⟩
  have lZ:Z.length=N:=by rw [hp.length_eq,hl]
  simp only [a5E,a0d,a0f,bs,c6O,a0o]
  refine Wp.dif ?_ ?_
  ·intro h0
   have h0:k<N:=by
    have:(k:Int)<(N:Int):=by simpa using h0
    omega
   have w1:IntKind.wrap .i64 ((2:Int)*(k:Int))=((2*k:Nat):Int):=by rw [wrap_i64 (by omega) (by omega)];omega
   simp only [a5T,w1,bs,c6O]
   refine Wp.loop (fun n ds g'=>∃ u,∃ X Y:List Rw,ds=[.int .i64 (X.length:Nat),.int .i64 ((X.length+2*k:Nat):Int),u]∧n=Y.length∧(X++Y).Perm l∧Blk S Pre k Y∧CtxB S Pre (2*k) X Y∧g'[o]?=some (.row a0h 3 ((X++Y).map a0w))∧Same o g g')
    (fun r=>r.1 = .ext 4∧∃ u v,∃ X Y:List Rw,r.2.1=[.int .i64 (X.length:Nat),u,v]∧Y.length<2*k∧(X++Y).Perm l∧Blk S Pre k Y∧CtxB S Pre (2*k) X Y∧r.2.2[o]?=some (.row a0h 3 ((X++Y).map a0w))∧Same o g r.2.2)
    N ⟨u5,[],Z,by simp,lZ.symm,by simpa using hp,bl,CtxB.nil,by simpa using ho3,s3⟩ ?_ ?_
   ·rintro n ds g4 ⟨u,X,Y,rfl,rfl,hp4,bl4,hc4,ho4,s4⟩
    have hXY:X.length+Y.length=N:=by rw [← hl,← hp4.length_eq];simp [-bind_some]
    simp only [a8w,a0d,a0f,bs,c6O,a3u]
    refine Wp.dif ?_ ?_
    ·intro h1
     have h1:2*k≤Y.length:=by
      have:((X.length+2*k:Nat):Int)≤(N:Int):=by simpa using h1
      omega
     obtain ⟨A,Y1,rfl,lA,sA,pA,bY1⟩:=bl4.fst (by omega)
     simp only [c6T] at hXY h1
     obtain ⟨B,Y2,rfl,lB,sB,pB,bY2⟩:=bY1.fst (by omega)
     simp only [c6T] at hXY h1
     have w2:IntKind.wrap .i64 ((X.length:Int)+(k:Int))=((X.length+A.length:Nat):Int):=by rw [wrap_i64 (by omega) (by omega)];omega
     simp only [a0n,w2,bs,c6O]
     refine Wp.bind (b7i od hcmp hN (A.length+B.length) g4 X A B Y2 _ _ _ (Nat.le_refl _) (by simp only [c6T];omega) (by omega) (by omega) sA sB (fun x hx y hy=>pA x hx y (by simp [-bind_some, hy])) (by rw [ho4];simp [-bind_some]) rfl rfl (by omega)) ?_
     rintro ⟨d,g5⟩ ⟨C,q1,q2,q3,q4⟩
     have lC:C.length=2*k:=by rw [q1.length_eq,c6T];omega
     have w3:IntKind.wrap .i64 (((X.length+2*k:Nat):Int)+((2*k:Nat):Int))=((X.length+2*k+2*k:Nat):Int):=by rw [wrap_i64 (by omega) (by omega)];omega
     simp only [a5T,a0n,w1,w3,bs]
     have eX:(X++C).length=X.length+2*k:=by simp [-bind_some, lC]
     refine .some (.inl ⟨rfl,Y2.length,by simp only [c6T];omega,_,X++C,Y2,by rw [eX],rfl,?_,bY2,CtxB.step (A:=A++B) (by rw [List.append_assoc];exact hc4) q1 lC q2 (fun x hx y hy=>?_),q3,s4.trans q4⟩)
     ·refine List.Perm.trans ?_ hp4
      rw [List.append_assoc,← List.append_assoc A B Y2]
      exact (q1.append_right Y2).append_left X
     ·rcases c7k.1 hx with hx | hx
      ·exact pA x hx y (by simp [-bind_some, hy])
      ·exact pB x hx y hy
    ·intro h1
     have h1:¬ 2*k≤Y.length:=by
      have:¬ ((X.length+2*k:Nat):Int)≤(N:Int):=by simpa using h1
      omega
     exact .some (.inr ⟨by simp,rfl,_,_,X,Y,rfl,by omega,hp4,bl4,hc4,ho4,s4⟩)
   rintro ⟨ex,ds,g4⟩ ⟨rfl,u,v,X,Y,rfl,hYl,hp4,bl4,hc4,ho4,s4⟩
   have hXY:X.length+Y.length=N:=by rw [← hl,← hp4.length_eq];simp [-bind_some]
   have w2:IntKind.wrap .i64 ((X.length:Int)+(k:Int))=((X.length+k:Nat):Int):=by rw [wrap_i64 (by omega) (by omega)];omega
   have w4:IntKind.wrap .i64 ((k:Int)*2)=((2*k:Nat):Int):=by rw [wrap_i64 (by omega) (by omega)];omega
   simp only [a0m,a0g,a0d,a0f,bs,a0n,w2,a0o,c6O]
   refine Wp.bind (P:=fun r=>r.1 = .nrm∧∃ Z:List Rw,Z.Perm l∧Blk S Pre (2*k) Z∧r.2.2[o]?=some (.row a0h 3 (Z.map a0w))∧Same o g r.2.2) ?_ ?_
   ·by_cases hm:X.length+k<N
    ·have d1:decide (((X.length+k:Nat):Int)<(N:Int))=true:=decide_eq_true (by omega)
     obtain ⟨A,B,rfl,lA,sA,pA,bB⟩:=bl4.fst (by omega)
     simp only [c6T] at hXY hYl
     have sB:B.Pairwise S:=bB.all (by omega)
     simp only [d1,a0e,if_true]
     refine Wp.bind (b7i od hcmp hN (A.length+B.length) g4 X A B [] _ _ _ (Nat.le_refl _) (by simp only [c6T,c7g];omega) (by omega) (by omega) sA sB pA (by rw [ho4];simp [-bind_some]) rfl (by omega) (by omega)) ?_
     rintro ⟨d,g5⟩ ⟨C,q1,q2,q3,q4⟩
     refine .some ⟨rfl,X++C,(q1.append_left X).trans hp4,hc4.done q1 (by rw [q1.length_eq,c6T];omega) q2,by simpa using q3,s4.trans q4⟩
    ·have d1:decide (((X.length+k:Nat):Int)<(N:Int))=false:=decide_eq_false (by omega)
     simp only [d1,a0e,c6P,if_false]
     exact .some ⟨rfl,X++Y,hp4,hc4.done (List.Perm.refl _) (by omega) (bl4.all (by omega)),ho4,s4⟩
   rintro ⟨ex,ds,g5⟩ ⟨rfl,Z2,hp5,bl5,ho5,s5⟩
   simp only [a0g,bs,w4]
   exact .some (.inl ⟨rfl,N - 2*k,by omega,_,_,_,_,_,_,2*k,Z2,rfl,rfl,by omega,by omega,hp5,bl5,ho5,s5⟩)
  ·intro h0
   have h0:¬ k<N:=by
    have:¬ (k:Int)<(N:Int):=by simpa using h0
    omega
   exact .some (.inr ⟨by simp,rfl,_,_,_,_,_,_,_,rfl,Z,hp,bl.all (by omega),ho3,s3⟩)
 rintro ⟨ex,ds,g3⟩ ⟨rfl,u1,u2,u3,u4,u5,u6,u7,rfl,Z3,hp3,sZ,ho3,s3⟩
 simp only [a0m,a2J,bs]
 exact .some ⟨Z3,hp3,sZ,ho3,s3⟩
def a0Z:List Str→List Str→Int
 | [],[]=>0
 | [],_::_ => -1
 | _::_,[]=>1
 | a::x,b::y=>if a4g a b=0 then a0Z x y else a4g a b
theorem a2I (a b:Str):a4g a b=0↔a=b:=by
 unfold a4g
 by_cases h:Op.bytesLess a b=true
 ·simp only [h,if_true]
  constructor
  ·intro h;cases h
  ·rintro rfl;rw [a5e] at h;cases h
 ·by_cases h2:a=b <;> simp [-bind_some, h,h2,a5e]
theorem b3v (a b:Str):a4g b a = - a4g a b:=by
 unfold a4g
 by_cases h:Op.bytesLess a b=true
 ·have h2:Op.bytesLess b a=false:=by
    cases hh:Op.bytesLess b a
    ·rfl
    ·have:=b5K h hh;rw [a5e] at this;cases this
  have h3:¬ b=a:=by rintro rfl;rw [a5e] at h;cases h
  simp [-bind_some, h,h2,h3]
 ·have h:Op.bytesLess a b=false:=by simpa using h
  by_cases h2:a=b
  ·subst h2;simp [-bind_some, h]
  ·have:=b4F h h2
   simp [-bind_some, h,h2,this]
theorem b5Q (a b:Str):a4g a b<0↔Op.bytesLess a b=true:=by
 unfold a4g
 by_cases h:Op.bytesLess a b=true
 ·simp [-bind_some, h]
 ·by_cases h2:a=b <;> simp [-bind_some, h,h2,a5e]
theorem b5R {a b c:Str} (h:a4g a b<0) (k:a4g b c<0):a4g a c<0:=by
 rw [b5Q] at *
 exact b5K h k
theorem a1H:∀ (x y:List Str),a0Z x y=0↔x=y
 | [],[]=>by simp [-bind_some, a0Z]
 | [],_::_=>by simp [-bind_some, a0Z]
 | _::_,[]=>by simp [-bind_some, a0Z]
 | a::x,b::y=>by
  have ih:=a1H x y
  unfold a0Z
  by_cases h:a4g a b=0
  ·rw [if_pos h,ih]
   have:=(a2I a b).1 h
   simp [-bind_some, this]
  ·rw [if_neg h]
   have h2:¬ a=b:=fun hh=>h ((a2I a b).2 hh)
   simp [-bind_some, h,h2]
theorem a2i:∀ (x y:List Str),a0Z y x = - a0Z x y
 | [],[]=>rfl
 | [],_::_=>rfl
 | _::_,[]=>rfl
 | a::x,b::y=>by
  have ih:=a2i x y
  unfold a0Z
  rw [b3v a b]
  by_cases h:a4g a b=0
  ·rw [if_pos h,if_pos (by omega),ih]
  ·rw [if_neg h,if_neg (by omega)]
theorem a3O:∀ {x y z:List Str},a0Z x y<0→a0Z y z<0→a0Z x z<0
 | [],[],_,h,_=>by simp [-bind_some, a0Z] at h
 | _::_,[],_,h,_=>by simp [-bind_some, a0Z] at h
 | _,_::_,[],_,k=>by simp [-bind_some, a0Z] at k
 | [],_::_,_::_,_,_=>by simp [-bind_some, a0Z]
 | a::x,b::y,c::z,h,k=>by
  unfold a0Z at h k ⊢
  by_cases h1:a4g a b=0
  ·rw [if_pos h1] at h
   have e:=(a2I a b).1 h1
   subst e
   by_cases k1:a4g a c=0
   ·rw [if_pos k1] at k ⊢
    exact a3O h k
   ·rw [if_neg k1] at k ⊢
    exact k
  ·rw [if_neg h1] at h
   by_cases k1:a4g b c=0
   ·have e:=(a2I b c).1 k1
    subst e
    rw [if_neg h1];exact h
   ·rw [if_neg k1] at k
    have:=b5R h k
    rw [if_neg (by omega)]
    exact this
theorem a4R (s:Str) (h:Hp):a0c tab h ty9 (.fptr [.str s])=some (.str s):=id rfl
theorem a1o {α:Type} {l:List α} {i:Nat} {x:α} (h:l[i]?=some x):l.drop i=x::l.drop (i+1):=by
 obtain ⟨hn,hh⟩:=c7e.1 h
 rw [List.drop_eq_getElem_cons hn,hh]
theorem c2u (x y:List Str) (dx dy:D) (h:Hp) (hx:SlOf 1 (fun s=>[D.str s]) x dx) (hy:SlOf 1 (fun s=>[D.str s]) y dy) (hl:x.length≤1000000) (hl2:y.length≤1000000):R b1t [dx,dy] h=some (.int .i64 (a0Z x y),h):=by
 apply Wp.val
 rw [c1c]
 simp only [b7Y,bs,c6O,a1S hx]
 generalize hV:a0Z x y=V
 refine Wp.loop (fun k ds g=>g=h∧∃ a b c d e f1 f2 f3,∃ i:Nat,ds=[a,b,c,d,e,.int .i64 i,f1,f2,f3]∧k+i=x.length∧i≤y.length∧a0Z (x.drop i) (y.drop i)=V)
  (fun r=>r.2.2=h∧((r.1 = .ret∧nth 0 r.2.1 = .int .i64 V)∨(r.1 = .ext 0∧x.length≤y.length∧V=if x.length<y.length then -1 else 0))) x.length ⟨rfl,_,_,_,_,_,_,_,_,0,rfl,by omega,by omega,hV⟩ ?_ ?_
 ·rintro k ds g ⟨rfl,a,b,c,d,e,f1,f2,f3,i,rfl,hk,hi,hV⟩
  simp only [a8x,a0d,a0f,bs,c6O,a0o]
  refine Wp.dif ?_ ?_
  ·intro h0
   have h0:i<x.length:=dl_ h0
   obtain ⟨u,hu⟩:=gx_ h0
   have hw:=wi_ i (by omega)
   simp only [a6k hx,a6k hy,Int.natCast_nonneg,if_true,c6X,hu,Option.map_some,bs,a4R,a1S hy,a8Y]
   rw [a1o hu] at hV
   by_cases h1:i<y.length
   ·obtain ⟨v,hv⟩:=gx_ h1
    have d1:decide ((i:Int)≥(y.length:Int))=false:=decide_eq_false (by omega)
    rw [a1o hv] at hV
    unfold a0Z at hV
    simp only [d1,a0e,c6P,if_false,hv,Option.map_some,bs,a4R,s91,a4n]
    by_cases h2:a4g u v=0
    ·rw [if_pos h2] at hV
     simp only [h2,ne_eq,not_true,decide_false,a0e,c6P,if_false,a0n,hw,bs]
     exact .some (.inl ⟨rfl,k - 1,by omega,rfl,_,_,_,_,_,_,_,_,i+1,rfl,by omega,by omega,hV⟩)
    ·rw [if_neg h2] at hV
     simp only [h2,ne_eq,not_false_eq_true,decide_true,a0e,if_true]
     exact .some (.inr ⟨by simp,rfl,.inl ⟨rfl,by rw [← hV];rfl⟩⟩)
   ·have d1:decide ((i:Int)≥(y.length:Int))=true:=decide_eq_true (by omega)
    rw [List.drop_of_length_le (show y.length≤i by omega)] at hV
    simp only [d1,a0e,if_true]
    exact .some (.inr ⟨by simp,rfl,.inl ⟨rfl,by rw [← hV];rfl⟩⟩)
  ·intro h0
   have h0:i=x.length:=by
    have:¬ (i:Int)<x.length:=by simpa using h0
    omega
   subst h0
   refine .some (.inr ⟨by simp,rfl,.inr ⟨rfl,hi,?_⟩⟩)
   rw [List.drop_length] at hV
   rw [← hV]
   by_cases h1:x.length<y.length
   ·obtain ⟨v,hv⟩:∃ v,y[x.length]?=some v:=⟨_,c7d h1⟩
    rw [a1o hv,if_pos h1];rfl
   ·rw [List.drop_of_length_le (by omega),if_neg h1];rfl
 ·rintro ⟨ex,ds,g⟩ ⟨h1,h2⟩
  simp only at h1 h2
  subst h1
  rcases h2 with ⟨rfl,hn⟩ | ⟨rfl,hle,hv⟩
  ·simp only [a3H,a3G,a3y,a0d,a0f,bs,hn,a0q]
   exact .some rfl
  ·simp only [a0m,a0g,bs,a1S hx,a1S hy,a0o]
   subst hv
   by_cases h1:x.length<y.length
   ·have d1:decide ((x.length:Int)<(y.length:Int))=true:=decide_eq_true (by omega)
    simp only [d1,a0e,if_true,h1,a0q]
    exact .some rfl
   ·have d1:decide ((x.length:Int)<(y.length:Int))=false:=decide_eq_false (by omega)
    simp only [d1,a0e,c6P,if_false,h1,a0q]
    exact .some rfl
theorem b4i (x y:List Str) (dx dy:D) (h:Hp) (hx:SlOf 1 (fun s=>[D.str s]) x dx) (hy:SlOf 1 (fun s=>[D.str s]) y dy) (hl:x.length≤1000000) (hl2:y.length≤1000000):R a5o [dx,dy] h=some (.int .i64 (a0Z x y),h):=by
 rw [c0Y]
 simp only [b7U,bs,c2u x y dx dy h hx hy hl hl2,a0q]
theorem c2s (x y:List Str) (dx dy:D) (h:Hp) (hx:SlOf 1 (fun s=>[D.str s]) x dx) (hy:SlOf 1 (fun s=>[D.str s]) y dy) (hl:x.length≤1000000) (hl2:y.length≤1000000):R b1q [dx,dy] h=some (.int .i64 (a0Z x y),h):=by
 apply Wp.val
 rw [c0Z]
 simp only [b7V,bs,c6O]
 generalize hV:a0Z x y=V
 refine Wp.loop (fun k ds g=>g=h∧∃ a b c d,∃ i:Nat,ds=[a,.int .i64 i,b,c,d]∧k+i=x.length∧i≤y.length∧a0Z (x.drop i) (y.drop i)=V)
  (fun r=>r.2.2=h∧((r.1 = .ret∧nth 0 r.2.1 = .int .i64 V)∨(r.1 = .ext 0∧V=if x.length<y.length then -1 else if x.length>y.length then 1 else 0))) x.length ⟨rfl,_,_,_,_,0,rfl,by omega,by omega,hV⟩ ?_ ?_
 ·rintro k ds g ⟨rfl,a,b,c,d,i,rfl,hk,hi,hV⟩
  simp only [a8v,a0d,a0f,bs,c6O,a1S hx,a1S hy,a0o]
  by_cases h0:i<x.length
  ·have d0:decide ((i:Int)<(x.length:Int))=true:=decide_eq_true (by omega)
   obtain ⟨u,hu⟩:=gx_ h0
   have hw:=wi_ i (by omega)
   rw [a1o hu] at hV
   by_cases h1:i<y.length
   ·obtain ⟨v,hv⟩:=gx_ h1
    have d1:decide ((i:Int)<(y.length:Int))=true:=decide_eq_true (by omega)
    rw [a1o hv] at hV
    unfold a0Z at hV
    simp only [d0,a0S,if_true,bs,a1S hx,a1S hy,a0o,d1,a0A,a0e,a6k hx,a6k hy,Int.natCast_nonneg,c6X,hu,hv,Option.map_some,a4R,a6Q,a0o,c3N]
    by_cases h2:Op.bytesLess u v=true
    ·have hc:a4g u v = -1:=by simp [-bind_some, a4g,h2]
     rw [if_neg (by omega),hc] at hV
     simp only [h2,a0e,if_true]
     exact .some (.inr ⟨by simp,rfl,.inl ⟨rfl,by rw [← hV];rfl⟩⟩)
    ·have h2:Op.bytesLess u v=false:=by simpa using h2
     by_cases h3:u=v
     ·subst h3
      rw [if_pos ((a2I u u).2 rfl)] at hV
      simp only [h2,a0e,c6P,if_false,beq_self_eq_true,Bool.or_true,c6Y,a0n,hw,bs]
      exact .some (.inl ⟨rfl,k - 1,by omega,rfl,_,_,_,_,i+1,rfl,by omega,by omega,hV⟩)
     ·have hb:(u==v)=false:=by simpa using h3
      have hc:a4g u v=1:=by simp [-bind_some, a4g,h2,h3]
      rw [if_neg (by omega),hc] at hV
      simp only [h2,hb,a0e,c6P,if_false,Bool.or_self,c6Z,if_true]
      exact .some (.inr ⟨by simp,rfl,.inl ⟨rfl,by rw [← hV];rfl⟩⟩)
   ·have d1:decide ((i:Int)<(y.length:Int))=false:=decide_eq_false (by omega)
    rw [List.drop_of_length_le (show y.length≤i by omega)] at hV
    simp only [d0,a0S,if_true,bs,a1S hx,a1S hy,a0o,d1,a0A,a0e,c6P,if_false]
    refine .some (.inr ⟨by simp,rfl,.inr ⟨rfl,?_⟩⟩)
    rw [← hV,if_neg (by omega),if_pos (by omega)];rfl
  ·have h0:i=x.length:=by omega
   subst h0
   have d0:decide ((x.length:Int)<(x.length:Int))=false:=decide_eq_false (by omega)
   simp only [d0,a0S,reduceCtorEq,if_false,bs,a0A,a0e,c6P]
   refine .some (.inr ⟨by simp,rfl,.inr ⟨rfl,?_⟩⟩)
   rw [List.drop_length] at hV
   rw [← hV]
   by_cases h1:x.length<y.length
   ·obtain ⟨v,hv⟩:∃ v,y[x.length]?=some v:=⟨_,c7d h1⟩
    rw [a1o hv,if_pos h1];rfl
   ·rw [List.drop_of_length_le (by omega),if_neg h1,if_neg (by omega)];rfl
 ·rintro ⟨ex,ds,g⟩ ⟨h1,h2⟩
  simp only at h1 h2
  subst h1
  rcases h2 with ⟨rfl,hn⟩ | ⟨rfl,hv⟩
  ·simp only [a3H,a3G,a3y,a0d,a0f,bs,hn,a0q]
   exact .some rfl
  ·simp only [a0m,a0g,bs,a1S hx,a1S hy,a0o,a1l]
   subst hv
   by_cases h1:x.length<y.length
   ·have d1:decide ((x.length:Int)<(y.length:Int))=true:=decide_eq_true (by omega)
    simp only [d1,a0e,if_true,h1,a0q]
    exact .some rfl
   ·have d1:decide ((x.length:Int)<(y.length:Int))=false:=decide_eq_false (by omega)
    by_cases h2:x.length>y.length
    ·have d2:decide ((x.length:Int)>(y.length:Int))=true:=decide_eq_true (by omega)
     simp only [d1,d2,a0e,c6P,if_false,if_true,h1,h2,a0q]
     exact .some rfl
    ·have d2:decide ((x.length:Int)>(y.length:Int))=false:=decide_eq_false (by omega)
     simp only [d1,d2,a0e,c6P,if_false,h1,h2,a0q]
     exact .some rfl
def a3Z (r:Rw):Int:=r.n.head?.getD 0
theorem c3L (r:Rw):a0a tab a0h 0 (.fptr (a0w r))=some (.fptr (a0w r)):=id rfl
theorem c2h (r:Rw):a0a tab a0h 1 (.fptr (a0w r))=some (.fptr [r.nd,.int .i64 r.er]):=id rfl
theorem c3M (r:Rw) (h:Hp):a0c tab h a0C (.fptr (a0w r))=some r.kd:=by
 have h1:=a0R r.hk
 show a0c tab h a0C (.fptr [r.kd,r.nd,.int .i64 r.er])=_
 generalize r.kd=a at h1
 cases a <;> first | rfl | (simp [-bind_some, D.one] at h1)
theorem c2i (r:Rw) (h:Hp):a0c tab h a1c (.fptr [r.nd,.int .i64 r.er])=some r.nd:=by
 have h1:=a0R r.hn
 generalize r.nd=a at h1
 cases a <;> first | rfl | (simp [-bind_some, D.one] at h1)
theorem rwL (r:Rw) (h:Hp):a0c tab h a0h (.fptr (a0w r))=some (.agg (a0w r)):=id rfl
theorem b9z (r:Rw):a1J (.agg (a0w r))=some (.fptr (a0w r)):=a1z _
theorem a9A (n:Int) (h:Hp):a0c tab h ty3 (.fptr [.int .i64 n])=some (.int .i64 n):=id rfl
theorem c2r (r:Rw) (h:Hp):R a9k [.agg (a0w r)] h=some (.int .i64 (a3Z r),h):=by
 rw [c0X]
 simp only [b7T,b9z,bs,c2h,c2i,b5a r.hn,a0Q]
 have hn:=r.hn
 unfold a3Z
 cases hq:r.n with
 | nil=>simp only [c7g,Int.natCast_zero,decide_true,a0e,if_true,a0q,List.head?_nil,Option.getD_none]
 | cons z zs =>
  have d0:decide (((z::zs).length:Int)=0)=false:=decide_eq_false (by simp;omega)
  have hi:=b1Q hn 0
  rw [hq] at hi
  simp only [d0,a0e,c6P,if_false,bs,hi,Int.le_refl,if_true,Int.toNat_zero,c6R,Option.map_some,inr,a9A,a0q,List.head?_cons,Option.getD_some]
def cR (x y:Rw):Int:=if a5j (a3Z y) (a3Z x)=0 then a0Z x.k y.k else a5j (a3Z y) (a3Z x)
theorem c2q (x y:Rw) (h:Hp):R a7e [.agg (a0w x),.agg (a0w y)] h=some (.int .i64 (cR x y),h):=by
 rw [c0W]
 have hs:SlOf 1 inr [a5j (a3Z y) (a3Z x),a0Z x.k y.k] (.sl 1 true [[.int .i64 (a5j (a3Z y) (a3Z x))],[.int .i64 (a0Z x.k y.k)]]) := .inr ⟨true,rfl⟩
 have ho:orI [a5j (a3Z y) (a3Z x),a0Z x.k y.k]=cR x y:=by
  unfold orI orI orI cR
  split
  ·split
   ·rename_i h2;exact h2.symm
   ·rfl
  ·rfl
 simp only [b7S,b9z,bs,rwL,c2r,s90,c3L,c3M,b4i x.k y.k x.kd y.kd h x.hk y.hk x.hkl y.hkl,b4H,s89 _ _ h hs (by simp),ho,a1r,a0q]
theorem c0z:a5C (.fn (.func a7e) [] []) cR:=fun x y g=>by rw [a1D];exact c2q x y g
def rS (x y:Rw):Prop:=¬ cR y x<0
theorem a6M (a b:Int):a5j a b=0↔a=b:=by
 unfold a5j
 by_cases h:a<b
 ·simp [-bind_some, h];omega
 ·by_cases h2:b<a
  ·simp [-bind_some, h,h2];omega
  ·simp [-bind_some, h,h2];omega
theorem b5P (a b:Int):a5j a b<0↔a<b:=by
 unfold a5j
 by_cases h:a<b
 ·simp [-bind_some, h]
 ·by_cases h2:b<a
  ·simp [-bind_some, h,h2]
  ·simp [-bind_some, h,h2]
theorem b8J (x y:Rw):cR x y<0↔(a3Z y<a3Z x∨(a3Z x=a3Z y∧a0Z x.k y.k<0)):=by
 unfold cR
 by_cases h:a5j (a3Z y) (a3Z x)=0
 ·rw [if_pos h]
  rw [a6M] at h
  constructor
  ·intro h2;exact .inr ⟨h.symm,h2⟩
  ·rintro (h2 | ⟨_,h2⟩)
   ·omega
   ·exact h2
 ·rw [if_neg h,b5P]
  rw [a6M] at h
  constructor
  ·intro h2;exact .inl h2
  ·rintro (h2 | ⟨h2,_⟩)
   ·exact h2
   ·exact absurd h2.symm h
theorem b2t (x y:Rw):rS x y↔(a3Z y<a3Z x∨(a3Z x=a3Z y∧a0Z x.k y.k≤0)):=by
 unfold rS
 rw [b8J,a2i]
 omega
theorem b9l {x y z:List Str} (h:a0Z x y≤0) (k:a0Z y z≤0):a0Z x z≤0:=by
 by_cases h1:a0Z x y=0
 ·rw [a1H] at h1;subst h1;exact k
 ·by_cases k1:a0Z y z=0
  ·rw [a1H] at k1;subst k1;exact h
  ·exact Int.le_of_lt (a3O (show a0Z x y<0 by omega) (show a0Z y z<0 by omega))
theorem c2g:SOrd cR rS (fun _ _=>True) where
 tr:=fun x y z h k=>by
  rw [b2t] at *
  rcases h with h | ⟨h,h2⟩
  ·rcases k with k | ⟨k,k2⟩
   ·left;omega
   ·left;omega
  ·rcases k with k | ⟨k,k2⟩
   ·left;omega
   ·right;exact ⟨by omega,b9l h2 k2⟩
 lt:=fun x y _ h=>by
  unfold rS
  rw [b8J] at *
  have:=a2i x.k y.k
  omega
 ge:=fun x y _ h=>h
theorem b6U {x y:Rw} (h:rS x y) (k:rS y x):x.k=y.k:=by
 rw [b2t] at h k
 rw [a2i] at k
 rw [← a1H]
 omega
theorem b2u:∀ {C E:List Rw},C.Pairwise rS→E.Pairwise rS→C.Perm E→(C.map Rw.k).Nodup→C=E
 | [],E,_,_,hp,_=>by rw [List.nil_perm.1 hp]
 | x::C,[],_,_,hp,_=>by cases List.perm_nil.1 hp
 | x::C,y::E,hC,hE,hp,hn=>by
  rw [List.pairwise_cons] at hC hE
  rw [c6W,List.nodup_cons] at hn
  have hxy:x=y:=by
   apply Classical.byContradiction
   intro hne
   have hx:x∈E:=by
    have:x∈y::E:=hp.mem_iff.1 (by simp)
    rcases c7j.1 this with h | h
    ·exact absurd h hne
    ·exact h
   have hy:y∈C:=by
    have:y∈x::C:=hp.mem_iff.2 (by simp)
    rcases c7j.1 this with h | h
    ·exact absurd h.symm hne
    ·exact h
   have:=b6U (hC.1 y hy) (hE.1 x hx)
   exact hn.1 (by rw [this];exact c7l.2 ⟨y,hy,rfl⟩)
  subst hxy
  rw [b2u hC.2 hE.2 ((List.perm_cons x).1 hp) hn.2]
def RdR (h:Hp) (l:List Rw) (d:D):Prop:=SlOf 3 a0w l d∨∃ ob,d = .msl 3 ob 0 l.length∧h[ob]?=some (.row a0h 3 (l.map a0w))
theorem b4d {h:Hp} {l:List Rw} {d:D} (hd:RdR h l d):a0I h 3 d=some (l.map a0w):=by
 rcases hd with hd | ⟨ob,rfl,ho⟩
 ·exact a2f h hd
 ·have e:(List.take l.length (l.map a0w))=l.map a0w:=List.take_of_length_le (by simp)
  simp [-bind_some, a0I,ho,e]
theorem RdR.own {h:Hp} {n0:Nat} {l:List Rw} {d:D} (ow:Own h n0 a0h 3 (l.map a0w) d):RdR h l d:=by
 rcases ow with ⟨rfl,hn⟩ | ⟨o,_,rfl,hg⟩
 ·exact .inl (.inl ⟨rfl,by simpa using hn⟩)
 ·exact .inr ⟨o,by rw [c6U],hg⟩
theorem c2U (l:List Rw) (d:D) (h:Hp) (hd:RdR h l d) (hl:l.length≤1000000):∃ d' h',R b1p [d] h=some (d',h')∧h.length≤h'.length∧(∀ q,q<h.length→h'[q]?=h[q]?) ∧
  ((l=[]∧SlOf 3 a0w [] d')∨∃ ob,h.length≤ob∧d' = .msl 3 ob 0 l.length∧h'[ob]?=some (.row a0h 3 (l.map a0w))):=by
 rw [c0V]
 have hrow:=b4d hd
 by_cases hn:d = .nils
 ·subst hn
  have hl0:l=[]:=by
   rcases hd with (⟨_,h2⟩ | ⟨b,h2⟩) | ⟨ob,h2,_⟩
   ·simpa using h2
   ·cases h2
   ·cases h2
  subst hl0
  exact ⟨.nils,h,by
   have hne:a0l tab .eql a0u .nils .nils=some (.bool true):=id rfl
   simp [-bind_some, b5x,hne],Nat.le_refl _,fun _ _=>rfl,.inl ⟨rfl,.nils _ _⟩⟩
 ·obtain ⟨x',h',e,hl',hq,ho⟩:=a5N (T:=tab) (t:=a0u) (i:=a5A) (j:=ti1146) (h:=h) (id rfl) (id rfl) (id rfl) (by decide) (y:=d) hrow (a2d (by have:ti1146.by_=56:=rfl;rw [this,c6U];omega) (by rw [c6U];omega))
  have e':a0p tab h a0u a0u (.sl 3 true []) d=some (x',h'):=e
  have hne:a0l tab .eql a0u d .nils=some (.bool false):=by
   rcases hd with (⟨h2,_⟩ | ⟨b,rfl⟩) | ⟨ob,rfl,_⟩
   ·exact absurd h2 hn
   ·exact id rfl
   ·exact id rfl
  refine ⟨x',h',?_,hl',hq,?_⟩
  ·simp only [b5x,bs,hne,a0e,c6P,if_false,b3g,e',a0q]
  ·rcases ho with ⟨rfl,hn⟩ | ⟨rfl,hn⟩ | ⟨ob,h1,rfl,h2⟩
   ·have:l=[]:=by simpa using hn
    exact .inl ⟨this,.inr ⟨true,rfl⟩⟩
   ·have:l=[]:=by simpa using hn
    exact .inl ⟨this,.nils _ _⟩
   ·exact .inr ⟨ob,h1,by rw [c6U];rfl,h2⟩
theorem b9A (d cmp:D) (h:Hp) (hd:SlOf 3 a0w [] d):∃ x,R a9j [d,cmp] h=some (x,h):=by
 have hl:a0x tab a0u d=some (.int .i64 0):=a4r hd
 have h65:∃ x,R a4H [d,.int .i64 0,.int .i64 0,cmp] h=some (x,h):=by
  rw [b8U]
  refine ⟨a0i [],?_⟩
  simp only [b5B,bs,c6O,a0n,show IntKind.wrap .i64 ((0:Int)+1)=1 from rfl]
  rw [a1t]
  simp [-bind_some, a5G]
 obtain ⟨x,h65⟩:=h65
 have h63:∃ x,R a9l [d,.int .i64 0,cmp] h=some (x,h):=by
  rw [b8T]
  refine ⟨a0i [],?_⟩
  simp only [b5A,bs,c6O]
  rw [a1t]
  have h20:¬ (20:Int)≤0:=by omega
  have h21:¬ (20:Int)<0:=by omega
  simp only [a5D,a0d,a0f,bs,a3u,h20,decide_false,a0e,c6P,if_false,a0m,a0g,h65]
  rw [a1t]
  simp only [a5E,a0d,a0f,bs,a0o,h21,decide_false,a0e,c6P,if_false,a0m,a2J]
 obtain ⟨y,h63⟩:=h63
 refine ⟨a0i [],?_⟩
 rw [b8R]
 simp only [b5y,bs,hl,h63]
theorem c2Y {cmp:D} (hcmp:a5C cmp cR) {o N:Nat} (hN:N≤1000000000) {g:Hp} {l:List Rw} (hl:l.length=N) (ho:g[o]?=some (.row a0h 3 (l.map a0w))) :
  ∃ d g',∃ C:List Rw,R a9j [.msl 3 o 0 N,cmp] g=some (d,g')∧C.Perm l∧C.Pairwise rS∧g'[o]?=some (.row a0h 3 (C.map a0w))∧Same o g g':=by
 obtain ⟨⟨d,g'⟩,e,C,q1,q2,q3,q4⟩:=c2Z c2g hcmp hN hl (List.pairwise_of_forall fun _ _=>trivial) ho
 refine ⟨a0i [],g',C,?_,q1,q2,q3,q4⟩
 rw [b8R]
 simp only [b5y,bs,a9C,e]
def b0u (n:Int) (k:Nat):Nat:=(min (max n 0) (k:Int)).toNat
theorem b0U (n:Int) (k:Nat):b0u n k≤k:=by unfold b0u;omega
theorem b4L (n:Int):b8O (.int .i64 n) (.int .i64 0)=some (.int .i64 (max n 0)):=by
 show some (D.int .i64 (if (0:Int)>n then 0 else n))=_
 congr 2
 split <;> omega
theorem b4M (n:Int) (k:Nat):b2U (.int .i64 (max n 0)) (.int .i64 (k:Int))=some (.int .i64 ((b0u n k:Nat):Int)):=by
 show some (D.int .i64 (if (k:Int)<max n 0 then (k:Int) else max n 0))=_
 congr 2
 unfold b0u
 split <;> omega
theorem a3T (n0:Nat) (h:Hp) (n:Nat) {l:List Str} {d:D} (hd:SlOf 1 (fun s=>[D.str s]) l d):frz n0 h (n+1) d=d:=a2l hd fun a _ x hx=>by
 simp at hx;subst hx;exact a3M _ _ _ _
theorem b1J (n0:Nat) (h:Hp) (n:Nat) {l:List Int} {d:D} (hd:SlOf 1 inr l d):frz n0 h (n+1) d=d:=a2l hd fun a _ x hx=>by
 simp [-bind_some, inr] at hx;subst hx;exact a3L _ _ _ _ _
theorem a4b (n:Nat) {l:List Str} {d:D} (hd:SlOf 1 (fun s=>[D.str s]) l d):Ok n d:=a1j hd fun a _ x hx=>by
 simp at hx;subst hx;exact .str _
theorem b1K (n:Nat) {l:List Int} {d:D} (hd:SlOf 1 inr l d):Ok n d:=a1j hd fun a _ x hx=>by
 simp [-bind_some, inr] at hx;subst hx;exact .int _ _
theorem a9N (n0:Nat) (h:Hp) (n:Nat) (r:Rw):∀ d∈a0w r,frz n0 h (n+1) d=d:=fun d hd=>by
 simp only [a0w,c7j,List.not_mem_nil,or_false] at hd
 rcases hd with rfl | rfl | rfl
 ·exact a3T _ _ _ r.hk
 ·exact b1J _ _ _ r.hn
 ·exact a3L _ _ _ _ _
theorem b2y (n:Nat) (r:Rw):∀ d∈a0w r,Ok n d:=fun d hd=>by
 simp only [a0w,c7j,List.not_mem_nil,or_false] at hd
 rcases hd with rfl | rfl | rfl
 ·exact a4b _ r.hk
 ·exact b1K _ r.hn
 ·exact .int _ _
theorem b0p {h g:Hp} {o m:Nat} {C:List Rw} (hm:m≤C.length) (ho:h.length≤o) (hg:g[o]?=some (.row a0h 3 (C.map a0w))) (hl:h.length≤g.length) (hb:∀ q,q<h.length→g[q]?=h[q]?) :
  scope h g (.msl 3 o 0 m)=some (.sl 3 false ((C.take m).map a0w),h):=by
 refine a1u ?_ ?_ hl hb
 ·rw [a7Z ho hg,List.drop_zero,← List.map_take]
  rw [a2e fun row hrow=>a2e fun d hd=>by
   obtain ⟨r,_,rfl⟩:=c7l.1 hrow
   exact a9N _ _ _ r d hd]
 ·exact a1j (SlOf.mk _ _ _ _) fun r _=>b2y _ r
theorem c2m (l:List Rw) (d:D) (n:Int) (h:Hp) (hd:RdR h l d) (hl:l.length≤1000000):∃ C:List Rw,∃ d',R b1o [d,.int .i64 n] h=some (d',h)∧C.Perm l∧C.Pairwise rS∧SlOf 3 a0w (C.take (b0u n l.length)) d':=by
 rw [c0Q]
 obtain ⟨d1,h1,e1,hl1,hb1,hd1⟩:=c2U l d h hd hl
 rcases hd1 with ⟨rfl,hd1⟩ | ⟨ob,hob,rfl,ho⟩
 ·obtain ⟨x,hx⟩:=b9A d1 (.fn (.func a7e) [] []) h1 hd1
  have hcut:b0u n ([]:List Rw).length=0:=by have:=b0U n ([]:List Rw).length;simpa using this
  obtain ⟨d2,e2,hd2⟩:=b6Y hd1 (k := .i64) (n:=((0:Nat):Int)) (by omega) (by simp)
  have hsc:scope h h1 d2=some (d2,h):=a1u (a2l hd2 fun a ha=>by simp at ha) (a1j hd2 fun a ha=>by simp at ha) hl1 hb1
  refine ⟨[],d2,?_,List.Perm.refl _,List.Pairwise.nil,by simpa using hd2⟩
  have hmin:=b4M n 0
  rw [show b0u n 0=0 from hcut] at hmin
  simp only [b5w,bs,e1,hx,b8S,b5z,b4L,a4r hd1,c7g,hmin,e2,a0q,hsc]
 ·obtain ⟨x,h2,C,q1,q2,q3,q4,q5⟩:=c2Y c0z (o:=ob) (N:=l.length) (by omega) rfl ho
  have hmin:=b4M n l.length
  have hcut:=b0U n l.length
  have hslice:a0E tab a0u false true false [.msl 3 ob 0 l.length,.int .i64 ((b0u n l.length:Nat):Int)]=some (.msl 3 ob 0 (b0u n l.length)):=b5f (T:=tab) (t:=a0u) (i:=a5A) (j:=ti1146) (id rfl) (id rfl) (id rfl) (id rfl) (by decide) hcut
  have hsc:=b0p (m:=b0u n l.length) (C:=C) (by rw [q2.length_eq];exact hcut) hob q4 (by have:=q5.1;omega) (fun q hq=>(q5.2 q (by omega)).trans (hb1 q hq))
  refine ⟨C,.sl 3 false ((C.take (b0u n l.length)).map a0w),?_,q2,q3,.mk _ _ _ _⟩
  simp only [b5w,bs,e1,q1,b8S,b5z,b4L,a9C,hmin,hslice,a0q,hsc]
theorem b0h {α:Type} [BEq α] [LawfulBEq α] {x y:List α} {i:Nat} {u v:α} (hu:x[i]?=some u) (hv:y[i]?=some v):(x.drop i==y.drop i)=((u==v)&&(x.drop (i+1)==y.drop (i+1))):=by
 rw [a1o hu,a1o hv];rfl
theorem c2p (x y:List Str) (dx dy:D) (h:Hp) (hx:SlOf 1 (fun s=>[D.str s]) x dx) (hy:SlOf 1 (fun s=>[D.str s]) y dy) (hl:x.length≤1000000):R a7d [dx,dy] h=some (.bool (x==y),h):=by
 apply Wp.val
 rw [c0U]
 simp only [b7R,bs,c6O,a1S hx,a1S hy,a4n]
 by_cases hne:x.length=y.length
 case neg =>
  have d0:decide ((x.length:Int)≠(y.length:Int))=true:=decide_eq_true (by omega)
  have hb:(x==y)=false:=by
   cases hq:x==y
   ·rfl
   ·exact absurd (congrArg List.length (eq_of_beq hq)) hne
  simp only [d0,a0e,if_true,a0q,hb]
  exact .some rfl
 have d0:decide ((x.length:Int)≠(y.length:Int))=false:=decide_eq_false (by omega)
 simp only [d0,a0e,c6P,if_false]
 generalize hV:(x==y)=V
 refine Wp.loop (fun k ds g=>g=h∧∃ a b c,∃ i:Nat,ds=[a,.int .i64 i,b,c]∧k+i=x.length∧(x.drop i==y.drop i)=V)
  (fun r=>r.2.2=h∧((r.1 = .ret∧nth 0 r.2.1 = .bool false∧V=false)∨(r.1 = .ext 0∧V=true))) x.length ⟨rfl,_,_,_,0,rfl,by omega,hV⟩ ?_ ?_
 ·rintro k ds g ⟨rfl,a,b,c,i,rfl,hk,hV⟩
  simp only [a8u,a0d,a0f,bs,c6O,a1S hx,a0o]
  refine Wp.dif ?_ ?_
  ·intro h0
   have h0:i<x.length:=dl_ h0
   obtain ⟨u,hu⟩:=gx_ h0
   obtain ⟨v,hv⟩:∃ v,y[i]?=some v:=⟨_,c7d (by omega)⟩
   have hw:=wi_ i (by omega)
   rw [b0h hu hv] at hV
   simp only [a6k hx,a6k hy,Int.natCast_nonneg,if_true,c6X,hu,hv,Option.map_some,bs,a4R,b0V]
   cases hb:(u==v)
   ·rw [hb] at hV
    simp only [c6Z,a0e,if_true]
    exact .some (.inr ⟨by simp,rfl,.inl ⟨rfl,rfl,hV.symm⟩⟩)
   ·rw [hb] at hV
    simp only [c6Y,a0e,c6P,if_false,a0n,hw,bs]
    exact .some (.inl ⟨rfl,k - 1,by omega,rfl,_,_,_,i+1,rfl,by omega,hV⟩)
  ·intro h0
   have h0:x.length≤i:=by
    have:¬ (i:Int)<x.length:=by simpa using h0
    omega
   rw [List.drop_of_length_le h0,List.drop_of_length_le (by omega)] at hV
   exact .some (.inr ⟨by simp,rfl,.inr ⟨rfl,hV.symm⟩⟩)
 ·rintro ⟨ex,ds,g⟩ ⟨h1,h2⟩
  simp only at h1 h2
  subst h1
  rcases h2 with ⟨rfl,hn,rfl⟩ | ⟨rfl,rfl⟩
  ·simp only [a3H,a3G,a3y,a0d,a0f,bs,hn,a0q]
   exact .some rfl
  ·simp only [a0m,a0g,bs,a0q]
   exact .some rfl
def a7z (r:Rw):List Str × List Int × Int:=(r.k,r.n,r.er)
theorem RdR.keep {h g:Hp} {l:List Rw} {d:D} (hd:RdR h l d) (hk:∀ q,q<h.length→g[q]?=h[q]?):RdR g l d:=by
 rcases hd with hd | ⟨ob,he,ho⟩
 ·exact .inl hd
 ·exact .inr ⟨ob,he,by rw [hk ob (c7e.1 ho).1];exact ho⟩
def dig (n:Int):Str:=[UInt8.ofNat (48+n.toNat)]
theorem c2B (n:Int) (h:Hp) (h0:0≤n) (h9:n≤9):R a5p [.int .i64 n] h=some (.str (dig n),h):=by
 apply Wp.val
 have d0:decide (n<0)=false:=decide_eq_false (by omega)
 have w1:IntKind.wrap .u64 n=n:=a4u h0 (by omega)
 have r1:n.tmod 10=n:=by rw [Int.tmod_eq_emod_of_nonneg h0];omega
 have q1:n.tdiv 10=0:=by rw [Int.tdiv_eq_ediv_of_nonneg h0];omega
 have w2:IntKind.wrap .u64 (48+n)=48+n:=a4u (by omega) (by omega)
 have w3:IntKind.wrap .u8 (48+n)=48+n:=by rw [b4u];omega
 have w4:IntKind.wrap .u64 0=0:=a4u (by omega) (by omega)
 have ap:a0p tab h a5c a5c (.sl 1 true [[.int .u8 (48+n)]]) .nils=some (.sl 1 true [[.int .u8 (48+n)]],h):=id rfl
 have ts:a6T h (.sl 1 true [[.int .u8 (48+n)]])=some (.str (dig n)):=by
  have e:(48+n).toNat=48+n.toNat:=by omega
  simp [-bind_some, a6T,a0I,a5k,dig,e]
 have hsc:scope h h (.str (dig n))=some (.str (dig n),h):=a1u (by simp) (.str _) (Nat.le_refl _) fun _ _=>rfl
 rw [c1k]
 simp only [b8g,bs,c6O,b3x,w1,a0o,d0,a0e,c6P,if_false,a0g,a0d]
 rw [a1t]
 simp only [a8B,a0d,a0f,bs,b3z,show ¬ (10:Int)=0 by omega,if_false,r1,a0n,w2,b3w,w3,b8E,ap,b3y,q1,w4,a0Q,decide_true,a0e,if_true,a0m,a0g,a0o,d0,c6P,ts,a0q,hsc]
 exact .some rfl
def b2Q (e:Ev) (nm:Str):Str × Bool :=
 if nm=[64,104,111,115,116] then (dig e.a0,true) else if nm=[64,116,114,97,99,101] then (e.s7,true) else if nm=[64,115,116,114,101,97,109] then (e.s8,true) else ((a6c e.fs nm).getD [],(a6c e.fs nm).isSome)
def b0v (nm:Str):Prop:=nm≠[64,102,105,108,101]∧nm≠[64,116,105,109,101]∧nm≠[64,119,101,105,103,104,116]
theorem b9B (e:Ev) (nm:Str) (h:Hp) (h0:0≤e.a0) (h9:e.a0≤9) (hn:b0v nm):R a7f [.agg (evr e),.str nm] h=some (.tup [.str (b2Q e nm).1,.bool (b2Q e nm).2],h):=by
 have q0:a0a tab a0O 0 (.fptr (evr e))=some (.fptr (evr e)):=id rfl
 have q7:a0a tab a0O 7 (.fptr (evr e))=some (.fptr [.str e.s7,.str e.s8,e.fd]):=id rfl
 have q8:a0a tab a0O 8 (.fptr (evr e))=some (.fptr [.str e.s8,e.fd]):=id rfl
 have q9:a0a tab a0O 9 (.fptr (evr e))=some (.fptr [e.fd]):=id rfl
 have l0:a0c tab h ty3 (.fptr (evr e))=some (.int .i64 e.a0):=id rfl
 have l9:a0c tab h a4V (.fptr [e.fd])=some e.fd:=by
  have h1:=a0R e.hfd
  generalize e.fd=a at h1
  cases a <;> first | rfl | (simp [-bind_some, D.one] at h1)
 rw [c1i]
 simp only [b8e,a1z,bs,a6P,q0,q7,q8,q9,l0]
 unfold b2Q
 have n1:(nm==[64,102,105,108,101])=false:=by simpa using hn.1
 have n2:(nm==[64,116,105,109,101])=false:=by simpa using hn.2.1
 have n3:(nm==[64,119,101,105,103,104,116])=false:=by simpa using hn.2.2
 by_cases c1:nm=[64,104,111,115,116]
 ·have b1:(nm==[64,104,111,115,116])=true:=by simpa using c1
  rw [if_pos c1]
  simp only [b1,a0e,if_true,c2B e.a0 h h0 h9,bs,a1U]
 have b1:(nm==[64,104,111,115,116])=false:=by simpa using c1
 by_cases c2:nm=[64,116,114,97,99,101]
 ·have b2:(nm==[64,116,114,97,99,101])=true:=by simpa using c2
  have l7:a0c tab h ty9 (.fptr [.str e.s7,.str e.s8,e.fd])=some (.str e.s7):=id rfl
  rw [if_neg c1,if_pos c2]
  simp only [b1,n1,n2,n3,b2,a0e,c6P,if_false,if_true,l7,bs,a1U]
 have b2:(nm==[64,116,114,97,99,101])=false:=by simpa using c2
 by_cases c3:nm=[64,115,116,114,101,97,109]
 ·have b3:(nm==[64,115,116,114,101,97,109])=true:=by simpa using c3
  have l8:a0c tab h ty9 (.fptr [.str e.s8,e.fd])=some (.str e.s8):=id rfl
  rw [if_neg c1,if_neg c2,if_pos c3]
  simp only [b1,n1,n2,n3,b2,b3,a0e,c6P,if_false,if_true,l8,bs,a1U]
 have b3:(nm==[64,115,116,114,101,97,109])=false:=by simpa using c3
 rw [if_neg c1,if_neg c2,if_neg c3]
 simp only [b1,n1,n2,n3,b2,b3,a0e,c6P,if_false,l9,bs,s76 _ _ _ h e.hfd e.hl,a8a,a1a,c6R,c6S,a1U]
theorem b1E {l:List (Str × Str)} (hl:b0t l):a6c l []=none:=by
 unfold a6c
 have:l.find? (fun p=>p.1==([]:Str))=none:=by
  rw [List.find?_eq_none]
  intro p hp
  have hm:=hl.1.subset (c7l.2 ⟨p,hp,rfl⟩)
  have:=(show ∀ s∈lt98_9,(s==([]:Str))=false by decide) _ hm
  simpa using this
 rw [this];rfl
theorem c2A (e:Ev) (h:Hp) (h0:0≤e.a0) (h9:e.a0≤9) (hf:b0t e.fs):R b1u [.agg (evr e),.str []] h=some (.tup [.int .i64 0,.bool false],h):=by
 have hv:b2Q e []=([],false):=by
  unfold b2Q
  rw [if_neg (by simp),if_neg (by simp),if_neg (by simp),b1E hf];rfl
 rw [c1h]
 have hL:a0c tab h a0O (.fptr (evr e))=some (.agg (evr e)):=id rfl
 simp only [b8d,a1z,bs,hL,b9B e [] h h0 h9 (by unfold b0v;simp [-bind_some]),hv,a1a,c6R,c6S,a3K,c6Z,a0e,if_true,a1U]
def a3h (ns:List Str) (e:Ev):List Str:=ns.map fun n=>(b2Q e n).1
theorem c2z (ns:List Str) (dn:D) (e:Ev) (h:Hp) (hd:SlOf 1 (fun s=>[D.str s]) ns dn) (hl:ns.length≤1000) (h0:0≤e.a0) (h9:e.a0≤9) (hn:∀ n∈ns,b0v n):∃ d',R a9p [dn,.agg (evr e)] h=some (d',h)∧SlOf 1 (fun s=>[D.str s]) (a3h ns e) d':=by
 suffices Wp (R a9p [dn,.agg (evr e)] h) (fun p=>p.2=h∧SlOf 1 (fun s=>[D.str s]) (a3h ns e) p.1) by
  obtain ⟨⟨x,h'⟩,h1,rfl,h2⟩:=this
  exact ⟨x,h1,h2⟩
 rw [c1g]
 have hL:∀ g,a0c tab g a0O (.fptr (evr e))=some (.agg (evr e)):=fun g=>id rfl
 simp only [b8c,a1z,bs,c6O]
 refine Wp.loop (fun k ds g=>∃ x a b,∃ i:Nat,ds=[x,.int .i64 (i:Int),a,b]∧k+i=ns.length∧Own g h.length ty9 1 ((a3h (ns.take i) e).map fun s=>[D.str s]) x∧h.length≤g.length∧(∀ q,q<h.length→g[q]?=h[q]?))
  (fun r=>r.1 = .ext 0∧∃ x a b c,r.2.1=[x,a,b,c]∧Own r.2.2 h.length ty9 1 ((a3h ns e).map fun s=>[D.str s]) x∧h.length≤r.2.2.length∧(∀ q,q<h.length→r.2.2[q]?=h[q]?)) ns.length
  ⟨_,_,_,0,rfl,rfl,Own.nils _ _ _ _,Nat.le_refl _,fun _ _=>rfl⟩ ?_ ?_
 ·rintro k ds g ⟨x,a,b,i,rfl,hk,ow,hlen,hq⟩
  simp only [a8z,a0d,a0f,bs,c6O,a1S hd,a0o]
  refine Wp.dif ?_ ?_
  ·intro hlt
   have hlt:i<ns.length:=dl_ hlt
   obtain ⟨u,hu⟩:=gx_ hlt
   have hw:=wi_ i (by omega)
   simp only [hL,a6k hd,Int.natCast_nonneg,if_true,c6X,hu,Option.map_some,bs,a4R,b9B e u g h0 h9 (hn u (c7c hu)),a1a,c6R,c6S,a8T]
   refine b7p (n0:=h.length) hlen ow (a1e _ _ _ _) (by simp [-bind_some, a3h];omega) fun x9 g2 o2 l2 b2 _ _=>?_
   simp only [bs,a0n,hw]
   refine .some (.inl ⟨rfl,k - 1,by omega,_,_,_,i+1,rfl,by omega,?_,by show h.length≤g2.length;omega,fun q hq'=>by rw [b2 q hq'];exact hq q hq'⟩)
   have:(a3h (ns.take (i+1)) e).map (fun s=>[D.str s])=(a3h (ns.take i) e).map (fun s=>[D.str s])++[[D.str (b2Q e u).1]]:=by
    rw [c7a,hu];simp [-bind_some, a3h]
   rw [this];exact o2
  ·intro hge
   have hge:ns.length≤i:=by
    have:¬ (i:Int)<ns.length:=by simpa using hge
    omega
   rw [List.take_of_length_le hge] at ow
   exact .some (.inr ⟨by simp,rfl,_,_,_,_,rfl,ow,hlen,hq⟩)
 ·rintro ⟨ex,ds,g⟩ ⟨rfl,x,a,b,c,rfl,ow,hlen,hq⟩
  simp only [a0m,a0g,bs,a0d,a0q]
  have hs:=a1W (n0:=h.length) (n:=3) ow (Nat.le_refl _) fun s _ y hy=>by simp at hy;subst hy;exact a3M _ _ _ _
  have hsc:scope h g x=some (frz h.length g 4 x,h):=a1u rfl (a4b _ hs) hlen hq
  rw [hsc]
  exact .some ⟨rfl,hs⟩
structure Pt where
 k:List Str
 kd:D
 hk:SlOf 1 (fun s=>[D.str s]) k kd
 hkl:k.length≤1000000
 tot:Int
 td:D
 ht:SlOf 1 inr [tot] td
 sd:D
 hs:SlOf 1 (fun b=>[D.bool b]) [true] sd
 vd:D
 hv:SlOf 1 (fun d:D=>[d]) [.nils] vd
def a2o (p:Pt):List D:=[p.kd,p.td,p.sd,p.vd]
def a9U:D := .sl 2 true [[.int .i64 0,.str []]]
theorem a4l:a0x tab a4e a9U=some (.int .i64 1):=id rfl
theorem b0C:a0b tab a4e a9U (.int .i64 0)=some (.fptr [.int .i64 0,.str []]):=id rfl
theorem b8A (h:Hp):a0c tab h a3f (.fptr [.int .i64 0,.str []])=some (.agg [.int .i64 0,.str []]):=id rfl
theorem b5H:a7L 2 (.agg [.int .i64 0,.str []])=some (.fptr [.int .i64 0,.str []]):=id rfl
theorem b4C:a0a tab a3f 0 (.fptr [.int .i64 0,.str []])=some (.fptr [.int .i64 0,.str []]):=id rfl
theorem b8z:a0a tab a3f 1 (.fptr [.int .i64 0,.str []])=some (.fptr [.str []]):=id rfl
theorem b4D (h:Hp):a0c tab h ty3 (.fptr [.int .i64 0,.str []])=some (.int .i64 0):=id rfl
theorem c3K {g:Hp} {o n0:Nat} {kd:D} (ho:g[o]?=some (.row a0k 4 [[kd,.nils,.nils,.nils]])) (hon:n0≤g.length) (ho0:o<n0) (tot:Int) (b:Bool) (v:D) (hv:v.one=true) {β:Type} {f:Hp→Option β} {Q:β→Prop}
  (K:∀ g' x1 x2 x3,g'[o]?=some (.row a0k 4 [[kd,x1,x2,x3]])→Own g' n0 ty3 1 [[.int .i64 tot]] x1→Own g' n0 ty4 1 [[.bool b]] x2→Own g' n0 a0C 1 [[v]] x3→g.length≤g'.length→(∀ q,q<n0→q≠o→g'[q]?=g[q]?)→Wp (f g') Q) :
  Wp ((a0c tab g a1c (.ptr o 0 1)).bind fun t69=>(a0p tab g a1c a1c t69 (.sl 1 true [[.int .i64 tot]])).bind fun p72=>(a0c tab p72.2 a0G (.ptr o 0 2)).bind fun t74=>(a0p tab p72.2 a0G a0G t74 (.sl 1 true [[.bool b]])).bind fun p77 =>
   (a0c tab p77.2 a0L (.ptr o 0 3)).bind fun t79=>(a0p tab p77.2 a0L a0L t79 (.sl 1 true [[v]])).bind fun p82=>(a0s tab p82.2 a1c (.ptr o 0 1) p72.1).bind fun p916=>(a0s tab p916 a0G (.ptr o 0 2) p77.1).bind fun p918 =>
   chk (a0c tab g a0G (.ptr o 0 2)=some t74) (chk (a0c tab g a0L (.ptr o 0 3)=some t79) (chk (a0c tab p72.2 a0L (.ptr o 0 3)=some t79) ((a0s tab p918 a0L (.ptr o 0 3) p82.1).bind f)))) Q:=by
 have ld:∀ (g:Hp),g[o]?=some (.row a0k 4 [[kd,.nils,.nils,.nils]])→a0c tab g a1c (.ptr o 0 1)=some .nils∧a0c tab g a0G (.ptr o 0 2)=some .nils∧a0c tab g a0L (.ptr o 0 3)=some .nils:=fun g hg=>⟨by rw [c1Z,a1q hg];rfl,by rw [b6A,a1q hg];rfl,by rw [b6B,a1q hg];rfl⟩
 simp only [(ld g ho).1,bs]
 refine b9R (n0:=n0) (rows:=[]) hon (.nils _ _ _ _) (a1e _ _ _ _) (by simp) fun x1 g1 o1 l1 b1 _ i1=>?_
 rw [List.nil_append] at o1
 have h1:g1[o]?=some (.row a0k 4 [[kd,.nils,.nils,.nils]]):=by rw [b1 o ho0];exact ho
 simp only [(ld g1 h1).2.1,bs]
 refine b7m (n0:=n0) (rows:=[]) (by omega) (.nils _ _ _ _) (a1e _ _ _ _) (by simp) fun x2 g2 o2 l2 b2 e2 i2=>?_
 rw [List.nil_append] at o2
 have h2:g2[o]?=some (.row a0k 4 [[kd,.nils,.nils,.nils]]):=by rw [b2 o ho0];exact h1
 have o1:Own g2 n0 ty3 1 [[.int .i64 tot]] x1:=o1.keep fun q hq hx=>e2 q ((o1.lt hx).2) (fun hh=>by obtain ⟨_,_,hh⟩:=hh;cases hh)
 simp only [(ld g2 h2).2.2,bs]
 refine b7n (n0:=n0) (rows:=[]) (by omega) (.nils _ _ _ _) (a1e _ _ _ _) (by simp) fun x3 g3 o3 l3 b3 e3 i3=>?_
 rw [List.nil_append] at o3
 have h3:g3[o]?=some (.row a0k 4 [[kd,.nils,.nils,.nils]]):=by rw [b3 o ho0];exact h2
 have o1:Own g3 n0 ty3 1 [[.int .i64 tot]] x1:=o1.keep fun q hq hx=>e3 q ((o1.lt hx).2) (fun hh=>by obtain ⟨_,_,hh⟩:=hh;cases hh)
 have o2:Own g3 n0 ty4 1 [[.bool b]] x2:=o2.keep fun q hq hx=>e3 q ((o2.lt hx).2) (fun hh=>by obtain ⟨_,_,hh⟩:=hh;cases hh)
 have k1:=a1k (a2n o1)
 have k2:=a1k (a2n o2)
 have k3:=a1k (a2n o3)
 try simp only [bs]
 refine c3h h3 (by rfl) (by rw [k1.1];rfl) (by show 1+1≤4;omega) k1.2 fun g4 p4 s4=>?_
 rw [k1.1] at p4
 have p4:g4[o]?=some (.row a0k 4 [[kd,x1,.nils,.nils]]):=p4
 try simp only [bs]
 refine b7t p4 (by rfl) (by rw [k2.1];rfl) (by show 2+1≤4;omega) k2.2 fun g5 p5 s5=>?_
 rw [k2.1] at p5
 have p5:g5[o]?=some (.row a0k 4 [[kd,x1,x2,.nils]]):=p5
 simp only [(ld g ho).2.1,(ld g ho).2.2,(ld g1 h1).2.2,a1r,bs]
 refine b7u p5 (by rfl) (by rw [k3.1];rfl) (by show 3+1≤4;omega) k3.2 fun g6 p6 s6=>?_
 rw [k3.1] at p6
 have p6:g6[o]?=some (.row a0k 4 [[kd,x1,x2,x3]]):=p6
 have sm:Same o g3 g6:=(s4.trans s5).trans s6
 refine K g6 x1 x2 x3 p6 (o1.same sm ho0) (o2.same sm ho0) (o3.same sm ho0) (by have:=sm.1;omega) fun q hq hne=>?_
 rw [sm.2 q hne,b3 q hq,b2 q hq,b1 q hq]
theorem c2c {a b c d:D} (ha:a.one=true) (hb:b.one=true) (hc:c.one=true) (hd:d.one=true):(D.agg [a,b,c,d]).okv=true:=by simp [-bind_some, D.okv,ha,hb,hc,hd]
def b8v (h:Hp) (ks:List Str) (kd:D) (tot:Int) (g:Hp):Prop:=∃ x1 x2 x3,g[h.length]?=some (.row a0k 4 [[.nils,.nils,.nils,.nils]])∧g[h.length+1]?=some (.row a0k 4 [[kd,x1,x2,x3]])∧Own g (h.length+2) ty3 1 [[.int .i64 tot]] x1∧Own g (h.length+2) ty4 1 [[.bool true]] x2∧Own g (h.length+2) a0C 1 [[.nils]] x3∧∀ q,q<h.length→g[q]?=h[q]?
theorem b1m {h g:Hp} {ks:List Str} {kd:D} {tot:Int} (hk:SlOf 1 (fun s=>[D.str s]) ks kd) (hkl:ks.length≤1000000) (hf:b8v h ks kd tot g) {Q:D × Hp→Prop} (K:∀ pt:Pt,pt.k=ks→pt.tot=tot→Q (.agg (a2o pt),h)) :
  Wp ((a0c tab g a0k (.ptr (h.length+1) 0 0)).bind fun t86=>(a0s tab g a0k (.ptr h.length 0 0) t86).bind fun p901=>(a0c tab p901 a0k (.ptr h.length 0 0)).bind fun d=>scope h p901 (a0i [d])) Q:=by
 obtain ⟨x1,x2,x3,a0,a1,o1,o2,o3,hq⟩:=hf
 have e1:a0c tab g a0k (.ptr (h.length+1) 0 0)=some (.agg [kd,x1,x2,x3]):=by rw [b1T,a1q a1];rfl
 simp only [e1,bs]
 refine a8q (off:=0) (v := .agg [kd,x1,x2,x3]) a0 (by rfl) (by rfl) (by show 0+4≤4;omega) (c2c (a0R hk) (a2n o1) (a2n o2) (a2n o3)) fun g2 p2 s2=>?_
 have p2:g2[h.length]?=some (.row a0k 4 [[kd,x1,x2,x3]]):=p2
 have e2:a0c tab g2 a0k (.ptr h.length 0 0)=some (.agg [kd,x1,x2,x3]):=by rw [b1T,a1q p2];rfl
 have gl:=(c7e.1 a1).1
 have o1:=o1.same s2 (by omega)
 have o2:=o2.same s2 (by omega)
 have o3:=o3.same s2 (by omega)
 have z1:SlOf 1 inr [tot] (frz h.length g2 3 x1):=a1W (n0:=h.length) (n:=2) (f:=inr) (l:=[tot]) o1 (by omega) fun s _ y hy=>by simp [-bind_some, inr] at hy;subst hy;exact a3L _ _ _ _ _
 have z2:SlOf 1 (fun b=>[D.bool b]) [true] (frz h.length g2 3 x2):=a1W (n0:=h.length) (n:=2) (f:=fun b=>[D.bool b]) (l:=[true]) o2 (by omega) fun s _ y hy=>by simp at hy;subst hy;exact a9x _ _ _ _
 have z3:SlOf 1 (fun d:D=>[d]) [.nils] (frz h.length g2 3 x3):=a1W (n0:=h.length) (n:=2) (f:=fun d:D=>[d]) (l:=[.nils]) o3 (by omega) fun s hs y hy=>by simp at hs hy;subst hy;subst hs;exact a9y _ _ _
 have z0:frz h.length g2 3 kd=kd:=a3T _ _ 2 hk
 have hsc:scope h g2 (.agg [kd,x1,x2,x3])=some (.agg [kd,frz h.length g2 3 x1,frz h.length g2 3 x2,frz h.length g2 3 x3],h):=by
  refine a1u ?_ ?_ (by have:=s2.1;omega) (fun q hq'=>by rw [s2.2 q (by omega)];exact hq q hq')
  ·simp only [b6l,c6W,List.map_nil,z0]
  ·refine .agg _ fun y hy=>?_
   simp only [c7j,List.not_mem_nil,or_false] at hy
   rcases hy with rfl | rfl | rfl | rfl
   ·exact a4b _ hk
   ·exact b1K _ z1
   ·exact a1j z2 fun b _ y hy=>by simp at hy;subst hy;exact .bool _
   ·exact a1j z3 fun b hb y hy=>by simp at hb hy;subst hy;subst hb;exact .nils
 simp only [e2,bs,a0q,hsc]
 exact .some (K ⟨ks,kd,hk,hkl,tot,_,z1,_,z2,_,z3⟩ rfl rfl)
theorem c2w (ns:List Str) (dn:D) (e:Ev) (h:Hp) (hd:SlOf 1 (fun s=>[D.str s]) ns dn) (hl:ns.length≤1000) (h0:0≤e.a0) (h9:e.a0≤9) (hn:∀ n∈ns,b0v n) (hf:b0t e.fs):∃ pt:Pt,R a9n [dn,a9U,.agg (evr e)] h=some (.agg (a2o pt),h)∧pt.k=a3h ns e∧pt.tot=e.a6:=by
 suffices Wp (R a9n [dn,a9U,.agg (evr e)] h) (fun p=>p.2=h∧∃ pt:Pt,p.1 = .agg (a2o pt)∧pt.k=a3h ns e∧pt.tot=e.a6) by
  obtain ⟨⟨x,h'⟩,h1,rfl,pt,rfl,h2⟩:=this
  exact ⟨pt,h1,h2⟩
 have hL:∀ g,a0c tab g a0O (.fptr (evr e))=some (.agg (evr e)):=fun g=>id rfl
 rw [c1e]
 simp only [b8a,a1z,bs,c6O,hL]
 have a0:(a0H h a0k 4 [[.nils,.nils,.nils,.nils]])[h.length]?=some (.row a0k 4 [[.nils,.nils,.nils,.nils]]):=a1f _ _ _ _
 have k0:∀ q,q<h.length→(a0H h a0k 4 [[.nils,.nils,.nils,.nils]])[q]?=h[q]?:=fun q hq=>a1d _ _ _ _ hq
 have n0:(a0H h a0k 4 [[.nils,.nils,.nils,.nils]]).length=h.length+1:=by simp [-bind_some, a0H]
 generalize a0H h a0k 4 [[.nils,.nils,.nils,.nils]]=g0 at *
 obtain ⟨kd,ek,hk⟩:=c2z ns dn e g0 hd hl h0 h9 hn
 have hkl:(a3h ns e).length≤1000000:=by simp [-bind_some, a3h];omega
 simp only [ek,bs,a8Q kd (a0R hk)]
 have a1:(a0H g0 a0k 4 [[.nils,.nils,.nils,.nils]])[h.length+1]?=some (.row a0k 4 [[.nils,.nils,.nils,.nils]]):=by rw [← n0];exact a1f _ _ _ _
 have b1:(a0H g0 a0k 4 [[.nils,.nils,.nils,.nils]])[h.length]?=some (.row a0k 4 [[.nils,.nils,.nils,.nils]]):=by rw [a1d _ _ _ _ (by omega)];exact a0
 have k1:∀ q,q<h.length→(a0H g0 a0k 4 [[.nils,.nils,.nils,.nils]])[q]?=h[q]?:=fun q hq=>by rw [a1d _ _ _ _ (by omega)];exact k0 q hq
 have n1:(a0H g0 a0k 4 [[.nils,.nils,.nils,.nils]]).length=h.length+2:=by simp [-bind_some, a0H,n0]
 rw [n0]
 generalize a0H g0 a0k 4 [[.nils,.nils,.nils,.nils]]=g1 at *
 refine a8q (off:=0) (v := .agg [kd,.nils,.nils,.nils]) a1 (by rfl) (by rfl) (by show 0+4≤4;omega) (c2c (a0R hk) rfl rfl rfl) fun g2 p2 s2=>?_
 have p2:g2[h.length+1]?=some (.row a0k 4 [[kd,.nils,.nils,.nils]]):=p2
 have q2:g2[h.length]?=some (.row a0k 4 [[.nils,.nils,.nils,.nils]]):=by rw [s2.2 _ (by omega)];exact b1
 have k2:∀ q,q<h.length→g2[q]?=h[q]?:=fun q hq=>by rw [s2.2 q (by omega)];exact k1 q hq
 have n2:g2.length=h.length+2:=by rw [s2.1,n1]
 try simp only [bs,c6O]
 refine Wp.loop (fun k ds g=>(k=1∧nth 0 ds = .int .i64 0∧g=g2)∨(k=0∧nth 0 ds = .int .i64 1∧b8v h (a3h ns e) kd e.a6 g))
  (fun r=>r.1 = .ext 0∧b8v h (a3h ns e) kd e.a6 r.2.2) 1 (.inl ⟨rfl,rfl,rfl⟩) ?_ ?_
 ·rintro k ds g (⟨rfl,hds,rfl⟩ | ⟨rfl,hds,hfin⟩)
  ·have d0:decide ((0:Int)<1)=true:=by decide
   have q6:a0a tab a0O 6 (.fptr (evr e))=some (.fptr [.int .i64 e.a6,.str e.s7,.str e.s8,e.fd]):=id rfl
   have l6:∀ g,a0c tab g ty3 (.fptr [.int .i64 e.a6,.str e.s7,.str e.s8,e.fd])=some (.int .i64 e.a6):=fun g=>id rfl
   have lse:∀ g,a0c tab g ty9 (.fptr [.str []])=some (.str []):=fun g=>id rfl
   simp only [a5F,hds,bs,c6O,a4l,a0o,d0,a0e,if_true,b0C,b8A,b5H,hL,b8z,lse,c2A e g h0 h9 hf,a1a,c6R,c6S,b4C,b4D,a0Q,decide_true,q6,l6,a0v,a0g,a0d,a0f,a6W,a6X,a6Y,b4G,a8R,a8S .nils rfl,Nat.zero_add]
   refine c3K p2 (n0:=h.length+2) (by omega) (by omega) e.a6 true .nils rfl fun g' x1 x2 x3 r1 r2 r3 r4 r5 r6=>?_
   have w1:IntKind.wrap .i64 ((0:Int)+1)=1:=by decide
   simp only [bs,a0n,w1]
   exact .some (.inl ⟨rfl,0,by omega,.inr ⟨rfl,rfl,x1,x2,x3,by rw [r6 _ (by omega) (by omega)];exact q2,r1,r2,r3,r4,fun q hq=>by rw [r6 q (by omega) (by omega)];exact k2 q hq⟩⟩)
  ·have d0:decide ((1:Int)<1)=false:=by decide
   simp only [a5F,hds,bs,c6O,a4l,a0o,d0,a0e,c6P,if_false]
   exact .some (.inr ⟨by simp,rfl,hfin⟩)
 ·rintro ⟨ex,ds,g⟩ ⟨rfl,hfin⟩
  simp only [a0m,a0g,bs,c6O]
  exact b1m hk hkl hfin fun pt p1 p2=>⟨rfl,pt,rfl,p1,p2⟩
theorem c2e (p:Pt):a0a tab a0k 0 (.fptr (a2o p))=some (.fptr (a2o p)):=id rfl
theorem c3I (p:Pt):a0a tab a0k 1 (.fptr (a2o p))=some (.fptr [p.td,p.sd,p.vd]):=id rfl
theorem c6c (p:Pt):a0a tab a0k 2 (.fptr (a2o p))=some (.fptr [p.sd,p.vd]):=id rfl
theorem ptL (p:Pt) (h:Hp):a0c tab h a0k (.fptr (a2o p))=some (.agg (a2o p)):=id rfl
theorem c2f (p:Pt) (h:Hp):a0c tab h a0C (.fptr (a2o p))=some p.kd:=by
 have h1:=a0R p.hk
 show a0c tab h a0C (.fptr [p.kd,p.td,p.sd,p.vd])=_
 generalize p.kd=a at h1
 cases a <;> first | rfl | (simp [-bind_some, D.one] at h1)
theorem c3J (p:Pt) (h:Hp):a0c tab h a1c (.fptr [p.td,p.sd,p.vd])=some p.td:=by
 have h1:=a0R p.ht
 generalize p.td=a at h1
 cases a <;> first | rfl | (simp [-bind_some, D.one] at h1)
theorem c6d (p:Pt) (h:Hp):a0c tab h a0G (.fptr [p.sd,p.vd])=some p.sd:=by
 have h1:=a0R p.hs
 generalize p.sd=a at h1
 cases a <;> first | rfl | (simp [-bind_some, D.one] at h1)
theorem ptT (p:Pt):a0b tab a1c p.td (.int .i64 0)=some (.fptr [.int .i64 p.tot]):=by rw [b1Q p.ht];rfl
theorem ptS (p:Pt):a0b tab a0G p.sd (.int .i64 0)=some (.fptr [.bool true]):=by rw [b6v p.hs];rfl
theorem b8D (b:Bool) (h:Hp):a0c tab h ty4 (.fptr [.bool b])=some (.bool b):=id rfl
theorem c2y (a b:Pt) (h:Hp):∃ pt:Pt,R a9o [a9U,.agg (a2o a),.agg (a2o b)] h=some (.agg (a2o pt),h)∧pt.k=a.k∧pt.tot=IntKind.wrap .i64 (a.tot+b.tot):=by
 suffices Wp (R a9o [a9U,.agg (a2o a),.agg (a2o b)] h) (fun p=>p.2=h∧∃ pt:Pt,p.1 = .agg (a2o pt)∧pt.k=a.k∧pt.tot=IntKind.wrap .i64 (a.tot+b.tot)) by
  obtain ⟨⟨x,h'⟩,h1,rfl,pt,rfl,h2⟩:=this
  exact ⟨pt,h1,h2⟩
 rw [c1f]
 simp only [b8b,a1z,bs,c6O,c2e,c2f,a8Q a.kd (a0R a.hk)]
 have a0:(a0H h a0k 4 [[.nils,.nils,.nils,.nils]])[h.length]?=some (.row a0k 4 [[.nils,.nils,.nils,.nils]]):=a1f _ _ _ _
 have k0:∀ q,q<h.length→(a0H h a0k 4 [[.nils,.nils,.nils,.nils]])[q]?=h[q]?:=fun q hq=>a1d _ _ _ _ hq
 have n0:(a0H h a0k 4 [[.nils,.nils,.nils,.nils]]).length=h.length+1:=by simp [-bind_some, a0H]
 generalize a0H h a0k 4 [[.nils,.nils,.nils,.nils]]=g0 at *
 have a1:(a0H g0 a0k 4 [[.nils,.nils,.nils,.nils]])[h.length+1]?=some (.row a0k 4 [[.nils,.nils,.nils,.nils]]):=by rw [← n0];exact a1f _ _ _ _
 have b1:(a0H g0 a0k 4 [[.nils,.nils,.nils,.nils]])[h.length]?=some (.row a0k 4 [[.nils,.nils,.nils,.nils]]):=by rw [a1d _ _ _ _ (by omega)];exact a0
 have k1:∀ q,q<h.length→(a0H g0 a0k 4 [[.nils,.nils,.nils,.nils]])[q]?=h[q]?:=fun q hq=>by rw [a1d _ _ _ _ (by omega)];exact k0 q hq
 have n1:(a0H g0 a0k 4 [[.nils,.nils,.nils,.nils]]).length=h.length+2:=by simp [-bind_some, a0H,n0]
 rw [n0]
 generalize a0H g0 a0k 4 [[.nils,.nils,.nils,.nils]]=g1 at *
 refine a8q (off:=0) (v := .agg [a.kd,.nils,.nils,.nils]) a1 (by rfl) (by rfl) (by show 0+4≤4;omega) (c2c (a0R a.hk) rfl rfl rfl) fun g2 p2 s2=>?_
 have p2:g2[h.length+1]?=some (.row a0k 4 [[a.kd,.nils,.nils,.nils]]):=p2
 have q2:g2[h.length]?=some (.row a0k 4 [[.nils,.nils,.nils,.nils]]):=by rw [s2.2 _ (by omega)];exact b1
 have k2:∀ q,q<h.length→g2[q]?=h[q]?:=fun q hq=>by rw [s2.2 q (by omega)];exact k1 q hq
 have n2:g2.length=h.length+2:=by rw [s2.1,n1]
 try simp only [bs,c6O]
 refine Wp.loop (fun k ds g=>(k=1∧nth 0 ds = .int .i64 0∧g=g2)∨(k=0∧nth 0 ds = .int .i64 1∧b8v h a.k a.kd (IntKind.wrap .i64 (a.tot+b.tot)) g))
  (fun r=>r.1 = .ext 0∧b8v h a.k a.kd (IntKind.wrap .i64 (a.tot+b.tot)) r.2.2) 1 (.inl ⟨rfl,rfl,rfl⟩) ?_ ?_
 ·rintro k ds g (⟨rfl,hds,rfl⟩ | ⟨rfl,hds,hfin⟩)
  ·have d0:decide ((0:Int)<1)=true:=by decide
   simp only [a5M,hds,bs,c6O,a4l,a0o,d0,a0e,if_true,c3I,c3J,ptT,a9A,c6c,c6d,ptS,b8D,a0S,c6Q,reduceCtorEq,if_false,a0A,b0C,b4C,b4D,a0Q,decide_true,a0g,a0d,a0f,a0n,a0v,a6W,a6X,a6Y,b4G,a8R,a8S .nils rfl,Nat.zero_add]
   refine c3K p2 (n0:=h.length+2) (by omega) (by omega) _ true .nils rfl fun g' x1 x2 x3 r1 r2 r3 r4 r5 r6=>?_
   have w1:IntKind.wrap .i64 ((0:Int)+1)=1:=by decide
   simp only [bs,a0n,w1]
   exact .some (.inl ⟨rfl,0,by omega,.inr ⟨rfl,rfl,x1,x2,x3,by rw [r6 _ (by omega) (by omega)];exact q2,r1,r2,r3,r4,fun q hq=>by rw [r6 q (by omega) (by omega)];exact k2 q hq⟩⟩)
  ·have d0:decide ((1:Int)<1)=false:=by decide
   simp only [a5M,hds,bs,c6O,a4l,a0o,d0,a0e,c6P,if_false]
   exact .some (.inr ⟨by simp,rfl,hfin⟩)
 ·rintro ⟨ex,ds,g⟩ ⟨rfl,hfin⟩
  simp only [a0m,a0g,bs,c6O]
  exact b1m a.hk a.hkl hfin fun pt p1 p2=>⟨rfl,pt,rfl,p1,p2⟩
theorem b0B {α:Type} {f:α→List D} {l:List α} {h':Hp} {n0 e z:Nat} {x':D} (ow:Own h' n0 e z (l.map f) x') (hf:∀ a∈l,∀ (n0:Nat) (h:Hp),∀ d∈f a,frz n0 h 2 d=d):SlOf z f l (b2T (x',h')).1∧h'.length≤(b2T (x',h')).2.length∧∀ q,q<n0→(b2T (x',h')).2[q]?=h'[q]?:=by
 rcases ow with ⟨rfl,hn⟩ | ⟨o,ho,rfl,hg⟩
 ·exact ⟨.inl ⟨rfl,by simpa using hn⟩,Nat.le_refl _,fun _ _=>rfl⟩
 ·have e:b2T (.msl z o 0 (l.map f).length,h')=(frz o h' 3 (.msl z o 0 (l.map f).length),a2m o h'):=rfl
  rw [e]
  have ow2:Own h' o _ z (l.map f) (.msl z o 0 (l.map f).length) := .inr ⟨o,Nat.le_refl _,rfl,hg⟩
  have hlt:=(c7e.1 hg).1
  refine ⟨a1W ow2 (Nat.le_refl _) fun a ha d hd=>hf a ha _ _ d hd,by simp [-bind_some, a2m];omega,fun q hq=>?_⟩
  unfold a2m
  rw [c7n (by simp;omega),List.getElem?_take,if_pos (by omega)]
def pc (p:Pt):List Str × Int:=(p.k,p.tot)
def mgP:List (List Str × Int)→List Str × Int→List (List Str × Int)
 | [],x=>[x]
 | y::r,x=>if a0Z y.1 x.1<0 then y::mgP r x else if a0Z y.1 x.1>0 then x::y::r else (y.1,IntKind.wrap .i64 (y.2+x.2))::r
theorem a8i:∀ (l:List (List Str × Int)) (x:List Str × Int),(mgP l x).length≤l.length+1
 | [],x=>by simp [-bind_some, mgP]
 | y::r,x=>by
  have:=a8i r x
  unfold mgP
  split
  ·simp [-bind_some];exact this
  ·split <;> simp [-bind_some]
theorem b6M (n0:Nat) (h:Hp) (n:Nat) (p:Pt):∀ d∈a2o p,frz n0 h (n+1) d=d:=fun d hd=>by
 simp only [a2o,c7j,List.not_mem_nil,or_false] at hd
 rcases hd with rfl | rfl | rfl | rfl
 ·exact a3T _ _ _ p.hk
 ·exact b1J _ _ _ p.ht
 ·exact a2l p.hs fun a _ x hx=>by simp at hx;subst hx;exact a9x _ _ _ _
 ·exact a2l p.hv fun a ha x hx=>by simp at ha hx;subst hx;subst ha;exact a9y _ _ _
theorem b6N (n:Nat) (p:Pt):∀ d∈a2o p,Ok n d:=fun d hd=>by
 simp only [a2o,c7j,List.not_mem_nil,or_false] at hd
 rcases hd with rfl | rfl | rfl | rfl
 ·exact a4b _ p.hk
 ·exact b1K _ p.ht
 ·exact a1j p.hs fun a _ x hx=>by simp at hx;subst hx;exact .bool _
 ·exact a1j p.hv fun a ha x hx=>by simp at ha hx;subst hx;subst ha;exact .nils
theorem a5v (p:Pt):a0y tab a0P 1 [0] [.agg (a2o p)]=some (.sl 4 true [a2o p]):=b3k _ _ _ _
theorem c2v (A:List Pt) (x:Pt) (da dx:D) (h:Hp) (hA:SlOf 4 a2o A da) (hx:SlOf 4 a2o [x] dx) (hl:A.length≤100000):∃ (P:List Pt) (d':D),R a9m [a9U,da,dx] h=some (d',h)∧SlOf 4 a2o P d'∧P.map pc=mgP (A.map pc) (pc x):=by
 suffices Wp (R a9m [a9U,da,dx] h) (fun p=>p.2=h∧∃ P:List Pt,SlOf 4 a2o P p.1∧P.map pc=mgP (A.map pc) (pc x)) by
  obtain ⟨⟨y,h'⟩,h1,rfl,P,h2,h3⟩:=this
  exact ⟨P,y,h1,h2,h3⟩
 rw [c1d]
 simp only [b7Z,bs,c6O]
 obtain ⟨V,hV⟩:∃ V,V=mgP (A.map pc) (pc x):=⟨_,rfl⟩
 rw [← hV]
 have hVl:V.length≤A.length+1:=by rw [hV];have:=a8i (A.map pc) (pc x);simpa using this
 refine Wp.loop (fun n ds g=>∃ d0 c3 c4 c5 c6 c7 c8,∃ (i k:Nat) (O:List Pt),ds=[d0,.int .i64 (i:Int),.int .i64 (k:Int),c3,c4,c5,c6,c7,c8]∧n+i+k=A.length+1∧i≤A.length∧Own g h.length a0k 4 (O.map a2o) d0∧h.length≤g.length∧(∀ q,q<h.length→g[q]?=h[q]?)∧O.length≤i+k ∧
   ((k=0∧V=O.map pc++mgP ((A.drop i).map pc) (pc x))∨(k=1∧V=O.map pc++(A.drop i).map pc)))
  (fun r=>r.1 = .ext 0∧∃ d0,nth 0 r.2.1=d0∧∃ O:List Pt,Own r.2.2 h.length a0k 4 (O.map a2o) d0∧h.length≤r.2.2.length∧(∀ q,q<h.length→r.2.2[q]?=h[q]?)∧V=O.map pc) (A.length+1)
  ⟨_,_,_,_,_,_,_,0,0,[],rfl,by omega,by omega,Own.nils _ _ _ _,Nat.le_refl _,fun _ _=>rfl,by simp,.inl ⟨rfl,by simpa using hV⟩⟩ ?_ ?_
 ·rintro n ds g ⟨d0,c3,c4,c5,c6,c7,c8,i,k,O,rfl,hn,hi,ow,hlen,hq,hO,hst⟩
  have hxlen:([x]:List Pt).length=1:=rfl
  have add1:∀ m:Nat,m≤200000→IntKind.wrap .i64 ((m:Int)+1)=((m+1:Nat):Int):=fun m hm=>by rw [wrap_i64 (by omega) (by omega)];omega
  have app:∀ (y:Pt) (g1:Hp) (_:g1=g) (f:D × Hp→Option Out) (Q:Out→Prop),(∀ x9 g2,Own g2 h.length a0k 4 ((O++[y]).map a2o) x9→h.length≤g2.length→(∀ q,q<h.length→g2[q]?=h[q]?)→Wp (f (x9,g2)) Q)→Wp ((a0p tab g1 a0P a0P d0 (.sl 4 true [a2o y])).bind f) Q:=fun y g1 hg1 f Q K=>by
   subst hg1
   refine b7l (n0:=h.length) hlen ow (a1e _ _ _ _) (by simp only [c6U,c7f,c7g];omega) fun x9 g2 o2 l2 b2 _ _=>?_
   exact K x9 g2 (by rw [c6V];exact o2) (by omega) fun q hq'=>by rw [b2 q hq'];exact hq q hq'
  have xix:a0b tab a0P dx (.int .i64 ((0:Nat):Int))=some (.fptr (a2o x)):=by rw [a6i hx];rfl
  simp only [a8y,a0d,a0f,bs,c6O,a1Y hA,a1Y hx,a0o,hxlen]
  rcases hst with ⟨rfl,hst⟩ | ⟨rfl,hst⟩
  ·by_cases hia:i<A.length
   ·have d1:decide ((i:Int)<(A.length:Int))=true:=decide_eq_true (by omega)
    have d3:decide (((0:Nat):Int)=((1:Nat):Int))=false:=by decide
    have d4:decide ((i:Int)=(A.length:Int))=false:=decide_eq_false (by omega)
    obtain ⟨u,hu⟩:=gx_ hia
    have uix:a0b tab a0P da (.int .i64 (i:Int))=some (.fptr (a2o u)):=by rw [a6i hA];simp [-bind_some, hu]
    rw [a1o hu,c6W] at hst
    unfold mgP at hst
    simp only [d1,a0S,c6Q,reduceCtorEq,if_false,bs,a0A,if_true,a0e,a1Y hx,hxlen,a0Q,d3,c6P,a1Y hA,d4,uix,c2e,c2f,xix,c2s u.k x.k u.kd x.kd g u.hk x.hk u.hkl x.hkl,a0v,a0g,a0d,a0f,a0o,a1l]
    by_cases c1:a0Z u.k x.k<0
    ·rw [if_pos (show a0Z (pc u).1 (pc x).1<0 from c1)] at hst
     simp only [c1,decide_true,if_true,uix,ptL,a5v,bs]
     try simp only [c6O]
     refine app u g rfl _ _ fun x9 g2 o2 l2 b2=>?_
     simp only [bs,a0n,add1 i (by omega),a0v,a0d,a0f]
     exact .some (.inl ⟨rfl,n - 1,by omega,_,_,_,_,_,_,_,i+1,0,O++[u],rfl,by omega,by omega,o2,l2,b2,by simp;omega,.inl ⟨rfl,by rw [hst];simp [-bind_some]⟩⟩)
    ·rw [if_neg (show ¬ a0Z (pc u).1 (pc x).1<0 from c1)] at hst
     by_cases c2:a0Z u.k x.k>0
     ·rw [if_pos (show a0Z (pc u).1 (pc x).1>0 from c2)] at hst
      simp only [c1,c2,decide_true,decide_false,c6P,if_false,if_true,xix,ptL,a5v,bs]
      try simp only [c6O]
      refine app x g rfl _ _ fun x9 g2 o2 l2 b2=>?_
      simp only [bs,a0n,add1 0 (by omega),a0v,a0d,a0f]
      exact .some (.inl ⟨rfl,n - 1,by omega,_,_,_,_,_,_,_,i,1,O++[x],rfl,by omega,by omega,o2,l2,b2,by simp;omega,.inr ⟨rfl,by rw [hst,a1o hu];simp [-bind_some]⟩⟩)
     ·rw [if_neg (show ¬ a0Z (pc u).1 (pc x).1>0 from c2)] at hst
      obtain ⟨pt,e1,p1,p2⟩:=c2y u x g
      simp only [c1,c2,decide_false,c6P,if_false,uix,xix,ptL,e1,a5v,bs]
      try simp only [c6O]
      refine app pt g rfl _ _ fun x9 g2 o2 l2 b2=>?_
      simp only [bs,a0n,add1 0 (by omega),add1 i (by omega),a0v,a0d,a0f]
      exact .some (.inl ⟨rfl,n - 2,by omega,_,_,_,_,_,_,_,i+1,1,O++[pt],rfl,by omega,by omega,o2,l2,b2,by simp;omega,.inr ⟨rfl,by rw [hst];simp [-bind_some, pc,p1,p2]⟩⟩)
   ·have hia:i=A.length:=by omega
    subst hia
    have d1:decide ((A.length:Int)<(A.length:Int))=false:=decide_eq_false (by omega)
    have d2:decide (((0:Nat):Int)<((1:Nat):Int))=true:=by decide
    have d3:decide (((0:Nat):Int)=((1:Nat):Int))=false:=by decide
    have d4:decide ((A.length:Int)=(A.length:Int))=true:=decide_eq_true rfl
    have d5:decide ((1:Int)<0)=false:=by decide
    have d6:decide ((1:Int)>0)=true:=by decide
    rw [List.drop_length] at hst
    have hst:V=O.map pc++[pc x]:=hst
    simp only [d1,a0S,if_true,bs,a1Y hx,hxlen,a0o,d2,a0A,c6P,if_false,a0e,a0Q,d3,a1Y hA,d4,decide_true,a0v,a0g,a0d,a0f,d5,a1l,d6,xix,ptL,a5v]
    try simp only [c6O]
    refine app x g rfl _ _ fun x9 g2 o2 l2 b2=>?_
    simp only [bs,a0n,add1 0 (by omega),a0v,a0d,a0f]
    exact .some (.inl ⟨rfl,n - 1,by omega,_,_,_,_,_,_,_,A.length,1,O++[x],rfl,by omega,by omega,o2,l2,b2,by simp;omega,.inr ⟨rfl,by rw [hst];simp [-bind_some]⟩⟩)
  ·by_cases hia:i<A.length
   ·have d1:decide ((i:Int)<(A.length:Int))=true:=decide_eq_true (by omega)
    have d3:decide (((1:Nat):Int)=((1:Nat):Int))=true:=by decide
    have d5:decide ((-1:Int)<0)=true:=by decide
    obtain ⟨u,hu⟩:=gx_ hia
    have uix:a0b tab a0P da (.int .i64 (i:Int))=some (.fptr (a2o u)):=by rw [a6i hA];simp [-bind_some, hu]
    rw [a1o hu,c6W] at hst
    simp only [d1,a0S,c6Q,reduceCtorEq,if_false,bs,a0A,if_true,a0e,a1Y hx,hxlen,a0Q,d3,decide_true,a0v,a0g,a0d,a0f,a0o,d5,uix,ptL,a5v]
    try simp only [c6O]
    refine app u g rfl _ _ fun x9 g2 o2 l2 b2=>?_
    simp only [bs,a0n,add1 i (by omega),a0v,a0d,a0f]
    exact .some (.inl ⟨rfl,n - 1,by omega,_,_,_,_,_,_,_,i+1,1,O++[u],rfl,by omega,by omega,o2,l2,b2,by simp;omega,.inr ⟨rfl,by rw [hst];simp [-bind_some]⟩⟩)
   ·have hia:i=A.length:=by omega
    subst hia
    have d1:decide ((A.length:Int)<(A.length:Int))=false:=decide_eq_false (by omega)
    have d2:decide (((1:Nat):Int)<((1:Nat):Int))=false:=by decide
    rw [List.drop_length] at hst
    simp only [d1,a0S,if_true,bs,a1Y hx,hxlen,a0o,d2,a0A,c6P,if_false,a0e]
    exact .some (.inr ⟨by simp,rfl,_,rfl,O,ow,hlen,hq,by simpa using hst⟩)
 ·rintro ⟨ex,ds,g⟩ ⟨rfl,d0,hd0,O,ow,hlen,hq,hst⟩
  replace hd0:nth 0 ds=d0:=hd0
  simp only [a0m,a0g,bs,a0d,hd0,a0q]
  have hs:=a1W (n0:=h.length) (n:=3) ow (Nat.le_refl _) fun p _=>b6M _ _ _ p
  have hsc:scope h g d0=some (frz h.length g 4 d0,h):=a1u rfl (a1j hs fun p _=>b6N _ p) hlen hq
  rw [hsc]
  exact .some ⟨rfl,O,hs,hst.symm⟩
def b0R (ns:List Str):List Ev→List (List Str × Int)
 | l=>l.foldl (fun c e=>mgP c (a3h ns e,e.a6)) []
structure CtOK (ns:List Str) (dn:D):Prop where
 hd:SlOf 1 (fun s=>[D.str s]) ns dn
 hl:ns.length≤1000
 hn:∀ n∈ns,b0v n
theorem c2t {ns:List Str} {dn:D} (C:CtOK ns dn) (A:List Pt) (da:D) (e:Ev) (h:Hp) (hA:SlOf 4 a2o A da) (hl:A.length≤100000) (h0:0≤e.a0) (h9:e.a0≤9) (hf:b0t e.fs):∃ (P:List Pt) (d':D),R b1s [da,dn,a9U,.agg (evr e)] h=some (d',h)∧SlOf 4 a2o P d'∧P.map pc=mgP (A.map pc) (a3h ns e,e.a6):=by
 have hL:∀ g,a0c tab g a0O (.fptr (evr e))=some (.agg (evr e)):=fun g=>id rfl
 obtain ⟨pt,e1,p1,p2⟩:=c2w ns dn e h C.hd C.hl h0 h9 C.hn hf
 obtain ⟨P,d',e2,h2,h3⟩:=c2v A pt da (.sl 4 true [a2o pt]) h hA (.inr ⟨true,rfl⟩) hl
 refine ⟨P,d',?_,h2,by rw [h3];simp [-bind_some, pc,p1,p2]⟩
 rw [c1b]
 simp only [b7X,a1z,bs,hL,e1,a5v,e2,a0q]
theorem c2o {ns:List Str} {dn:D} (C:CtOK ns dn) (l:List Ev) (dl:D) (h:Hp) (hd:SlOf 10 evr l dl) (hl:l.length≤1000) (he:∀ e∈l,0≤e.a0∧e.a0≤9∧b0t e.fs):∃ (P:List Pt) (d':D),R a9i [dn,a9U,dl] h=some (d',h)∧SlOf 4 a2o P d'∧P.map pc=b0R ns l∧P.length≤l.length:=by
 suffices Wp (R a9i [dn,a9U,dl] h) (fun p=>p.2=h∧∃ P:List Pt,SlOf 4 a2o P p.1∧P.map pc=b0R ns l∧P.length≤l.length) by
  obtain ⟨⟨y,h'⟩,h1,rfl,P,h2,h3⟩:=this
  exact ⟨P,y,h1,h2,h3⟩
 rw [c0T]
 simp only [b7Q,bs,c6O]
 refine Wp.loop (fun n ds g=>g=h∧∃ d0 c,∃ (i:Nat) (P:List Pt),ds=[d0,.int .i64 (i:Int),c]∧n+i=l.length∧SlOf 4 a2o P d0∧P.map pc=b0R ns (l.take i)∧P.length≤i)
  (fun r=>r.1 = .ext 0∧r.2.2=h∧∃ P:List Pt,SlOf 4 a2o P (nth 0 r.2.1)∧P.map pc=b0R ns l∧P.length≤l.length) l.length ⟨rfl,_,_,0,[],rfl,rfl,.nils _ _,by simp [-bind_some, b0R],by simp⟩ ?_ ?_
 ·rintro n ds g ⟨rfl,d0,c,i,P,rfl,hn,hP,hc,hPl⟩
  simp only [a8t,a0d,a0f,bs,c6O,a9D hd,a0o]
  refine Wp.dif ?_ ?_
  ·intro h0
   have h0:i<l.length:=dl_ h0
   obtain ⟨u,hu⟩:=gx_ h0
   obtain ⟨a1,a2,a3⟩:=he u (c7c hu)
   have hw:=wi_ i (by omega)
   have hix:a0b tab a3U dl (.int .i64 (i:Int))=some (.fptr (evr u)):=by rw [b1P hd];simp [-bind_some, hu]
   have hL:a0c tab g a0O (.fptr (evr u))=some (.agg (evr u)):=id rfl
   obtain ⟨P2,d2,e2,h2,h3⟩:=c2t C P d0 u g hP (by omega) a1 a2 a3
   have hlen2:P2.length≤i+1:=by
    have h4:=a8i (P.map pc) (a3h ns u,u.a6)
    rw [← h3] at h4
    simp at h4;omega
   simp only [hix,hL,e2,bs,a0n,hw]
   refine .some (.inl ⟨rfl,n - 1,by omega,rfl,_,_,i+1,P2,rfl,by omega,h2,?_,hlen2⟩)
   rw [h3,hc,c7a,hu]
   simp [-bind_some, b0R]
  ·intro h0
   have h0:l.length≤i:=by
    have:¬ (i:Int)<l.length:=by simpa using h0
    omega
   rw [List.take_of_length_le h0] at hc
   exact .some (.inr ⟨by simp,rfl,rfl,P,hP,hc,by omega⟩)
 ·rintro ⟨ex,ds,g⟩ ⟨rfl,h2,P,hP,hc,hPl⟩
  simp only at h2
  subst h2
  simp only [a0m,a0g,bs,a0d,a0q]
  exact .some ⟨rfl,P,hP,hc,hPl⟩
def b5m (c:List Str × Int):List Str × List Int × Int:=(c.1,[c.2],0)
theorem c2n (P:List Pt) (da dp:D) (h:Hp) (hP:SlOf 4 a2o P dp) (hl:P.length≤1000):∃ (L:List Rw) (d':D),R a9h [da,dp] h=some (d',h)∧SlOf 3 a0w L d'∧L.map a7z=(P.map pc).map b5m:=by
 suffices Wp (R a9h [da,dp] h) (fun p=>p.2=h∧∃ L:List Rw,SlOf 3 a0w L p.1∧L.map a7z=(P.map pc).map b5m) by
  obtain ⟨⟨y,h'⟩,h1,rfl,L,h2,h3⟩:=this
  exact ⟨L,y,h1,h2,h3⟩
 rw [c0S]
 simp only [b7P,bs,c6O]
 refine Wp.loop (fun n ds g=>∃ d0 c,∃ (i:Nat) (L:List Rw),ds=[d0,.int .i64 (i:Int),c]∧n+i=P.length∧Own g h.length a0h 3 (L.map a0w) d0∧h.length≤g.length∧(∀ q,q<h.length→g[q]?=h[q]?)∧L.map a7z=((P.take i).map pc).map b5m)
  (fun r=>r.1 = .ext 0∧∃ d0,nth 0 r.2.1=d0∧∃ L:List Rw,Own r.2.2 h.length a0h 3 (L.map a0w) d0∧h.length≤r.2.2.length∧(∀ q,q<h.length→r.2.2[q]?=h[q]?)∧L.map a7z=(P.map pc).map b5m) P.length ⟨_,_,0,[],rfl,rfl,Own.nils _ _ _ _,Nat.le_refl _,fun _ _=>rfl,by simp⟩ ?_ ?_
 ·rintro n ds g ⟨d0,c,i,L,rfl,hn,ow,hlen,hq,hL⟩
  simp only [a8s,a0d,a0f,bs,c6O,a1Y hP,a0o]
  refine Wp.dif ?_ ?_
  ·intro h0
   have h0:i<P.length:=dl_ h0
   obtain ⟨u,hu⟩:=gx_ h0
   have hw:=wi_ i (by omega)
   have uix:a0b tab a0P dp (.int .i64 (i:Int))=some (.fptr (a2o u)):=by rw [a6i hP];simp [-bind_some, hu]
   have hukl:=u.hkl
   simp only [uix,c2e,c2f,bs]
   refine b7p (n0:=g.length) (rows:=[]) (Nat.le_refl _) (.nils _ _ _ _) (a2f _ u.hk) (by simp only [c6U,c7g];omega) fun x1 g1 o1 l1 b1 _ _=>?_
   rw [List.nil_append] at o1
   obtain ⟨s1,m1,c1⟩:=b0B (f:=fun s=>[D.str s]) o1 fun a _ n0 h d hd=>by simp at hd;subst hd;exact a3M _ _ _ _
   generalize b2T (x1,g1)=p1 at s1 m1 c1 ⊢
   obtain ⟨x1,g1'⟩:=p1
   simp only at s1 m1 c1 ⊢
   have k1:∀ q,q<g.length→g1'[q]?=g[q]?:=fun q hq'=>by rw [c1 q hq',b1 q hq']
   try simp only [c3I,c3J,bs]
   refine b9R (n0:=g1'.length) (rows:=[]) (Nat.le_refl _) (.nils _ _ _ _) (a2f _ u.ht) (by simp) fun x2 g2 o2 l2 b2 _ _=>?_
   rw [List.nil_append] at o2
   obtain ⟨s2,m2,c2⟩:=b0B (f:=inr) o2 fun a _ n0 h d hd=>by simp [-bind_some, inr] at hd;subst hd;exact a3L _ _ _ _ _
   generalize b2T (x2,g2)=p2 at s2 m2 c2 ⊢
   obtain ⟨x2,g2'⟩:=p2
   simp only at s2 m2 c2 ⊢
   have k2:∀ q,q<g.length→g2'[q]?=g[q]?:=fun q hq'=>by rw [c2 q (by omega),b2 q (by omega),k1 q hq']
   have hb:a0T tab a0h [0,1] [x1,x2]=some (.agg [x1,x2,.int .i64 0]):=a9V x1 x2 (a0R s1) (a0R s2)
   have hlit:a0y tab a0u 1 [0] [.agg [x1,x2,.int .i64 0]]=some (.sl 3 true [[x1,x2,.int .i64 0]]):=b3h _ _ _
   have ow2:Own g2' h.length a0h 3 (L.map a0w) d0:=ow.keep fun q hq' hx=>k2 q (ow.lt hx).2
   have hLl:L.length≤i:=by
    have h4:=congrArg List.length hL
    simp at h4;omega
   try simp only [hb,hlit,bs,c6O]
   refine b7k (n0:=h.length) (by omega) ow2 (a1e _ _ _ _) (by simp only [c6U,c7f,c7g];omega) fun x3 g3 o3 l3 b3 _ _=>?_
   have hr:L.map a0w++[[x1,x2,.int .i64 0]]=(L++[(⟨u.k,x1,s1,u.hkl,[u.tot],x2,s2,by simp,0⟩:Rw)]).map a0w:=by simp [-bind_some, a0w]
   rw [hr] at o3
   simp only [a1r,bs,a0n,hw]
   refine .some (.inl ⟨rfl,n - 1,by omega,_,_,i+1,_,rfl,by omega,o3,by show h.length≤g3.length;omega,fun q hq'=>by rw [b3 q hq',k2 q (by omega)];exact hq q hq',?_⟩)
   rw [c6V,hL,c7a,hu]
   simp [-bind_some, a7z,b5m,pc]
  ·intro h0
   have h0:P.length≤i:=by
    have:¬ (i:Int)<P.length:=by simpa using h0
    omega
   rw [List.take_of_length_le h0] at hL
   exact .some (.inr ⟨by simp,rfl,_,rfl,L,ow,hlen,hq,hL⟩)
 ·rintro ⟨ex,ds,g⟩ ⟨rfl,d0,hd0,L,ow,hlen,hq,hL⟩
  replace hd0:nth 0 ds=d0:=hd0
  simp only [a0m,a0g,bs,a0d,hd0,a0q]
  have hs:=a1W (n0:=h.length) (n:=3) ow (Nat.le_refl _) fun p _=>a9N _ _ _ p
  have hsc:scope h g d0=some (frz h.length g 4 d0,h):=a1u rfl (a1j hs fun p _=>b2y _ p) hlen hq
  rw [hsc]
  exact .some ⟨rfl,L,hs,hL⟩
theorem c2l {ns:List Str} {dn:D} (C:CtOK ns dn) (l:List Ev) (dl:D) (h:Hp) (hd:SlOf 10 evr l dl) (hl:l.length≤1000) (he:∀ e∈l,0≤e.a0∧e.a0≤9∧b0t e.fs):∃ (L:List Rw) (d':D),R a7c [dn,dl] h=some (d',h)∧SlOf 3 a0w L d'∧L.map a7z=(b0R ns l).map b5m∧L.length≤l.length:=by
 obtain ⟨P,dp,e1,h1,h2,h3⟩:=c2o C l dl h hd hl he
 obtain ⟨L,d',e2,h4,h5⟩:=c2n P a9U dp h h1 (by omega)
 refine ⟨L,d',?_,h4,by rw [h5,h2],?_⟩
 ·have hag:(D.sl 2 true [[.int .i64 0,.str []]])=a9U:=rfl
  rw [c0P]
  simp only [b7N,bs,b5M,b3j,hag,e1,e2,a0q]
 ·have h6:=congrArg List.length h5
  simp at h6;omega
theorem b5I {T:Tab} {t e:Nat} {i j:TI} (ht:T t=Option.some i) (hi:i.td = .sl e) (he:T e=Option.some j) (hz:0<j.sz) {h:Hp} {rows ys:List (List D)} {y:D} (hy:a0I h j.sz y=Option.some ys) (hl:lim (rows.length+ys.length) j.by_=true) (hne:ys≠[]) :
  ∃ x' h',a0p T h t t (.sl j.sz true rows) y=Option.some (x',h')∧h.length≤h'.length∧(∀ q,q<h.length→h'[q]?=h[q]?)∧Own h' h.length e j.sz (rows++ys) x':=by
 have hz':Nat.blt 0 j.sz=true:=Nat.ble_eq_true_of_le hz
 have hs:a6R h i j y=Option.some ys:=by simp [-bind_some, a6R,hi,hy]
 unfold a0p
 simp only [ht,hi,he,hz',hs]
 cases ys with
 | nil=>exact absurd rfl hne
 | cons y1 yr =>
  simp only [hl,and_self,if_true,true_and]
  exact ⟨_,_,rfl,by simp [-bind_some, a0H],fun q hq=>by simp only [a0H];rw [c7n hq],.inr ⟨h.length,Nat.le_refl _,by simp,by simp [-bind_some, a0H]⟩⟩
theorem c0H {h:Hp} {o:Nat} (hc:CD h o):∃ s h',R b1r [.ptr o 0 0] h=some (.str s,h')∧CD h' o∧Same o h h'∧s∈lt98_46:=by
 obtain ⟨v,h',h1,h2,h3,h4,h5⟩:=a1p hc 4 (by omega) (by omega)
 obtain ⟨s,hs,hg⟩:=a2A lt98_46 v h4 h5
 refine ⟨s,h',?_,h2,h3,hs⟩
 rw [c1a];simp [-bind_some, b7W,h1,h4,hg]
theorem c0G {h:Hp} {o:Nat} (hc:CD h o):∃ ns dn h',R a9g [.ptr o 0 0] h=some (dn,h')∧CD h' o∧Same o h h'∧CtOK ns dn:=by
 suffices Wp (R a9g [.ptr o 0 0] h) (fun p=>CD p.2 o∧Same o h p.2∧∃ ns,CtOK ns p.1) by
  obtain ⟨⟨x,h'⟩,h1,h2,h3,ns,h4⟩:=this
  exact ⟨ns,x,h',h1,h2,h3,h4⟩
 have ok45:∀ s∈lt98_45,b0v s:=by unfold b0v;decide
 have ok46:∀ s∈lt98_46,b0v s:=by unfold b0v;decide
 rw [c0R]
 simp only [b7O,bs,c6O,b0i]
 obtain ⟨v,h1,e1,c1,s1,v0,v1⟩:=a1p hc 5 (by omega) (by omega)
 obtain ⟨s,hs,hg⟩:=a2A lt98_45 v v0 v1
 have S1:St h o h1:=(St.refl hc).next c1 s1
 refine Wp.step e1 ?_
 simp only [bs,c6O]
 have hix:a0b tab a0C (.sl 1 true (lt98_45.map fun s=>[D.str s])) (.int .i64 v)=some (.fptr [.str s]):=by
  have:=a6k (SlOf.mk 1 (fun s=>[D.str s]) lt98_45 true) v
  rw [this,if_pos v0,hg];rfl
 simp only [hix,a4R,a8T,bs,c6O]
 obtain ⟨w,h2,e2,c2,s2,w0,w1⟩:=a1p S1.cd 2 (by omega) (by omega)
 have S2:=S1.next c2 s2
 refine Wp.step e2 ?_
 simp only [a0Q,bs]
 refine Wp.join (P:=fun r=>∃ x g,∃ ns:List Str,r=(.nrm,[x],g)∧St h o g∧(SlOf 1 (fun s=>[D.str s]) ns x∨Own g h.length ty9 1 (ns.map fun s=>[D.str s]) x)∧ns.length≤2∧∀ n∈ns,b0v n) ?_ ?_ ?_
 ·intro _
  obtain ⟨u,h3,e3,c3,s3,hu⟩:=c0H S2.cd
  have S3:=S2.next c3 s3
  refine Wp.step e3 ?_
  simp only [a8T,bs,c6O]
  obtain ⟨x',g,e4,l4,q4,o4⟩:=b5I (T:=tab) (t:=a0C) (i:=b7g) (j:=ti9) (id rfl) (id rfl) (id rfl) (by decide) (h:=h3) (rows:=[[.str s]]) (y := .sl 1 true [[.str u]]) (ys:=[[.str u]]) (a1e _ _ _ _) (by rfl) (by simp)
  have e4:a0p tab h3 a0C a0C (.sl 1 true [[.str s]]) (.sl 1 true [[.str u]])=some (x',g):=e4
  simp only [e4,bs]
  refine .some ⟨x',g,[s,u],rfl,S3.app l4 fun q hq=>q4 q (by have:=S3.le;omega),.inr (o4.from S3.le),by simp,fun n hn=>?_⟩
  simp at hn
  rcases hn with rfl | rfl
  ·exact ok45 _ hs
  ·exact ok46 _ hu
 ·intro _
  exact .some ⟨_,_,[s],rfl,S2,.inl (.inr ⟨true,rfl⟩),by simp,fun n hn=>by simp at hn;subst hn;exact ok45 _ hs⟩
 ·rintro r ⟨x,g,ns,rfl,S,hx,hl,hn⟩
  simp only [a0g,bs,a0d,a0q]
  have hs4:SlOf 1 (fun s=>[D.str s]) ns (frz h.length g 4 x):=by
   rcases hx with hx | hx
   ·rw [a3T _ _ 3 hx];exact hx
   ·exact a1W hx (Nat.le_refl _) fun a _ y hy=>by simp at hy;subst hy;exact a3M _ _ _ _
  obtain ⟨h',e,cd,sm⟩:=S.scope (d:=x) rfl (a4b _ hs4)
  rw [e]
  exact .some ⟨cd,sm,ns,hs4,by omega,hn⟩
theorem c2k (zs:List Int) (d:D) (h:Hp) (hd:a3q .u8 zs d) (hz:∀ z∈zs,0≤z∧z<256):∃ (ns:List Str) (l:List Ev) (dn dl:D) (sz:Int) (o:Nat) (h':Hp),R a7b [d] h=some (.tup [dn,dl,.int .i64 sz,.ptr o 0 0],h')∧CD h' o∧CtOK ns dn∧SlOf 10 evr l dl∧a2E l∧l.length≤600∧1≤sz∧sz≤5:=by
 obtain ⟨h0,e0,c0,l0⟩:=d44 zs d 500 h hd (by omega) (by omega) hz
 obtain ⟨ns,dn,h1,e1,c1,s1,C⟩:=c0G c0
 obtain ⟨dl,h2,e2,c2,s2,l,hl,hok,hll⟩:=d48 c1 7 (by omega) (by omega)
 obtain ⟨v,h3,e3,c3,s3,v0,v1⟩:=a1p c2 5 (by omega) (by omega)
 have w:IntKind.wrap .i64 (1+v)=1+v:=wrap_i64 (by omega) (by omega)
 refine ⟨ns,l,dn,dl,1+v,h.length,h3,?_,c3,C,hl,hok,hll,by omega,by omega⟩
 rw [c0O]
 simp only [b7M,bs,e0,e1,e2,e3,a0n,w]
 rfl
def b8w (l:List (List Str × Int)):Prop:=l.Pairwise fun a b=>a0Z a.1 b.1<0
theorem b2g:∀ (l:List (List Str × Int)) (x z:List Str × Int),z∈mgP l x→z.1=x.1∨∃ y∈l,z.1=y.1
 | [],x,z,h=>by simp [-bind_some, mgP] at h;subst h;exact .inl rfl
 | y::r,x,z,h=>by
  unfold mgP at h
  split at h
  ·rcases c7j.1 h with rfl | h
   ·exact .inr ⟨z,by simp,rfl⟩
   ·rcases b2g r x z h with h | ⟨w,hw,h⟩
    ·exact .inl h
    ·exact .inr ⟨w,by simp [-bind_some, hw],h⟩
  ·split at h
   ·rcases c7j.1 h with rfl | h
    ·exact .inl rfl
    ·exact .inr ⟨z,h,rfl⟩
   ·rcases c7j.1 h with rfl | h
    ·exact .inr ⟨y,by simp,rfl⟩
    ·exact .inr ⟨z,by simp [-bind_some, h],rfl⟩
theorem a8h:∀ (l:List (List Str × Int)) (x:List Str × Int),b8w l→b8w (mgP l x)
 | [],x,_=>by simp [-bind_some, mgP,b8w]
 | y::r,x,h=>by
  have hr:=List.pairwise_cons.1 h
  have ih:=a8h r x hr.2
  unfold mgP
  split
  ·rename_i h1
   refine List.pairwise_cons.2 ⟨fun z hz=>?_,ih⟩
   rcases b2g r x z hz with e | ⟨w,hw,e⟩
   ·rw [e];exact h1
   ·rw [e];exact hr.1 w hw
  ·split
   ·rename_i h1 h2
    have hxy:a0Z x.1 y.1<0:=by rw [a2i] ;omega
    refine List.pairwise_cons.2 ⟨fun z hz=>?_,h⟩
    rcases c7j.1 hz with rfl | hz
    ·exact hxy
    ·exact a3O hxy (hr.1 z hz)
   ·exact List.pairwise_cons.2 ⟨fun z hz=>hr.1 z hz,hr.2⟩
theorem b3L {l:List Ev} (h:a2E l):∀ e∈l,0≤e.a0∧e.a0≤9∧b0t e.fs:=fun e he=>by
 obtain ⟨h1,h2,h3,_⟩:=h.1 e he
 obtain ⟨_,_,_,_,_,_,h4,_⟩:=h1.ev rfl
 exact ⟨by omega,by omega,h4⟩
def rwa:Rw:=⟨[],.nils,.nils _ _,by simp,[1],.sl 1 true [[.int .i64 1]],.inr ⟨true,rfl⟩,by simp,0⟩
def rwb:Rw:=⟨[[98]],.sl 1 true [[.str [98]]],.inr ⟨true,rfl⟩,by simp,[2],.sl 1 true [[.int .i64 2]],.inr ⟨true,rfl⟩,by simp,0⟩
theorem c2j (h:Hp):R a7a [] h=some (.bool true,h):=by
 obtain ⟨C,d',e,hp,hs,hd⟩:=c2m [rwa,rwb] (.sl 3 true [a0w rwa,a0w rwb]) 1 h (.inl (.inr ⟨true,rfl⟩)) (by simp)
 have hE:[rwb,rwa].Pairwise rS:=by
  refine List.pairwise_cons.2 ⟨fun x hx=>?_,by simp⟩
  simp at hx
  subst hx
  rw [b2t]
  left
  decide
 have hC:C=[rwb,rwa]:=b2u hs hE (hp.trans (List.Perm.swap _ _ _)) (by
  have:=(hp.map Rw.k).nodup_iff
  rw [this]
  simp [-bind_some, rwa,rwb])
 subst hC
 have hcut:b0u 1 ([rwa,rwb]:List Rw).length=1:=by decide
 rw [hcut] at hd
 have hd:SlOf 3 a0w [rwb] d':=hd
 have hb1:a0T tab a0h [1] [.sl 1 true [[.int .i64 1]]]=some (.agg (a0w rwa)):=id rfl
 have hb2:a0T tab a0h [0,1] [.sl 1 true [[.str [98]]],.sl 1 true [[.int .i64 2]]]=some (.agg (a0w rwb)):=id rfl
 have hl:a0y tab a0u 2 [0,1] [.agg (a0w rwa),.agg (a0w rwb)]=some (.sl 3 true [a0w rwa,a0w rwb]):=b3i _ _ _ _ _ _
 have h1:a0y tab a1c 1 [0] [.int .i64 1]=some (.sl 1 true [[.int .i64 1]]):=id rfl
 have h2:a0y tab a1c 1 [0] [.int .i64 2]=some (.sl 1 true [[.int .i64 2]]):=id rfl
 have h3:a0y tab a0C 1 [0] [.str [98]]=some (.sl 1 true [[.str [98]]]):=id rfl
 have hix:a0b tab a0u d' (.int .i64 0)=some (.fptr (a0w rwb)):=by rw [b1O hd];rfl
 have hn:a0x tab a1c rwb.nd=some (.int .i64 1):=id rfl
 have hi:a0b tab a1c rwb.nd (.int .i64 0)=some (.fptr [.int .i64 2]):=id rfl
 rw [c0N]
 simp only [b7L,bs,h1,h2,h3,hb1,hb2,hl,e,a4r hd,List.length_singleton,Int.natCast_one,a0Q,decide_true,a0S,if_true,hix,c2h,c2i,hn,a0A,hi,a9A,a0q]
theorem b6W {h:Hp} (r:Rw) (hr:r.n≠[]):∃ z,a0b tab a1c r.nd (.int .i64 0)=some (.fptr [.int .i64 z])∧z=a3Z r:=by
 cases hq:r.n with
 | nil=>exact absurd hq hr
 | cons z zs=>exact ⟨z,by rw [b1Q r.hn,hq];rfl,by unfold a3Z;rw [hq];rfl⟩
abbrev FM:=Int × Int
def c2b:Nat→Cur→List FM × Cur
 | 0,s=>([],s)
 | n+1,s=>if s.2=true then ([],s) else (((b5i s).1,(b5i (b5i s).2).1)::(c2b n (b5i (b5i s).2).2).1,(c2b n (b5i (b5i s).2).2).2)
def dN (l:List Int):Nat:=(num ((l.drop 4).take 4)).toNat
def dS0 (l:List Int):Cur:=((l.take (8+dN l)).drop 8,false)
def dA (l:List Int):Int × Cur:=b5i (dS0 l)
def dM (l:List Int):List FM × Cur:=c2b (c3F (dA l).2).1.toNat (c3F (dA l).2).2
abbrev Cn:=List Str × Int × Int
def a7Q:List Cn→Cn→List Cn
 | [],x=>[x]
 | y::r,x=>if a0Z y.1 x.1<0 then y::a7Q r x else x::y::r
def a6B (S:List Cn) (k:List Str) (w:Int):List Cn:=S.map fun c=>if c.1=k then (c.1,c.2.1+w,c.2.2) else c
def lst (S:List Cn):Nat→Nat
 | 0=>0
 | i+1=>if ((S[i]?).getD ([],0,0)).2.1<((S[lst S i]?).getD ([],0,0)).2.1 then i else lst S i
def a5b (S:List Cn):Int:=((S[lst S S.length]?).getD ([],0,0)).2.1
def obs (size:Int) (S:List Cn) (k:List Str) (w:Int):List Cn :=
 if k∈S.map (·.1) then a6B S k w
 else if (S.length:Int)<size then a7Q S (k,w,0)
 else a7Q (S.eraseIdx (lst S S.length)) (k,a5b S+w,a5b S)
theorem b5d (S:List Cn):∀ n,n≤S.length→0<n→lst S n<n
 | 0,_,h=>by omega
 | n+1,hn,_=>by
  unfold lst
  split
  ·omega
  ·by_cases h:n=0
   ·subst h;show lst S 0<1;unfold lst;omega
   ·have:=b5d S n (by omega) (by omega);omega
theorem b5c (S:List Cn):∀ n,n≤S.length→∀ i c,i<n→S[i]?=some c→((S[lst S n]?).getD ([],0,0)).2.1≤c.2.1
 | 0,_,i,c,h,_=>by omega
 | n+1,hn,i,c,h,hc=>by
  unfold lst
  by_cases hi:i=n
  ·subst hi
   rw [hc]
   split
   ·rw [hc];exact Int.le_refl _
   ·rename_i h1
    simp only [Option.getD_some] at h1
    omega
  ·have ih:=b5c S n (by omega) i c (by omega) hc
   split
   ·rename_i h1;omega
   ·exact ih
theorem b6F {S:List Cn} {c:Cn} (h:c∈S):a5b S≤c.2.1:=by
 obtain ⟨i,hi⟩:=List.mem_iff_getElem?.1 h
 exact b5c S S.length (Nat.le_refl _) i c (c7e.1 hi).1 hi
theorem a2p:∀ (S:List Cn) (x:Cn),(a7Q S x).Perm (x::S)
 | [],x => .refl _
 | y::r,x=>by
  unfold a7Q
  split
  ·exact ((a2p r x).cons y).trans (.swap _ _ _)
  ·exact .refl _
def CAsc (S:List Cn):Prop:=S.Pairwise fun a b=>a0Z a.1 b.1<0
theorem a5Q:∀ (S:List Cn) (x:Cn),CAsc S→(∀ c∈S,c.1≠x.1)→CAsc (a7Q S x)
 | [],x,_,_=>by simp [-bind_some, a7Q,CAsc]
 | y::r,x,h,hx=>by
  have hr:=List.pairwise_cons.1 h
  unfold a7Q
  split
  ·rename_i h1
   refine List.pairwise_cons.2 ⟨fun z hz=>?_,a5Q r x hr.2 fun c hc=>hx c (by simp [-bind_some, hc])⟩
   rcases c7j.1 ((a2p r x).mem_iff.1 hz) with rfl | hz
   ·exact h1
   ·exact hr.1 z hz
  ·rename_i h1
   have hne:¬ a0Z y.1 x.1=0:=fun h0=>hx y (by simp) ((a1H _ _).1 h0)
   have hlt:a0Z x.1 y.1<0:=by rw [a2i];omega
   refine List.pairwise_cons.2 ⟨fun z hz=>?_,h⟩
   rcases c7j.1 hz with rfl | hz
   ·exact hlt
   ·exact a3O hlt (hr.1 z hz)
theorem a1R (x:List Str):a0Z x x=0:=(a1H x x).2 rfl
theorem CAsc.uniq {S:List Cn} (h:CAsc S) {a b:Cn} (ha:a∈S) (hb:b∈S) (e:a.1=b.1):a=b:=by
 induction S with
 | nil=>cases ha
 | cons y r ih =>
  have hr:=List.pairwise_cons.1 h
  rcases c7j.1 ha with rfl | ha' <;> rcases c7j.1 hb with rfl | hb'
  ·rfl
  ·have:=hr.1 b hb';rw [e,a1R] at this;omega
  ·have:=hr.1 a ha';rw [e,a1R] at this;omega
  ·exact ih hr.2 ha' hb'
theorem b3m {S:List Cn} (h:CAsc S) (k:List Str) (w:Int):CAsc (a6B S k w):=by
 unfold a6B CAsc
 rw [List.pairwise_map]
 exact List.Pairwise.imp (fun {a b} hab=>by
  have:∀ c:Cn,(if c.1=k then ((c.1,c.2.1+w,c.2.2):Cn) else c).1=c.1:=fun c=>by split <;> rfl
  rw [this,this];exact hab) h
theorem a8U (S:List Cn) (k:List Str) (w:Int):(a6B S k w).length=S.length:=by simp [-bind_some, a6B]
theorem b0K (S:List Cn) (k:List Str) (w:Int):(a6B S k w).map (·.1)=S.map (·.1):=by
 simp only [a6B,List.map_map]
 exact List.map_congr_left fun c _=>by simp only [Function.comp];split <;> rfl
def a2q (S:List Cn):Int:=(S.map (·.2.1)).sum
theorem a4x {S S':List Cn} (h:S.Perm S'):a2q S=a2q S':=by
 induction h with
 | nil=>rfl
 | cons x _ ih=>simp only [a2q,c6W,List.sum_cons] at ih ⊢;omega
 | swap x y l=>simp only [a2q,c6W,List.sum_cons];omega
 | trans _ _ i1 i2=>exact i1.trans i2
theorem a5m:∀ (S:List Cn) (i:Nat) (m:Cn),S[i]?=some m→S.Perm (m::S.eraseIdx i)
 | [],i,m,h=>by simp at h
 | y::r,0,m,h=>by simp at h;subst h;exact .refl _
 | y::r,i+1,m,h=>by
  rw [c6S] at h
  rw [List.eraseIdx_cons_succ]
  exact ((a5m r i m h).cons y).trans (.swap _ _ _)
theorem a8V:∀ {S:List Cn},CAsc S→∀ (k:List Str) (w:Int),k∈S.map (·.1)→a2q (a6B S k w)=a2q S+w
 | [],_,k,w,h=>by cases h
 | y::r,h,k,w,hk=>by
  have hr:=List.pairwise_cons.1 h
  by_cases e:y.1=k
  ·have:a6B r k w=r:=by
     unfold a6B
     conv=>rhs;rw [← List.map_id r]
     refine List.map_congr_left fun c hc=>?_
     have h1:=hr.1 c hc
     rw [if_neg (fun e2=>by rw [e,e2,a1R] at h1;omega)]
     rfl
   have e2:a6B (y::r) k w=(y.1,y.2.1+w,y.2.2)::a6B r k w:=by simp [-bind_some, a6B,e]
   rw [e2,this]
   simp only [a2q,c6W,List.sum_cons]
   omega
  ·have hk':k∈r.map (·.1):=by
     rcases c7j.1 hk with h1 | h1
     ·exact absurd h1.symm e
     ·exact h1
   have e2:a6B (y::r) k w=y::a6B r k w:=by simp [-bind_some, a6B,e]
   have ih:=a8V hr.2 k w hk'
   rw [e2]
   simp only [a2q,c6W,List.sum_cons] at ih ⊢
   omega
structure Sk (T:List Str→Int) (tot size:Int) (S:List Cn):Prop where
 asc:CAsc S
 sum:a2q S=tot
 len:(S.length:Int)≤size
 bd:∀ c∈S,T c.1≤c.2.1∧c.2.1 - c.2.2≤T c.1
 ab:∀ k,k∉S.map (·.1)→((S.length:Int)<size→T k=0)∧((S.length:Int)=size→∀ c∈S,T k≤c.2.1)
def adT (T:List Str→Int) (k:List Str) (w:Int):List Str→Int:=fun k'=>if k'=k then T k'+w else T k'
theorem Sk.obs {T:List Str→Int} {tot size:Int} {S:List Cn} (h:Sk T tot size S) (hT:∀ k,0≤T k) (hs:1≤size) (k:List Str) (w:Int) (hw:0≤w):Sk (adT T k w) (tot+w) size (obs size S k w):=by
 unfold Proofs.YtehgglgadbmecaaDoor.obs
 by_cases hk:k∈S.map (·.1)
 ·rw [if_pos hk]
  refine ⟨b3m h.asc k w,by rw [a8V h.asc k w hk,h.sum],by rw [a8U];exact h.len,fun c hc=>?_,fun k' hk'=>?_⟩
  ·obtain ⟨d,hd,rfl⟩:=c7l.1 hc
   have:=h.bd d hd
   unfold adT
   by_cases e:d.1=k
   ·simp only [e,if_true];rw [e] at this;omega
   ·simp only [e,if_false];exact this
  ·rw [b0K] at hk'
   obtain ⟨q1,q2⟩:=h.ab k' hk'
   have hne:k'≠k:=fun e=>hk' (e▸hk)
   rw [a8U]
   unfold adT
   rw [if_neg hne]
   refine ⟨q1,fun hl c hc=>?_⟩
   obtain ⟨d,hd,rfl⟩:=c7l.1 hc
   have:=q2 hl d hd
   split
   ·show _≤d.2.1+w;omega
   ·exact this
 ·rw [if_neg hk]
  have hkc:∀ c∈S,c.1≠k:=fun c hc e=>hk (c7l.2 ⟨c,hc,e⟩)
  obtain ⟨a1,a2⟩:=h.ab k hk
  by_cases hl:(S.length:Int)<size
  ·rw [if_pos hl]
   have hp:=a2p S (k,w,0)
   have hlen:(a7Q S (k,w,0)).length=S.length+1:=by rw [hp.length_eq];rfl
   refine ⟨a5Q S _ h.asc hkc,by rw [a4x hp];have:=h.sum;simp only [a2q,c6W,List.sum_cons] at this ⊢;omega,by rw [hlen];omega,fun c hc=>?_,fun k' hk'=>?_⟩
   ·unfold adT
    rcases c7j.1 (hp.mem_iff.1 hc) with rfl | hc
    ·simp only [if_true,a1 hl];omega
    ·rw [if_neg (hkc c hc)];exact h.bd c hc
   ·have hk2:k'∉((k,w,0)::S).map (·.1):=fun hh=>hk' ((hp.map _).mem_iff.2 hh)
    simp only [c6W,c7j,not_or] at hk2
    obtain ⟨b1,_⟩:=h.ab k' hk2.2
    unfold adT
    rw [if_neg hk2.1,b1 hl]
    refine ⟨fun _=>rfl,fun _ c hc=>?_⟩
    rcases c7j.1 (hp.mem_iff.1 hc) with rfl | hc
    ·exact hw
    ·have:=(h.bd c hc).1;have:=hT c.1;omega
  ·rw [if_neg hl]
   have hle:=h.len
   have hsz:(S.length:Int)=size:=by omega
   have hn:0<S.length:=by omega
   have hlt:=b5d S S.length (Nat.le_refl _) hn
   obtain ⟨m,hm⟩:∃ m,S[lst S S.length]?=some m:=⟨_,c7d hlt⟩
   have hc:a5b S=m.2.1:=by unfold a5b;rw [hm];rfl
   have hmS:m∈S:=c7c hm
   have hse:S.Perm (m::S.eraseIdx (lst S S.length)):=a5m S _ m hm
   have hsub:(S.eraseIdx (lst S S.length)).Sublist S:=List.eraseIdx_sublist _ _
   have hsum:a2q S=m.2.1+a2q (S.eraseIdx (lst S S.length)):=by rw [a4x hse];simp [-bind_some, a2q]
   have hE:=hsub.length_le
   have hel:S.length=(S.eraseIdx (lst S S.length)).length+1:=hse.length_eq
   have hle2:=fun (c:Cn) (hcS:c∈S)=>b6F hcS
   generalize S.eraseIdx (lst S S.length)=E at *
   have hp:=a2p E (k,a5b S+w,a5b S)
   have hlen:(a7Q E (k,a5b S+w,a5b S)).length=S.length:=by rw [hp.length_eq,hel];rfl
   have hEc:∀ c∈E,c∈S:=fun c hc=>hsub.subset hc
   refine ⟨a5Q E _ (h.asc.sublist hsub) fun c hc=>hkc c (hEc c hc),?_,by rw [hlen];exact h.len,fun c hcc=>?_,fun k' hk'=>?_⟩
   ·rw [a4x hp]
    have:=h.sum
    simp only [a2q,c6W,List.sum_cons] at this hsum ⊢
    omega
   ·unfold adT
    rcases c7j.1 (hp.mem_iff.1 hcc) with rfl | hcc
    ·have t1:=a2 hsz m hmS
     have t2:=hT k
     simp only [if_true,hc];omega
    ·rw [if_neg (hkc c (hEc c hcc))];exact h.bd c (hEc c hcc)
   ·have hk2:k'∉((k,a5b S+w,a5b S)::E).map (·.1):=fun hh=>hk' ((hp.map _).mem_iff.2 hh)
    simp only [c6W,c7j,not_or] at hk2
    unfold adT
    rw [if_neg hk2.1,hlen]
    refine ⟨fun h1=>absurd h1 hl,fun _ c hcc=>?_⟩
    have hTk:T k'≤a5b S:=by
     by_cases e:k'=m.1
     ·rw [e,hc];exact (h.bd m hmS).1
     ·have hk3:k'∉S.map (·.1):=fun hh=>by
        rcases c7j.1 ((hse.map (·.1)).mem_iff.1 hh) with h1 | h1
        ·exact e h1
        ·exact hk2.2 h1
      rw [hc]
      exact (h.ab k' hk3).2 hsz m hmS
    rcases c7j.1 (hp.mem_iff.1 hcc) with rfl | hcc
    ·show _≤a5b S+w;omega
    ·have:=hle2 c (hEc c hcc);omega
theorem a4p {α β:Type} (f:β→α→β) (P:List α→β→Prop) (hs:∀ pre a b,P pre b→P (pre++[a]) (f b a)):∀ (l pre:List α) (b:β),P pre b→P (pre++l) (l.foldl f b)
 | [],pre,b,h=>by rw [List.append_nil];exact h
 | a::r,pre,b,h=>by
  have:=a4p f P hs r (pre++[a]) (f b a) (hs pre a b h)
  rwa [List.append_assoc] at this
abbrev Ob1:=List Str × Int
def TL (ps:List Ob1) (k:List Str):Int:=((ps.filter fun p=>p.1==k).map (·.2)).sum
def a6y (ps:List Ob1):Int:=(ps.map (·.2)).sum
def WOK (ps:List Ob1):Prop:=∀ p∈ps,0≤p.2∧p.2≤5040
theorem a7N (ps:List Ob1) (p:Ob1):TL (ps++[p])=adT (TL ps) p.1 p.2:=by
 funext k
 unfold TL adT
 rw [List.filter_append,c6V,List.sum_append]
 by_cases h:k=p.1
 ·subst h;simp [-bind_some]
 ·have:(p.1==k)=false:=by simpa using fun e=>h e.symm
  simp [-bind_some, this,h]
theorem a7I (ps:List Ob1) (p:Ob1):a6y (ps++[p])=a6y ps+p.2:=by simp [-bind_some, a6y]
theorem a9T:∀ {ps:List Ob1},WOK ps→∀ k,0≤TL ps k
 | [],_,k=>by simp [-bind_some, TL]
 | p::r,h,k=>by
  have ih:=a9T (ps:=r) (fun q hq=>h q (by simp [-bind_some, hq])) k
  have:=(h p (by simp)).1
  unfold TL at ih ⊢
  by_cases e:(p.1==k)=true
  ·simp only [List.filter_cons,e,if_true,c6W,List.sum_cons];omega
  ·simp only [List.filter_cons,e,if_false,c6P];exact ih
theorem a3V:∀ {ps:List Ob1},WOK ps→0≤a6y ps∧a6y ps≤5040*ps.length
 | [],_=>by simp [-bind_some, a6y]
 | p::r,h=>by
  have ih:=a3V (ps:=r) fun q hq=>h q (by simp [-bind_some, hq])
  have:=h p (by simp)
  simp only [a6y,c6W,List.sum_cons,c7f] at ih ⊢
  omega
theorem b5G:∀ {ps:List Ob1},WOK ps→∀ k,TL ps k≤a6y ps
 | [],_,k=>by simp [-bind_some, TL,a6y]
 | p::r,h,k=>by
  have ih:=b5G (ps:=r) (fun q hq=>h q (by simp [-bind_some, hq])) k
  have:=(h p (by simp)).1
  unfold TL a6y at ih ⊢
  rw [c6W,List.sum_cons]
  by_cases e:(p.1==k)=true
  ·simp only [List.filter_cons,e,if_true,c6W,List.sum_cons];omega
  ·simp only [List.filter_cons,e,if_false,c6P];omega
def skO (size:Int) (ps:List Ob1):List Cn:=ps.foldl (fun S p=>obs size S p.1 p.2) []
theorem WOK.pre {ps qs:List Ob1} (h:WOK (ps++qs)):WOK ps:=fun p hp=>h p (List.mem_append_left _ hp)
theorem b2I {size:Int} (hs:1≤size) (ps:List Ob1) (h:WOK ps):Sk (TL ps) (a6y ps) size (skO size ps):=by
 have:=a4p (fun S (p:Ob1)=>obs size S p.1 p.2) (fun pre S=>WOK pre→Sk (TL pre) (a6y pre) size S) (fun pre a S hP hw=>by
  have h1:=hP hw.pre
  have h2:=hw a (by simp)
  rw [a7N,a7I]
  exact h1.obs (a9T hw.pre) hs a.1 a.2 h2.1) ps [] [] (fun _=>⟨.nil,rfl,by show (0:Int)≤size;omega,by simp,fun k _=>⟨fun _=>rfl,fun h=>by simp at h;omega⟩⟩)
 exact this h
def c0E (ps:List Ob1):List Ob1:=ps.foldl mgP []
def upC (z:Ob1):Cn:=(z.1,z.2,0)
theorem a3t (y x:Cn) (r:List Cn):a7Q (y::r) x=if a0Z y.1 x.1<0 then y::a7Q r x else x::y::r:=rfl
theorem b5e:∀ {C:List Ob1} {x:Ob1},b8w C→x.1∈C.map (·.1)→(∀ z∈C,IntKind.wrap .i64 (z.2+x.2)=z.2+x.2)→mgP C x=C.map fun z=>if z.1=x.1 then (z.1,z.2+x.2) else z
 | [],x,_,h,_=>by cases h
 | y::r,x,h,hx,hw=>by
  have hr:=List.pairwise_cons.1 h
  have off:∀ z∈r,z.1=x.1→a0Z y.1 x.1<0:=fun z hz e=>e▸hr.1 z hz
  unfold mgP
  by_cases h1:a0Z y.1 x.1<0
  ·have hne:¬ y.1=x.1:=fun e=>by rw [e,a1R] at h1;omega
   have hx':x.1∈r.map (·.1):=by
    rcases c7j.1 hx with h2 | h2
    ·exact absurd h2.symm hne
    ·exact h2
   rw [if_pos h1,b5e hr.2 hx' fun z hz=>hw z (by simp [-bind_some, hz])]
   simp [-bind_some, hne]
  ·rw [if_neg h1]
   have hall:∀ z∈r,¬ z.1=x.1:=fun z hz e=>h1 (off z hz e)
   have heq:y.1=x.1:=by
    rcases c7j.1 hx with h2 | h2
    ·exact h2.symm
    ·obtain ⟨z,hz,e⟩:=c7l.1 h2
     exact absurd e (hall z hz)
   have h0:¬ a0Z y.1 x.1>0:=by rw [heq,a1R];omega
   rw [if_neg h0,hw y (by simp)]
   have:(r.map fun z=>if z.1=x.1 then ((z.1,z.2+x.2):Ob1) else z)=r:=by
    conv=>rhs;rw [← List.map_id r]
    exact List.map_congr_left fun z hz=>by rw [if_neg (hall z hz)];rfl
   rw [c6W,this,if_pos heq]
theorem b2h:∀ {C:List Ob1} {x:Ob1},x.1∉C.map (·.1)→(mgP C x).map upC=a7Q (C.map upC) (x.1,x.2,0)∧(mgP C x).Perm (x::C)
 | [],x,_=>⟨rfl,.refl _⟩
 | y::r,x,hx=>by
  simp only [c6W,c7j,not_or] at hx
  obtain ⟨i1,i2⟩:=b2h (C:=r) (x:=x) hx.2
  unfold mgP
  by_cases h1:a0Z y.1 x.1<0
  ·rw [if_pos h1]
   refine ⟨?_,(i2.cons y).trans (.swap _ _ _)⟩
   rw [c6W,i1,c6W]
   rw [a3t,if_pos (show a0Z (upC y).1 x.1<0 from h1)]
  ·rw [if_neg h1]
   have h0:a0Z y.1 x.1>0:=by
    have:¬ a0Z y.1 x.1=0:=fun e=>hx.1 ((a1H _ _).1 e).symm
    omega
   rw [if_pos h0]
   refine ⟨?_,.refl _⟩
   rw [c6W,c6W]
   rw [a3t,if_neg (show ¬ a0Z (upC y).1 x.1<0 from h1)]
   rfl
structure CI (ps C:List Ob1):Prop where
 asc:b8w C
 val:∀ z∈C,z.2=TL ps z.1
 all:∀ p∈ps,p.1∈C.map (·.1)
 of:∀ z∈C,∃ p∈ps,p.1=z.1
theorem c0w {ps:List Ob1} {k:List Str} (h:∀ p∈ps,p.1≠k):TL ps k=0:=by
 unfold TL
 rw [List.filter_eq_nil_iff.2 fun p hp=>by simpa using h p hp]
 rfl
theorem a8P (T:List Str→Int) (k:List Str) (w:Int):adT T k w k=T k+w:=by simp [-bind_some, adT]
theorem b4B (T:List Str→Int) {k k':List Str} (w:Int) (h:k'≠k):adT T k w k'=T k':=by simp [-bind_some, adT,h]
theorem CI.wr {ps C:List Ob1} (h:CI ps C) (hw:WOK ps) (hl:ps.length≤100000) {x:Ob1} (h0:0≤x.2) (h1:x.2≤5040):∀ z∈C,IntKind.wrap .i64 (z.2+x.2)=z.2+x.2:=fun z hz=>by
 have e1:=h.val z hz
 have e2:=a9T hw z.1
 have e3:=b5G hw z.1
 have e4:=(a3V hw).2
 exact wrap_i64 (by omega) (by omega)
theorem CI.snoc {ps C:List Ob1} (h:CI ps C) {x:Ob1} (hw:WOK (ps++[x])) (hl:(ps++[x]).length≤100000):CI (ps++[x]) (mgP C x):=by
 have hx:=hw x (by simp)
 simp only [c6T,c7f,c7g] at hl
 have hwr:=h.wr hw.pre (by omega) hx.1 hx.2
 by_cases hk:x.1∈C.map (·.1)
 ·have e:=b5e h.asc hk hwr
  have hkeys:(mgP C x).map (·.1)=C.map (·.1):=by
   rw [e,List.map_map]
   exact List.map_congr_left fun z _=>by simp only [Function.comp];split <;> rfl
  refine ⟨a8h _ _ h.asc,fun z hz=>?_,fun p hp=>?_,fun z hz=>?_⟩
  ·rw [e] at hz
   obtain ⟨y,hy,rfl⟩:=c7l.1 hz
   rw [a7N]
   by_cases hyx:y.1=x.1
   ·rw [if_pos hyx]
    show y.2+x.2=adT _ _ _ y.1
    rw [hyx,a8P,← hyx,h.val y hy]
   ·rw [if_neg hyx,b4B _ _ hyx];exact h.val y hy
  ·rw [hkeys]
   rcases c7k.1 hp with hp | hp
   ·exact h.all p hp
   ·simp at hp;subst hp;exact hk
  ·rw [e] at hz
   obtain ⟨y,hy,rfl⟩:=c7l.1 hz
   obtain ⟨p,hp,e2⟩:=h.of y hy
   refine ⟨p,List.mem_append_left _ hp,?_⟩
   split
   ·exact e2
   ·exact e2
 ·obtain ⟨_,hperm⟩:=b2h hk
  have hno:∀ p∈ps,p.1≠x.1:=fun p hp e=>hk (e▸h.all p hp)
  refine ⟨a8h _ _ h.asc,fun z hz=>?_,fun p hp=>?_,fun z hz=>?_⟩
  ·rw [a7N]
   rcases c7j.1 (hperm.mem_iff.1 hz) with rfl | hz
   ·rw [a8P,c0w hno];omega
   ·have hne:z.1≠x.1:=fun e=>hk (c7l.2 ⟨z,hz,e⟩)
    rw [b4B _ _ hne];exact h.val z hz
  ·refine (hperm.map _).mem_iff.2 ?_
   rcases c7k.1 hp with hp | hp
   ·exact List.mem_cons_of_mem _ (h.all p hp)
   ·simp at hp;subst hp;simp [-bind_some]
  ·rcases c7j.1 (hperm.mem_iff.1 hz) with rfl | hz
   ·exact ⟨z,by simp,rfl⟩
   ·obtain ⟨p,hp,e2⟩:=h.of z hz
    exact ⟨p,List.mem_append_left _ hp,e2⟩
theorem b5S {ps:List Ob1} (h:WOK ps) (hl:ps.length≤100000):CI ps (c0E ps):=by
 have:=a4p mgP (fun pre C=>WOK pre→pre.length≤100000→CI pre C) (fun pre a C hP hw hl=>(hP hw.pre (by simp at hl;omega)).snoc hw hl) ps [] [] (fun _ _=>⟨.nil,fun z hz=>by simp at hz,fun p hp=>by simp at hp,fun z hz=>by simp at hz⟩)
 exact this h hl
structure Ct where
 k:List Str
 kd:D
 hk:SlOf 1 (fun s=>[D.str s]) k kd
 hkl:k.length≤1000000
 n:Int
 e:Int
def ctr (c:Ct):List D:=[c.kd,.int .i64 c.n,.int .i64 c.e]
theorem a4A (c:Ct):(D.agg (ctr c)).okv=true:=by
 have h1:=a0R c.hk
 have h3:(D.agg (ctr c)) = .agg [c.kd,.int .i64 c.n,.int .i64 c.e]:=rfl
 rw [h3]
 generalize c.kd=a at h1
 simp [-bind_some, D.okv,h1,D.one]
def ctc (c:Ct):Cn:=(c.k,c.n,c.e)
theorem b9V (c:Ct):a0a tab a0j 0 (.fptr (ctr c))=some (.fptr (ctr c)):=id rfl
theorem b5U (c:Ct):a0a tab a0j 1 (.fptr (ctr c))=some (.fptr [.int .i64 c.n,.int .i64 c.e]):=id rfl
theorem c3S (c:Ct):a0a tab a0j 2 (.fptr (ctr c))=some (.fptr [.int .i64 c.e]):=id rfl
theorem b9W (c:Ct) (h:Hp):a0c tab h a0C (.fptr (ctr c))=some c.kd:=by
 have h1:=a0R c.hk
 show a0c tab h a0C (.fptr [c.kd,.int .i64 c.n,.int .i64 c.e])=_
 generalize c.kd=a at h1
 cases a <;> first | rfl | (simp [-bind_some, D.one] at h1)
theorem b4I (n e:Int) (h:Hp):a0c tab h ty3 (.fptr [.int .i64 n,.int .i64 e])=some (.int .i64 n):=id rfl
theorem c3T (e:Int) (h:Hp):a0c tab h ty3 (.fptr [.int .i64 e])=some (.int .i64 e):=id rfl
theorem ctL (c:Ct) (h:Hp):a0c tab h a0j (.fptr (ctr c))=some (.agg (ctr c)):=id rfl
theorem b5T (c:Ct):a1J (.agg (ctr c))=some (.fptr (ctr c)):=a1z _
theorem b0T (c:Ct):a7L 3 (.agg (ctr c))=some (.fptr (ctr c)):=a5P 3 _ rfl
def RdCt (h:Hp) (l:List Ct) (d:D):Prop:=SlOf 3 ctr l d∨∃ ob tl,d = .msl 3 ob 0 l.length∧h[ob]?=some (.row a0j 3 (l.map ctr++tl))
theorem a4L {h:Hp} {l:List Ct} {d:D} (hd:RdCt h l d):a0x tab a0r d=some (.int .i64 l.length):=by
 rcases hd with hd | ⟨ob,tl,rfl,_⟩
 ·exact a3E hd
 ·exact a6m _ _ _ _
theorem a7A {h:Hp} {l:List Ct} {d:D} (hd:RdCt h l d) (i:Nat) (p:Ct) (hp:l[i]?=some p):∃ q,a0b tab a0r d (.int .i64 i)=some q∧a0c tab h a0j q=some (.agg (ctr p)):=by
 have hi:=(c7e.1 hp).1
 rcases hd with hd | ⟨ob,tl,rfl,ho⟩
 ·exact ⟨.fptr (ctr p),by rw [a6j hd];simp [-bind_some, hp],ctL p h⟩
 ·have hr:(l.map ctr++tl)[i]?=some (ctr p):=by rw [c7n (by simpa using hi),c7b,hp];rfl
  exact ⟨.ptr ob i 0,by rw [a6h,if_pos (by omega)];simp [-bind_some],by rw [a3i,a1q ho,hr];rfl⟩
theorem b9D (x:Ct) (key:List Str) (dk:D) (h:Hp) (hk:SlOf 1 (fun s=>[D.str s]) key dk) (hl:key.length≤1000000):R a7i [.agg (ctr x),dk] h=some (.int .i64 (a0Z x.k key),h):=by
 rw [c1u]
 simp only [b8o,b5T,bs,b9V,b9W,b4i x.k key x.kd dk h x.hk hk x.hkl hl,a0q]
def cM (x y:Ct):Int:=if a5j x.n y.n=0 then a0Z x.k y.k else a5j x.n y.n
theorem c6b (a b:Int):orI [a,b]=if a=0 then b else a:=by
 unfold orI orI orI
 split
 ·split
  ·rename_i h2;exact h2.symm
  ·rfl
 ·rfl
theorem c2H (x y:Ct) (h:Hp):R a7j [.agg (ctr x),.agg (ctr y)] h=some (.int .i64 (cM x y),h):=by
 rw [c1w]
 have hs:SlOf 1 inr [a5j x.n y.n,a0Z x.k y.k] (.sl 1 true [[.int .i64 (a5j x.n y.n)],[.int .i64 (a0Z x.k y.k)]]) := .inr ⟨true,rfl⟩
 simp only [b8q,b5T,bs,b5U,b4I,s90,b9V,b9W,b4i x.k y.k x.kd y.kd h x.hk y.hk x.hkl y.hkl,b4H,s89 _ _ h hs (by simp),c6b,a1r,a0q]
 rfl
theorem b9E (x m:Ct) (h:Hp):R a4I [.agg (ctr x),.fptr (ctr m)] h=some (.bool (decide (a0Z x.k m.k=0)),h):=by
 rw [c1y]
 simp only [b8s,b5T,bs,b9V,b9W,b4i x.k m.k x.kd m.kd h x.hk m.hk x.hkl m.hkl,a0Q,a0q]
theorem c2F (S:List Ct) (d:D) (key:List Str) (dk:D) (h:Hp) (hS:RdCt h S d) (hk:SlOf 1 (fun s=>[D.str s]) key dk) (hkl:key.length≤1000000) (hl:S.length≤1000000) (asc:CAsc (S.map ctc)) :
  ∃ (i:Nat) (b:Bool),i≤S.length∧R a9t [d,dk,.fn (.func a7i) [] []] h=some (.tup [.int .i64 i,.bool b],h)∧(b=true↔∃ c,S[i]?=some c∧c.k=key)∧(∀ j c,j<i→S[j]?=some c→a0Z c.k key<0)∧(∀ j c,i≤j→S[j]?=some c→¬ a0Z c.k key<0):=by
 suffices Wp (R a9t [d,dk,.fn (.func a7i) [] []] h) (fun p=>∃ (i:Nat) (b:Bool),i≤S.length∧p=(.tup [.int .i64 i,.bool b],h)∧(b=true↔∃ c,S[i]?=some c∧c.k=key)∧(∀ j c,j<i→S[j]?=some c→a0Z c.k key<0)∧(∀ j c,i≤j→S[j]?=some c→¬ a0Z c.k key<0)) by
  obtain ⟨p,h1,i,b,h2,rfl,h3⟩:=this
  exact ⟨i,b,h2,h1,h3⟩
 have ord:∀ (i j:Nat) (x y:Ct),i<j→S[i]?=some x→S[j]?=some y→a0Z x.k y.k<0:=fun i j x y hij hx hy=>by
  have hi:=(c7e.1 hx).1
  have hj:=(c7e.1 hy).1
  have:=List.pairwise_iff_getElem.1 asc i j (by simpa using hi) (by simpa using hj) hij
  simp only [List.getElem_map] at this
  rw [c7d hi] at hx
  rw [c7d hj] at hy
  injection hx with hx
  injection hy with hy
  rw [hx,hy] at this
  exact this
 rw [c1t]
 simp only [b8n,a4L hS,bs,c6O]
 refine Wp.loop (fun k ds g=>g=h∧∃ x y z,∃ lo hi:Nat,ds=[.int .i64 lo,.int .i64 hi,x,y,z]∧k+lo=hi∧hi≤S.length∧(∀ j c,j<lo→S[j]?=some c→a0Z c.k key<0)∧(∀ j c,hi≤j→S[j]?=some c→¬ a0Z c.k key<0))
  (fun r=>r.1 = .ext 0∧r.2.2=h∧∃ lo:Nat,nth 0 r.2.1 = .int .i64 lo∧lo≤S.length∧(∀ j c,j<lo→S[j]?=some c→a0Z c.k key<0)∧(∀ j c,lo≤j→S[j]?=some c→¬ a0Z c.k key<0)) S.length ⟨rfl,_,_,_,0,S.length,rfl,by omega,Nat.le_refl _,fun j c hj=>by omega,fun j c hj hc=>by have:=(c7e.1 hc).1;omega⟩ ?_ ?_
 ·rintro k ds g ⟨rfl,x,y,z,lo,hi,rfl,hk0,hhi,h1,h2⟩
  simp only [a8G,a0d,a0f,bs,c6O,a0o]
  refine Wp.dif ?_ ?_
  ·intro h0
   have h0:lo<hi:=by
    have:(lo:Int)<(hi:Int):=by simpa using h0
    omega
   obtain ⟨m,hm⟩:∃ m,m=(lo+hi) / 2:=⟨_,rfl⟩
   obtain ⟨u1,u2,u3,u4⟩:=@a7t lo hi (by omega) (by omega)
   rw [← hm] at u3 u4
   have u5:=wi_ m (by omega)
   obtain ⟨c,hc⟩:∃ c,S[m]?=some c:=⟨_,c7d (by omega)⟩
   obtain ⟨q,hq,lq⟩:=a7A hS m c hc
   simp only [a0n,u1,a4C,u2,a3v,show ¬ (1:Int)<0 by omega,if_false,u3,a4B,u4,hq,lq,bs,a1D,List.nil_append,List.append_nil,List.cons_append,b9D c key dk g hk hkl,a0o]
   by_cases hlt:a0Z c.k key<0
   ·simp only [hlt,decide_true,a0e,if_true,u5,bs,a0v,a0d,a0f]
    refine .some (.inl ⟨rfl,hi - (m+1),by omega,rfl,_,_,_,m+1,hi,rfl,by omega,hhi,fun j x hj hx=>?_,h2⟩)
    rcases Nat.lt_or_ge j m with hjm | hjm
    ·exact a3O (ord j m x c hjm hx hc) hlt
    ·have:j=m:=by omega
     subst this
     rw [hc] at hx
     injection hx with hx
     rw [← hx];exact hlt
   ·simp only [hlt,decide_false,a0e,c6P,if_false,bs,a0v,a0d,a0f]
    refine .some (.inl ⟨rfl,m - lo,by omega,rfl,_,_,_,lo,m,rfl,by omega,by omega,h1,fun j x hj hx hh=>?_⟩)
    rcases Nat.lt_or_ge m j with hjm | hjm
    ·exact hlt (a3O (ord m j c x hjm hc hx) hh)
    ·have:j=m:=by omega
     subst this
     rw [hc] at hx
     injection hx with hx
     rw [← hx] at hh
     exact hlt hh
  ·intro h0
   have h0:¬ lo<hi:=by
    have:¬ (lo:Int)<(hi:Int):=by simpa using h0
    omega
   have:lo=hi:=by omega
   exact .some (.inr ⟨by simp,rfl,rfl,lo,rfl,by omega,h1,fun j c hj hc=>h2 j c (by omega) hc⟩)
 ·rintro ⟨ex,ds,g⟩ ⟨rfl,rfl,i,hi,hil,h1,h2⟩
  simp only at hi
  simp only [a0m,a0g,bs,a0d,a0f,hi,a0o]
  by_cases h0:i<S.length
  ·obtain ⟨c,hc⟩:=gx_ h0
   obtain ⟨q,hq,lq⟩:=a7A hS i c hc
   have d0:decide ((i:Int)<(S.length:Int))=true:=decide_eq_true (by omega)
   simp only [d0,a0S,a3B,if_true,bs,hq,lq,a1D,List.nil_append,List.append_nil,List.cons_append,b9D c key dk g hk hkl,a0Q,a0A,a1U]
   refine .some ⟨i,decide (a0Z c.k key=0),hil,rfl,?_,h1,h2⟩
   rw [decide_eq_true_iff,a1H]
   constructor
   ·intro e;exact ⟨c,hc,e⟩
   ·rintro ⟨c',hc',e⟩
    rw [hc] at hc'
    injection hc' with hc'
    rw [hc'];exact e
  ·have d0:decide ((i:Int)<(S.length:Int))=false:=decide_eq_false (by omega)
   simp only [d0,a0S,a3B,a9z,reduceCtorEq,c6P,if_false,bs,a0A,a1U]
   refine .some ⟨i,false,hil,rfl,?_,h1,h2⟩
   constructor
   ·intro e;cases e
   ·rintro ⟨c',hc',e⟩
    have:=(c7e.1 hc').1
    omega
end Go.Proofs.YtehgglgadbmecaaDoor

/- Laws, on plain data, about functions that the statement reaches. -/
import Derived.Test.YtehgglgadbmecaaGreatDoorL1
set_option linter.unusedSimpArgs false
set_option linter.unusedVariables false
set_option linter.unnecessarySimpa false
set_option maxRecDepth 100000
namespace Go.Proofs.YtehgglgadbmecaaGreatDoor
open Go.Eng Go.Pi
open Option (bind_some)
theorem b7e {g:Hp} {o N:Nat} {P A B Q:List Rw} (hN:N≤1000000000) (hlen:(P++A++B++Q).length=N) (hA:0<A.length) (hB:0<B.length) (ho:g[o]?=some (.row a0k 3 ((P++A++B++Q).map a0C))) (cmp:D) (c:Rw→Rw→Int) (hcmp:a6c cmp c)
  (mid s0 r0:Nat) (hmid:mid=(P.length+(P.length+A.length+B.length)) / 2) (hs:(P.length+A.length>mid∧s0+B.length=mid∧r0=mid)∨(P.length+A.length≤mid∧s0=P.length∧r0=P.length+A.length))
  (p:Int) (hp:p=(mid+(P.length+A.length) - 1:Nat)) (x1 x2 x3:D) {β:Type} {f:Out→Option β} {R1:β→Prop}
  (K:∀ (k:Nat) b1 b2 b3 A1 A2 B1 B2,A=A1++A2→B=B1++B2→k=P.length+A1.length→mid=P.length+A1.length+B1.length →
   (A1=[]∨B2=[]∨∃ x y r s,A1=r++[x]∧B2=y::s∧¬ c y x<0)→(A2=[]∨B1=[]∨∃ x y r s,B1=r++[y]∧A2=x::s∧c y x<0) →
   Wp (f (.ext 8,[.int .i64 (k:Int),.int .i64 (k:Int),b1,b2,b3],g)) R1):Wp ((a0B (a4E (.msl 3 o 0 N) cmp (.int .i64 p)) [.int .i64 (s0:Int),.int .i64 (r0:Int),x1,x2,x3] g).bind f) R1:=by
 subst hp
 have hl:=hlen
 simp only [c9M] at hl
 have gA:∀ t,P.length≤t→t<P.length+A.length→(P++A++B++Q)[t]?=A[t - P.length]?:=fun t h0 h1=>by
  rw [List.append_assoc (P++A)];exact c1Q P A _ t h0 h1
 have gB:∀ t,P.length+A.length≤t→t<P.length+A.length+B.length→(P++A++B++Q)[t]?=B[t - (P.length+A.length)]?:=fun t h0 h1=>by
  have:=c1Q (P++A) B Q t (by simpa using h0) (by simpa using h1)
  simpa using this
 obtain ⟨q,hq⟩:∃ q:Nat→Prop,∀ t,q t↔∃ y z,(P++A++B++Q)[t]?=some y∧(P++A++B++Q)[mid+(P.length+A.length) - 1 - t]?=some z∧¬ c z y<0:=⟨_,fun t=>Iff.rfl⟩
 refine c9s hN hlen ho cmp (mid+(P.length+A.length) - 1) s0 r0 q (by omega) (by omega) (by omega) (by omega)
  (fun t y z _ _ hy hz=>⟨c z y,hcmp z y g,fun h=>(hq t).2 ⟨y,z,hy,hz,h⟩,fun hh=>by
   obtain ⟨y',z',h1,h2,h3⟩:=(hq t).1 hh
   rw [hy] at h1;rw [hz] at h2;injection h1 with h1;injection h2 with h2;rw [h1,h2];exact h3⟩) _ _ _ fun k b1 b2 b3 k1 k2 k3 k4=>?_
 have hkA:k - P.length≤A.length:=by omega
 have hkB:mid - k≤B.length:=by omega
 have la:(A.take (k - P.length)).length=k - P.length:=by simp;omega
 have lb:(B.take (mid - k)).length=mid - k:=by simp;omega
 refine K k b1 b2 b3 (A.take (k - P.length)) (A.drop (k - P.length)) (B.take (mid - k)) (B.drop (mid - k)) (List.take_append_drop _ _).symm (List.take_append_drop _ _).symm (by omega) (by omega) ?_ ?_
 ·rcases k3 with k3 | k3
  ·rcases hs with ⟨h1,h2,h3⟩ | ⟨h1,h2,h3⟩
   ·right;left
    exact List.drop_eq_nil_of_le (by omega)
   ·left
    apply List.eq_nil_of_length_eq_zero
    omega
  ·by_cases hk0:k=P.length
   ·left;apply List.eq_nil_of_length_eq_zero;omega
   ·right
    by_cases hk1:B.length≤mid - k
    ·left;exact List.drop_eq_nil_of_le hk1
    ·right
     obtain ⟨y,z,hy,hz,hlt⟩:=(hq _).1 k3
     rw [gA _ (by omega) (by omega)] at hy
     rw [gB _ (by omega) (by omega)] at hz
     obtain ⟨r,hr⟩:=a6U (A:=A) (t:=k - P.length) (y:=y) (by omega) (by rw [← hy];congr 1;omega)
     obtain ⟨s,hs'⟩:=a4K (A:=B) (t:=mid - k) (y:=z) (by rw [← hz];congr 1;omega)
     exact ⟨y,z,r,s,hr,hs',hlt⟩
 ·by_cases hk0:k=P.length+A.length
  ·left;exact List.drop_eq_nil_of_le (by omega)
  ·right
   by_cases hk1:mid - k=0
   ·left;rw [hk1];rfl
   ·right
    rcases k4 with k4 | k4
    ·omega
    ·obtain ⟨y,hy⟩:∃ y,A[k - P.length]?=some y:=⟨_,c9W (by omega)⟩
     obtain ⟨z,hz⟩:∃ z,B[mid - k - 1]?=some z:=⟨_,c9W (by omega)⟩
     obtain ⟨r,hr⟩:=a6U (A:=B) (t:=mid - k) (y:=z) (by omega) hz
     obtain ⟨s,hs'⟩:=a4K (A:=A) (t:=k - P.length) (y:=y) hy
     refine ⟨y,z,r,s,hr,hs',Classical.byContradiction fun h=>k4 ((hq _).2 ⟨y,z,?_,?_,h⟩)⟩
     ·rw [gA _ (by omega) (by omega)];exact hy
     ·rw [gB _ (by omega) (by omega),← hz];congr 1;omega
theorem c1r {c:Rw→Rw→Int} {S Pre:Rw→Rw→Prop} (od:SOrd c S Pre) {cmp:D} (hcmp:a6c cmp c) {o N n:Nat} (hN:N≤1000000000) (ih:a9C c S Pre cmp o N n)
  {g:Hp} {P A B Q:List Rw} {a m b:Int} (hn:A.length+B.length≤n+1) (hlen:(P++A++B++Q).length=N) (hA:0<A.length) (hB:0<B.length) (sA:A.Pairwise S) (sB:B.Pairwise S) (hp:∀ x∈A,∀ y∈B,Pre x y)
  (ho:g[o]?=some (.row a0k 3 ((P++A++B++Q).map a0C))) (ha:a=(P.length:Nat)) (hm:m=(P.length+A.length:Nat)) (hb:b=(P.length+A.length+B.length:Nat)) :
  Wp (a3G (.msl 3 o 0 N) (.int .i64 a) (.int .i64 m) (.int .i64 b) cmp g) fun p=>∃ C:List Rw,C.Perm (A++B)∧C.Pairwise S∧p.2[o]?=some (.row a0k 3 ((P++C++Q).map a0C))∧Same o g p.2:=by
 have hl:=hlen
 simp only [c9M] at hl
 obtain ⟨mid,hmid⟩:∃ mid:Nat,mid=(P.length+(P.length+A.length+B.length)) / 2:=⟨_,rfl⟩
 obtain ⟨mm,hmm⟩:∃ mm:Nat,mm=P.length+A.length:=⟨_,rfl⟩
 obtain ⟨bb,hbb⟩:∃ bb:Nat,bb=P.length+A.length+B.length:=⟨_,rfl⟩
 rw [← hmm] at hm
 rw [← hbb] at hb
 subst ha hm hb
 obtain ⟨u1,u2,u3,u4⟩:=@a3X P.length bb (by omega) (by omega)
 rw [← show mid=(P.length+bb) / 2 by rw [hmid,hbb]] at u3 u4
 have w1:IntKind.wrap .i64 ((mid:Int)+(mm:Int))=((mid+mm:Nat):Int):=by rw [wrap_i64 (by omega) (by omega)];omega
 have w2:IntKind.wrap .i64 (((mid+mm:Nat):Int) - 1)=((mid+(P.length+A.length) - 1:Nat):Int):=by rw [wrap_i64 (by omega) (by omega)];omega
 simp only [a3G,bs,c9H,a0q,u1,a2I,u2,a2k,show ¬ (1:Int)<0 by omega,if_false,u3,a2H,u4,w1,a1m]
 refine Wp.join (P:=fun r=>r.1 = .nrm∧r.2.2=g∧∃ s0 r0:Nat,r.2.1=[.int .i64 (s0:Int),.int .i64 (r0:Int)]∧((P.length+A.length>mid∧s0+B.length=mid∧r0=mid)∨(P.length+A.length≤mid∧s0=P.length∧r0=P.length+A.length))) ?_ ?_ ?_
 ·intro h0
  have h0:mid<mm:=by
   have:(mm:Int)>(mid:Int):=by simpa using h0
   omega
  have w3:IntKind.wrap .i64 (((mid+mm:Nat):Int) - (bb:Int))=((mid - B.length:Nat):Int):=by rw [wrap_i64 (by omega) (by omega)];omega
  simp only [a0G,w3,bs]
  exact .some ⟨rfl,rfl,mid - B.length,mid,rfl,.inl ⟨by omega,by omega,rfl⟩⟩
 ·intro h0
  have h0:¬ mid<mm:=by
   have:¬ (mm:Int)>(mid:Int):=by simpa using h0
   omega
  exact .some ⟨rfl,rfl,P.length,mm,rfl,.inr ⟨by omega,rfl,hmm⟩⟩
 rintro ⟨ex,ds,g'⟩ ⟨rfl,q2,s0,r0,rfl,hs⟩
 simp only at q2
 subst q2
 simp only [a0l,a0G,w2,bs,a0e,a0g,c9H]
 refine b7e hN hlen hA hB ho cmp c hcmp mid s0 r0 hmid hs _ rfl _ _ _ fun k b1 b2 b3 A1 A2 B1 B2 eA eB ek em h1 h2=>?_
 subst eA eB
 simp only [c9M] at *
 have w4:IntKind.wrap .i64 (((mid+mm:Nat):Int) - (k:Int))=((mm+B1.length:Nat):Int):=by rw [wrap_i64 (by omega) (by omega)];omega
 simp only [a0m,a0l,bs,a0e,a0g,c9H,a0G,w4,a0n,a4b]
 rw [List.pairwise_append] at sA sB
 -- the rotation
 refine Wp.bind (P:=fun r=>r.1 = .nrm∧r.2.2[o]?=some (.row a0k 3 ((P++A1++B1++A2++B2++Q).map a0C))∧Same o g' r.2.2) ?_ ?_
 ·by_cases c1:0<A2.length
  ·have d1:decide ((k:Int)<(mm:Int))=true:=decide_eq_true (by omega)
   by_cases c2:0<B1.length
   ·have d2:decide ((mm:Int)<((mm+B1.length:Nat):Int))=true:=decide_eq_true (by omega)
    simp only [d1,d2,Bool.and_self,a0f,if_true]
    refine c5q (P:=P++A1) (U:=A2) (V:=B1) (Q:=B2++Q) hN (by simp only [c9M];omega) c1 c2 (by rw [ho];simp [-bind_some]) cmp _ _ _ (by simp only [c9M];omega) (by simp only [c9M];omega) (by simp only [c9M];omega) fun g1 p1 s1=>?_
    exact .some ⟨rfl,by simp only [p1];simp [-bind_some],s1⟩
   ·have e2:B1=[]:=List.eq_nil_of_length_eq_zero (by omega)
    subst e2
    have d2:decide ((mm:Int)<((mm+([]:List Rw).length:Nat):Int))=false:=decide_eq_false (by simp)
    simp only [d1,d2,Bool.and_false,a0f,c9I,if_false]
    exact .some ⟨rfl,by simp only [ho];simp [-bind_some],.refl _ _⟩
  ·have e2:A2=[]:=List.eq_nil_of_length_eq_zero (by omega)
   subst e2
   have d1:decide ((k:Int)<(mm:Int))=false:=decide_eq_false (by simp only [c9Z] at *;omega)
   simp only [d1,Bool.false_and,a0f,c9I,if_false]
   exact .some ⟨rfl,by simp only [ho];simp [-bind_some],.refl _ _⟩
 rintro ⟨ex,ds,g1⟩ ⟨rfl,p1,s1⟩
 simp only [a0l,bs,c9H,a0n,a4b]
 -- the first half
 refine Wp.bind (P:=fun r=>r.1 = .nrm∧∃ C1:List Rw,C1.Perm (A1++B1)∧C1.Pairwise S∧r.2.2[o]?=some (.row a0k 3 ((P++C1++(A2++B2++Q)).map a0C))∧Same o g' r.2.2) ?_ ?_
 ·by_cases c1:0<A1.length
  ·have d1:decide (((P.length:Nat):Int)<(k:Int))=true:=decide_eq_true (by omega)
   by_cases c2:0<B1.length
   ·have d2:decide ((k:Int)<(mid:Int))=true:=decide_eq_true (by omega)
    simp only [d1,d2,Bool.and_self,a0f,if_true]
    refine Wp.bind (ih g1 P A1 B1 (A2++B2++Q) _ _ _ (by omega) (by simp only [c9M];omega) c1 c2 sA.1 sB.1 (fun x hx y hy=>hp x (by simp [-bind_some, hx]) y (by simp [-bind_some, hy])) (by rw [p1];simp [-bind_some]) rfl (by omega) (by omega)) ?_
    rintro ⟨d,g2⟩ ⟨C,q1,q2,q3,q4⟩
    exact .some ⟨rfl,C,q1,q2,q3,s1.trans q4⟩
   ·have e2:B1=[]:=List.eq_nil_of_length_eq_zero (by omega)
    subst e2
    have d2:decide ((k:Int)<(mid:Int))=false:=decide_eq_false (by simp only [c9Z] at *;omega)
    simp only [d1,d2,Bool.and_false,a0f,c9I,if_false]
    exact .some ⟨rfl,A1,by simp,sA.1,by simp only [p1];simp [-bind_some],s1⟩
  ·have e2:A1=[]:=List.eq_nil_of_length_eq_zero (by omega)
   subst e2
   have d1:decide (((P.length:Nat):Int)<(k:Int))=false:=decide_eq_false (by simp only [c9Z] at *;omega)
   simp only [d1,Bool.false_and,a0f,c9I,if_false]
   exact .some ⟨rfl,B1,by simp,sB.1,by simp only [p1];simp [-bind_some],s1⟩
 rintro ⟨ex,ds,g2⟩ ⟨rfl,C1,r1,r2,p2,s2⟩
 have lC1:C1.length=A1.length+B1.length:=by rw [r1.length_eq];simp [-bind_some]
 simp only [a0l,bs,c9H,a0n,a4b]
 -- the second half
 refine Wp.bind (P:=fun r=>r.1 = .nrm∧∃ C2:List Rw,C2.Perm (A2++B2)∧C2.Pairwise S∧r.2.2[o]?=some (.row a0k 3 ((P++(C1++C2)++Q).map a0C))∧Same o g' r.2.2) ?_ ?_
 ·by_cases c1:0<A2.length
  ·have d1:decide ((mid:Int)<((mm+B1.length:Nat):Int))=true:=decide_eq_true (by omega)
   by_cases c2:0<B2.length
   ·have d2:decide (((mm+B1.length:Nat):Int)<(bb:Int))=true:=decide_eq_true (by omega)
    simp only [d1,d2,Bool.and_self,a0f,if_true]
    refine Wp.bind (ih g2 (P++C1) A2 B2 Q _ _ _ (by omega) (by simp only [c9M];omega) c1 c2 sA.2.1 sB.2.1 (fun x hx y hy=>hp x (by simp [-bind_some, hx]) y (by simp [-bind_some, hy])) (by rw [p2];simp [-bind_some]) (by simp only [c9M];omega) (by simp only [c9M];omega) (by simp only [c9M];omega)) ?_
    rintro ⟨d,g3⟩ ⟨C,q1,q2,q3,q4⟩
    exact .some ⟨rfl,C,q1,q2,by rw [q3];simp [-bind_some],s2.trans q4⟩
   ·have e2:B2=[]:=List.eq_nil_of_length_eq_zero (by omega)
    subst e2
    have d2:decide (((mm+B1.length:Nat):Int)<(bb:Int))=false:=decide_eq_false (by simp only [c9Z] at *;omega)
    simp only [d1,d2,Bool.and_false,a0f,c9I,if_false]
    exact .some ⟨rfl,A2,by simp,sA.2.1,by simp only [p2];simp [-bind_some],s2⟩
  ·have e2:A2=[]:=List.eq_nil_of_length_eq_zero (by omega)
   subst e2
   have d1:decide ((mid:Int)<((mm+B1.length:Nat):Int))=false:=decide_eq_false (by simp only [c9Z] at *;omega)
   simp only [d1,Bool.false_and,a0f,c9I,if_false]
   exact .some ⟨rfl,B2,by simp,sB.2.1,by simp only [p2];simp [-bind_some],s2⟩
 rintro ⟨ex,ds,g3⟩ ⟨rfl,C2,r3,r4,p3,s3⟩
 simp only [a1F,bs]
 obtain ⟨v1,v2⟩:=b6g od (List.pairwise_append.2 sA) (List.pairwise_append.2 sB) hp h1 h2 r1 r2 r3 r4
 exact .some ⟨C1++C2,v1,v2,p3,s3⟩
theorem b8s {c:Rw→Rw→Int} {S Pre:Rw→Rw→Prop} (od:SOrd c S Pre) {cmp:D} (hcmp:a6c cmp c) {o N:Nat} (hN:N≤1000000000):∀ n,a9C c S Pre cmp o N n
 | 0=>fun g P A B Q a m b h0 _ h1=>by omega
 | n + 1 => fun g P A B Q a m b h0 hlen hA hB sA sB hp ho ha hm hb=>by
  have ih:=b8s od hcmp (o:=o) hN n
  have hl:=hlen
  simp only [c9M] at hl
  by_cases c1:A.length=1
  ·obtain ⟨x,rfl⟩:=List.length_eq_one_iff.1 c1
   have := c1p (g:=g) (o:=o) (N:=N) (P:=P) (B:=B) (Q:=Q) (x:=x) hN (by simpa using hlen) (by simpa using ho) cmp c hcmp a m b ha (by rw [hm];rfl) (by rw [hb];rfl) (f:=some) (R1:=fun p=>∃ C:List Rw,C.Perm ([x]++B)∧C.Pairwise S∧p.2[o]?=some (.row a0k 3 ((P++C++Q).map a0C))∧Same o g p.2)
    (fun g' B1 B2 e h1 h2 p1 s1 => .some ⟨B1++x::B2,by rw [e];exact List.perm_middle,by
     subst e
     rw [List.pairwise_append] at sB ⊢
     refine ⟨sB.1,List.pairwise_cons.2 ⟨?_,sB.2.1⟩,?_⟩
     ·rcases h2 with rfl | ⟨y,r,rfl,hy⟩
      ·intro z hz;cases hz
      ·have hxy:=od.ge x y (hp x (by simp) y (by simp)) hy
       intro z hz
       rcases d0c.1 hz with rfl | hz
       ·exact hxy
       ·exact od.tr _ _ _ hxy ((List.pairwise_cons.1 sB.2.1).1 z hz)
     ·have hx1:∀ u∈B1,S u x:=by
        rcases h1 with rfl | ⟨y,r,rfl,hy⟩
        ·intro z hz;cases hz
        ·have hyx:=od.lt x y (hp x (by simp) y (by simp)) hy
         intro z hz
         rcases d0d.1 hz with hz | hz
         ·exact od.tr _ _ _ ((List.pairwise_append.1 sB.1).2.2 z hz y (by simp)) hyx
         ·simp at hz;subst hz;exact hyx
      intro u hu v hv
      rcases d0c.1 hv with rfl | hv
      ·exact hx1 u hu
      ·exact sB.2.2 u hu v hv,by rw [p1],s1⟩)
   rwa [show ∀ x:Option (D × Hp),x.bind some=x from fun x=>by cases x <;> rfl] at this
  ·by_cases c2:B.length=1
   ·obtain ⟨x,rfl⟩:=List.length_eq_one_iff.1 c2
    have:=c1q (g:=g) (o:=o) (N:=N) (P:=P) (A:=A) (Q:=Q) (x:=x) hN (by simpa using hlen) c1 (by simpa using ho) cmp c hcmp a m b ha (by rw [hm]) (by rw [hb];rfl) (f:=some) (R1:=fun p=>∃ C:List Rw,C.Perm (A++[x])∧C.Pairwise S∧p.2[o]?=some (.row a0k 3 ((P++C++Q).map a0C))∧Same o g p.2)
     (fun g' A1 A2 e h1 h2 p1 s1 => .some ⟨A1++x::A2,by rw [e];exact List.perm_middle.trans (by simpa using (List.perm_append_comm (l₁:=[x]) (l₂:=A1++A2))),b3s od (by rw [← e];exact sA) (fun y hy=>hp y (by rw [e];exact hy) x (by simp)) h2 h1,by rw [p1],s1⟩)
    rwa [show ∀ x:Option (D × Hp),x.bind some=x from fun x=>by cases x <;> rfl] at this
   ·have r:=c1r od hcmp hN ih h0 hlen hA hB sA sB hp ho ha hm hb
    rw [b7i]
    have v1:IntKind.wrap .i64 (m - a)=(A.length:Int):=by rw [hm,ha,wrap_i64 (by omega) (by omega)];omega
    have v2:IntKind.wrap .i64 (b - m)=(B.length:Int):=by rw [hm,hb,wrap_i64 (by omega) (by omega)];omega
    have d1:decide ((A.length:Int)=1)=false:=decide_eq_false (by omega)
    have d2:decide ((B.length:Int)=1)=false:=decide_eq_false (by omega)
    simp only [b4a,a3F,bs,a0G,v1,v2,a0U,d1,d2,a0f,c9I,if_false]
    exact r
theorem b2O {c:Rw→Rw→Int} {S Pre:Rw→Rw→Prop} (od:SOrd c S Pre) {cmp:D} (hcmp:a6c cmp c) {o N:Nat} (hN:N≤1000000000) {g:Hp} {P A Q:List Rw} (hlen:(P++A++Q).length=N) (hA:A.Pairwise Pre)
  (ho:g[o]?=some (.row a0k 3 ((P++A++Q).map a0C))) (a b:Int) (ha:a=P.length) (hb:b=(P.length+A.length:Nat)) :
  Wp (R a4Z [.msl 3 o 0 N,.int .i64 a,.int .i64 b,cmp] g) fun p=>∃ C:List Rw,C.Perm A∧C.Pairwise S∧p.2[o]?=some (.row a0k 3 ((P++C++Q).map a0C))∧Same o g p.2:=by
 subst ha hb
 have hl:=hlen
 simp only [c9M] at hl
 obtain ⟨d,h',e,p1,s1⟩:=c4N c cmp hcmp o N P.length (P.length+A.length) hN (by omega) (by omega) _ hlen g ho
 refine ⟨(d,h'),e,?_⟩
 cases A with
 | nil =>
  refine ⟨[],by simp,List.Pairwise.nil,?_,s1⟩
  rw [p1]
  simp [-bind_some, isr]
 | cons x A =>
  obtain ⟨C,q1,q2,q3⟩:=b2P od P Q A [x] (by simp) (fun u hu v hv=>by simp at hu;subst hu;exact (List.pairwise_cons.1 hA).1 v hv) (List.pairwise_cons.1 hA).2
  refine ⟨C,q2,q3,?_,s1⟩
  rw [p1]
  have e1:P.length+(x::A).length - (P.length+1)=A.length:=by simp;omega
  rw [e1]
  have e2:P++x::A++Q=P++[x]++A++Q:=by simp
  rw [e2]
  exact congrArg (fun z:List Rw=>some (Ob.row a0k 3 (z.map a0C))) q1
theorem c5p {c:Rw→Rw→Int} {S Pre:Rw→Rw→Prop} (od:SOrd c S Pre) {cmp:D} (hcmp:a6c cmp c) {o N:Nat} (hN:N≤1000000000) {g:Hp} {l:List Rw} (hl:l.length=N) (hpre:l.Pairwise Pre)
  (ho:g[o]?=some (.row a0k 3 (l.map a0C))):Wp (R b0d [.msl 3 o 0 N,.int .i64 N,cmp] g) fun p=>∃ C:List Rw,C.Perm l∧C.Pairwise S∧p.2[o]?=some (.row a0k 3 (C.map a0C))∧Same o g p.2:=by
 rw [c0m]
 simp only [b6H,bs,c9H]
 refine Wp.loop (fun n ds g'=>∃ u,∃ X Y:List Rw,ds=[.int .i64 (X.length:Nat),.int .i64 ((X.length+20:Nat):Int),u]∧n=Y.length∧(X++Y).Perm l∧Y.Pairwise Pre∧CtxB S Pre 20 X Y∧g'[o]?=some (.row a0k 3 ((X++Y).map a0C))∧Same o g g')
  (fun r=>r.1 = .ext 0∧∃ u,∃ X Y:List Rw,r.2.1=[.int .i64 (X.length:Nat),.int .i64 ((X.length+20:Nat):Int),u]∧Y.length<20∧(X++Y).Perm l∧Y.Pairwise Pre∧CtxB S Pre 20 X Y∧r.2.2[o]?=some (.row a0k 3 ((X++Y).map a0C))∧Same o g r.2.2)
  l.length ⟨_,[],l,rfl,rfl,by simp,hpre,CtxB.nil,by simpa using ho,.refl _ _⟩ ?_ ?_
 ·rintro n ds g' ⟨u,X,Y,rfl,rfl,hp,hY,hc,ho',sm⟩
  have hXY:X.length+Y.length=N:=by rw [← hl,← hp.length_eq];simp [-bind_some]
  simp only [a6d,a0e,a0g,bs,c9H,a2t]
  refine Wp.dif ?_ ?_
  ·intro h0
   have h0:20≤Y.length:=by
    have:((X.length+20:Nat):Int)≤(N:Int):=by simpa using h0
    omega
   obtain ⟨A,Y',rfl,hA⟩:∃ A Y',Y=A++Y'∧A.length=20:=⟨Y.take 20,Y.drop 20,(List.take_append_drop _ _).symm,by simp;omega⟩
   obtain ⟨y1,y2,y3⟩:=a8j hY
   simp only [c9M] at hXY h0
   refine Wp.bind (b2O od hcmp hN (P:=X) (A:=A) (Q:=Y') (by simp only [c9M];omega) y1 (by rw [ho'];simp [-bind_some]) _ _ rfl (by omega)) ?_
   rintro ⟨d,g2⟩ ⟨C,q1,q2,q3,q4⟩
   have lC:C.length=20:=by rw [q1.length_eq,hA]
   have w1:IntKind.wrap .i64 (((X.length+20:Nat):Int)+20)=((X.length+20+20:Nat):Int):=by rw [wrap_i64 (by omega) (by omega)];omega
   simp only [a0q,w1,bs]
   have eX:(X++C).length=X.length+20:=by simp [-bind_some, lC]
   refine .some (.inl ⟨rfl,Y'.length,by simp only [c9M];omega,_,X++C,Y',by rw [eX],rfl,?_,y2,hc.step q1 lC q2 y3,q3,sm.trans q4⟩)
   refine List.Perm.trans ?_ hp
   rw [List.append_assoc]
   exact (q1.append_right Y').append_left X
  ·intro h0
   have h0:¬ 20≤Y.length:=by
    have:¬ ((X.length+20:Nat):Int)≤(N:Int):=by simpa using h0
    omega
   exact .some (.inr ⟨by simp,rfl,_,X,Y,rfl,by omega,hp,hY,hc,ho',sm⟩)
 rintro ⟨ex,ds,g1⟩ ⟨rfl,u,X,Y,rfl,hYl,hp,hY,hc,ho1,s1⟩
 have hXY:X.length+Y.length=N:=by rw [← hl,← hp.length_eq];simp [-bind_some]
 simp only [a0m,a0l,a0e,a0g,bs]
 refine Wp.bind (b2O od hcmp hN (P:=X) (A:=Y) (Q:=[]) (by simp only [c9M,c9Z];omega) hY (by simpa using ho1) _ _ rfl (by omega)) ?_
 rintro ⟨d,g2⟩ ⟨C,q1,q2,q3,q4⟩
 have bl:Blk S Pre 20 (X++C):=hc.done q1 (by rw [q1.length_eq];omega) q2
 have hpZ:(X++C).Perm l:=(q1.append_left X).trans hp
 have q3:g2[o]?=some (.row a0k 3 ((X++C).map a0C)):=by simpa using q3
 have s2:Same o g g2:=s1.trans q4
 generalize X++C=Z at bl hpZ q3
 clear q1 q2 hc hY ho1 s1 q4
 simp only [bs,c9H]
 refine Wp.loop (fun n ds g'=>∃ u1 u2 u3 u4 u5 u6,∃ k:Nat,∃ Z:List Rw,ds=[.int .i64 (k:Int),u1,u2,u3,u4,u5,u6]∧n=N - k∧0<k∧k≤2000000000∧Z.Perm l∧Blk S Pre k Z∧g'[o]?=some (.row a0k 3 (Z.map a0C))∧Same o g g')
  (fun r=>r.1 = .ext 2∧∃ u1 u2 u3 u4 u5 u6 u7,r.2.1=[u1,u2,u3,u4,u5,u6,u7]∧∃ Z:List Rw,Z.Perm l∧Z.Pairwise S∧r.2.2[o]?=some (.row a0k 3 (Z.map a0C))∧Same o g r.2.2)
  (N - 20) ⟨_,_,_,_,_,_,20,Z,rfl,rfl,by omega,by omega,hpZ,bl,q3,s2⟩ ?_ ?_
 ·clear q3 s2 bl hpZ Z hXY hp
  rintro n ds g3 ⟨u1,u2,u3,u4,u5,u6,k,Z,rfl,rfl,k0,k1,hp,bl,ho3,s3⟩
  have lZ:Z.length=N:=by rw [hp.length_eq,hl]
  simp only [a6e,a0e,a0g,bs,c9H,a0n]
  refine Wp.dif ?_ ?_
  ·intro h0
   have h0:k<N:=by
    have:(k:Int)<(N:Int):=by simpa using h0
    omega
   have w1:IntKind.wrap .i64 ((2:Int)*(k:Int))=((2*k:Nat):Int):=by rw [wrap_i64 (by omega) (by omega)];omega
   simp only [a4I,w1,bs,c9H]
   refine Wp.loop (fun n ds g'=>∃ u,∃ X Y:List Rw,ds=[.int .i64 (X.length:Nat),.int .i64 ((X.length+2*k:Nat):Int),u]∧n=Y.length∧(X++Y).Perm l∧Blk S Pre k Y∧CtxB S Pre (2*k) X Y∧g'[o]?=some (.row a0k 3 ((X++Y).map a0C))∧Same o g g')
    (fun r=>r.1 = .ext 4∧∃ u v,∃ X Y:List Rw,r.2.1=[.int .i64 (X.length:Nat),u,v]∧Y.length<2*k∧(X++Y).Perm l∧Blk S Pre k Y∧CtxB S Pre (2*k) X Y∧r.2.2[o]?=some (.row a0k 3 ((X++Y).map a0C))∧Same o g r.2.2)
    N ⟨u5,[],Z,by simp,lZ.symm,by simpa using hp,bl,CtxB.nil,by simpa using ho3,s3⟩ ?_ ?_
   ·rintro n ds g4 ⟨u,X,Y,rfl,rfl,hp4,bl4,hc4,ho4,s4⟩
    have hXY:X.length+Y.length=N:=by rw [← hl,← hp4.length_eq];simp [-bind_some]
    simp only [a9k,a0e,a0g,bs,c9H,a2t]
    refine Wp.dif ?_ ?_
    ·intro h1
     have h1:2*k≤Y.length:=by
      have:((X.length+2*k:Nat):Int)≤(N:Int):=by simpa using h1
      omega
     obtain ⟨A,Y1,rfl,lA,sA,pA,bY1⟩:=bl4.fst (by omega)
     simp only [c9M] at hXY h1
     obtain ⟨B,Y2,rfl,lB,sB,pB,bY2⟩:=bY1.fst (by omega)
     simp only [c9M] at hXY h1
     have w2:IntKind.wrap .i64 ((X.length:Int)+(k:Int))=((X.length+A.length:Nat):Int):=by rw [wrap_i64 (by omega) (by omega)];omega
     simp only [a0q,w2,bs,c9H]
     refine Wp.bind (b8s od hcmp hN (A.length+B.length) g4 X A B Y2 _ _ _ (Nat.le_refl _) (by simp only [c9M];omega) (by omega) (by omega) sA sB (fun x hx y hy=>pA x hx y (by simp [-bind_some, hy])) (by rw [ho4];simp [-bind_some]) rfl rfl (by omega)) ?_
     rintro ⟨d,g5⟩ ⟨C,q1,q2,q3,q4⟩
     have lC:C.length=2*k:=by rw [q1.length_eq,c9M];omega
     have w3:IntKind.wrap .i64 (((X.length+2*k:Nat):Int)+((2*k:Nat):Int))=((X.length+2*k+2*k:Nat):Int):=by rw [wrap_i64 (by omega) (by omega)];omega
     simp only [a4I,a0q,w1,w3,bs]
     have eX:(X++C).length=X.length+2*k:=by simp [-bind_some, lC]
     refine .some (.inl ⟨rfl,Y2.length,by simp only [c9M];omega,_,X++C,Y2,by rw [eX],rfl,?_,bY2,CtxB.step (A:=A++B) (by rw [List.append_assoc];exact hc4) q1 lC q2 (fun x hx y hy=>?_),q3,s4.trans q4⟩)
     ·refine List.Perm.trans ?_ hp4
      rw [List.append_assoc,← List.append_assoc A B Y2]
      exact (q1.append_right Y2).append_left X
     ·rcases d0d.1 hx with hx | hx
      ·exact pA x hx y (by simp [-bind_some, hy])
      ·exact pB x hx y hy
    ·intro h1
     have h1:¬ 2*k≤Y.length:=by
      have:¬ ((X.length+2*k:Nat):Int)≤(N:Int):=by simpa using h1
      omega
     exact .some (.inr ⟨by simp,rfl,_,_,X,Y,rfl,by omega,hp4,bl4,hc4,ho4,s4⟩)
   rintro ⟨ex,ds,g4⟩ ⟨rfl,u,v,X,Y,rfl,hYl,hp4,bl4,hc4,ho4,s4⟩
   have hXY:X.length+Y.length=N:=by rw [← hl,← hp4.length_eq];simp [-bind_some]
   have w2:IntKind.wrap .i64 ((X.length:Int)+(k:Int))=((X.length+k:Nat):Int):=by rw [wrap_i64 (by omega) (by omega)];omega
   have w4:IntKind.wrap .i64 ((k:Int)*2)=((2*k:Nat):Int):=by rw [wrap_i64 (by omega) (by omega)];omega
   simp only [a0m,a0l,a0e,a0g,bs,a0q,w2,a0n,c9H]
   refine Wp.bind (P:=fun r=>r.1 = .nrm∧∃ Z:List Rw,Z.Perm l∧Blk S Pre (2*k) Z∧r.2.2[o]?=some (.row a0k 3 (Z.map a0C))∧Same o g r.2.2) ?_ ?_
   ·by_cases hm:X.length+k<N
    ·have d1:decide (((X.length+k:Nat):Int)<(N:Int))=true:=decide_eq_true (by omega)
     obtain ⟨A,B,rfl,lA,sA,pA,bB⟩:=bl4.fst (by omega)
     simp only [c9M] at hXY hYl
     have sB:B.Pairwise S:=bB.all (by omega)
     simp only [d1,a0f,if_true]
     refine Wp.bind (b8s od hcmp hN (A.length+B.length) g4 X A B [] _ _ _ (Nat.le_refl _) (by simp only [c9M,c9Z];omega) (by omega) (by omega) sA sB pA (by rw [ho4];simp [-bind_some]) rfl (by omega) (by omega)) ?_
     rintro ⟨d,g5⟩ ⟨C,q1,q2,q3,q4⟩
     refine .some ⟨rfl,X++C,(q1.append_left X).trans hp4,hc4.done q1 (by rw [q1.length_eq,c9M];omega) q2,by simpa using q3,s4.trans q4⟩
    ·have d1:decide (((X.length+k:Nat):Int)<(N:Int))=false:=decide_eq_false (by omega)
     simp only [d1,a0f,c9I,if_false]
     exact .some ⟨rfl,X++Y,hp4,hc4.done (List.Perm.refl _) (by omega) (bl4.all (by omega)),ho4,s4⟩
   rintro ⟨ex,ds,g5⟩ ⟨rfl,Z2,hp5,bl5,ho5,s5⟩
   simp only [a0l,bs,w4]
   exact .some (.inl ⟨rfl,N - 2*k,by omega,_,_,_,_,_,_,2*k,Z2,rfl,rfl,by omega,by omega,hp5,bl5,ho5,s5⟩)
  ·intro h0
   have h0:¬ k<N:=by
    have:¬ (k:Int)<(N:Int):=by simpa using h0
    omega
   exact .some (.inr ⟨by simp,rfl,_,_,_,_,_,_,_,rfl,Z,hp,bl.all (by omega),ho3,s3⟩)
 rintro ⟨ex,ds,g3⟩ ⟨rfl,u1,u2,u3,u4,u5,u6,u7,rfl,Z3,hp3,sZ,ho3,s3⟩
 simp only [a0m,a1F,bs]
 exact .some ⟨Z3,hp3,sZ,ho3,s3⟩
def a0Y:List Str→List Str→Int
 | [],[]=>0
 | [],_::_ => -1
 | _::_,[]=>1
 | a::x,b::y=>if a4y a b=0 then a0Y x y else a4y a b
theorem a2W (a b:Str):a4y a b=0↔a=b:=by
 unfold a4y
 by_cases h:Op.bytesLess a b=true
 ·simp only [h,if_true]
  constructor
  ·intro h;cases h
  ·rintro rfl;rw [a5y] at h;cases h
 ·by_cases h2:a=b <;> simp [-bind_some, h,h2,a5y]
theorem b4E (a b:Str):a4y b a = - a4y a b:=by
 unfold a4y
 by_cases h:Op.bytesLess a b=true
 ·have h2:Op.bytesLess b a=false:=by
    cases hh:Op.bytesLess b a
    ·rfl
    ·have:=b6U h hh;rw [a5y] at this;cases this
  have h3:¬ b=a:=by rintro rfl;rw [a5y] at h;cases h
  simp [-bind_some, h,h2,h3]
 ·have h:Op.bytesLess a b=false:=by simpa using h
  by_cases h2:a=b
  ·subst h2;simp [-bind_some, h]
  ·have:=b5R h h2
   simp [-bind_some, h,h2,this]
theorem b6Z (a b:Str):a4y a b<0↔Op.bytesLess a b=true:=by
 unfold a4y
 by_cases h:Op.bytesLess a b=true
 ·simp [-bind_some, h]
 ·by_cases h2:a=b <;> simp [-bind_some, h,h2,a5y]
theorem b7a {a b c:Str} (h:a4y a b<0) (k:a4y b c<0):a4y a c<0:=by
 rw [b6Z] at *
 exact b6U h k
theorem a1G:∀ (x y:List Str),a0Y x y=0↔x=y
 | [],[]=>by simp [-bind_some, a0Y]
 | [],_::_=>by simp [-bind_some, a0Y]
 | _::_,[]=>by simp [-bind_some, a0Y]
 | a::x,b::y=>by
  have ih:=a1G x y
  unfold a0Y
  by_cases h:a4y a b=0
  ·rw [if_pos h,ih]
   have:=(a2W a b).1 h
   simp [-bind_some, this]
  ·rw [if_neg h]
   have h2:¬ a=b:=fun hh=>h ((a2W a b).2 hh)
   simp [-bind_some, h,h2]
theorem a1Q:∀ (x y:List Str),a0Y y x = - a0Y x y
 | [],[]=>rfl
 | [],_::_=>rfl
 | _::_,[]=>rfl
 | a::x,b::y=>by
  have ih:=a1Q x y
  unfold a0Y
  rw [b4E a b]
  by_cases h:a4y a b=0
  ·rw [if_pos h,if_pos (by omega),ih]
  ·rw [if_neg h,if_neg (by omega)]
theorem a4h:∀ {x y z:List Str},a0Y x y<0→a0Y y z<0→a0Y x z<0
 | [],[],_,h,_=>by simp [-bind_some, a0Y] at h
 | _::_,[],_,h,_=>by simp [-bind_some, a0Y] at h
 | _,_::_,[],_,k=>by simp [-bind_some, a0Y] at k
 | [],_::_,_::_,_,_=>by simp [-bind_some, a0Y]
 | a::x,b::y,c::z,h,k=>by
  unfold a0Y at h k ⊢
  by_cases h1:a4y a b=0
  ·rw [if_pos h1] at h
   have e:=(a2W a b).1 h1
   subst e
   by_cases k1:a4y a c=0
   ·rw [if_pos k1] at k ⊢
    exact a4h h k
   ·rw [if_neg k1] at k ⊢
    exact k
  ·rw [if_neg h1] at h
   by_cases k1:a4y b c=0
   ·have e:=(a2W b c).1 k1
    subst e
    rw [if_neg h1];exact h
   ·rw [if_neg k1] at k
    have:=b7a h k
    rw [if_neg (by omega)]
    exact this
theorem a5l (s:Str) (h:Hp):a0c tab h ty9 (.fptr [.str s])=some (.str s):=id rfl
theorem a1u {α:Type} {l:List α} {i:Nat} {x:α} (h:l[i]?=some x):l.drop i=x::l.drop (i+1):=by
 obtain ⟨hn,hh⟩:=c9X.1 h
 rw [List.drop_eq_getElem_cons hn,hh]
theorem c4K (x y:List Str) (dx dy:D) (h:Hp) (hx:SlOf 1 (fun s=>[D.str s]) x dx) (hy:SlOf 1 (fun s=>[D.str s]) y dy) (hl:x.length≤1000000) (hl2:y.length≤1000000):R b2s [dx,dy] h=some (.int .i64 (a0Y x y),h):=by
 apply Wp.val
 rw [c2T]
 simp only [b9l,bs,c9H,a2c hx]
 generalize hV:a0Y x y=V
 refine Wp.loop (fun k ds g=>g=h∧∃ a b c d e f1 f2 f3,∃ i:Nat,ds=[a,b,c,d,e,.int .i64 i,f1,f2,f3]∧k+i=x.length∧i≤y.length∧a0Y (x.drop i) (y.drop i)=V)
  (fun r=>r.2.2=h∧((r.1 = .ret∧nth 0 r.2.1 = .int .i64 V)∨(r.1 = .ext 0∧x.length≤y.length∧V=if x.length<y.length then -1 else 0))) x.length ⟨rfl,_,_,_,_,_,_,_,_,0,rfl,by omega,by omega,hV⟩ ?_ ?_
 ·rintro k ds g ⟨rfl,a,b,c,d,e,f1,f2,f3,i,rfl,hk,hi,hV⟩
  simp only [a9l,a0e,a0g,bs,c9H,a0n]
  refine Wp.dif ?_ ?_
  ·intro h0
   have h0:i<x.length:=dl_ h0
   obtain ⟨u,hu⟩:=gx_ h0
   have hw:=wi_ i (by omega)
   simp only [a6S hx,a6S hy,Int.natCast_nonneg,if_true,c9Q,hu,Option.map_some,bs,a5l,a2c hy,a9N]
   rw [a1u hu] at hV
   by_cases h1:i<y.length
   ·obtain ⟨v,hv⟩:=gx_ h1
    have d1:decide ((i:Int)≥(y.length:Int))=false:=decide_eq_false (by omega)
    rw [a1u hv] at hV
    unfold a0Y at hV
    simp only [d1,a0f,c9I,if_false,hv,Option.map_some,bs,a5l,s91,a2u]
    by_cases h2:a4y u v=0
    ·rw [if_pos h2] at hV
     simp only [h2,ne_eq,not_true,decide_false,a0f,c9I,if_false,a0q,hw,bs]
     exact .some (.inl ⟨rfl,k - 1,by omega,rfl,_,_,_,_,_,_,_,_,i+1,rfl,by omega,by omega,hV⟩)
    ·rw [if_neg h2] at hV
     simp only [h2,ne_eq,not_false_eq_true,decide_true,a0f,if_true]
     exact .some (.inr ⟨by simp,rfl,.inl ⟨rfl,by rw [← hV];rfl⟩⟩)
   ·have d1:decide ((i:Int)≥(y.length:Int))=true:=decide_eq_true (by omega)
    rw [List.drop_of_length_le (show y.length≤i by omega)] at hV
    simp only [d1,a0f,if_true]
    exact .some (.inr ⟨by simp,rfl,.inl ⟨rfl,by rw [← hV];rfl⟩⟩)
  ·intro h0
   have h0:i=x.length:=by
    have:¬ (i:Int)<x.length:=by simpa using h0
    omega
   subst h0
   refine .some (.inr ⟨by simp,rfl,.inr ⟨rfl,hi,?_⟩⟩)
   rw [List.drop_length] at hV
   rw [← hV]
   by_cases h1:x.length<y.length
   ·obtain ⟨v,hv⟩:∃ v,y[x.length]?=some v:=⟨_,c9W h1⟩
    rw [a1u hv,if_pos h1];rfl
   ·rw [List.drop_of_length_le (by omega),if_neg h1];rfl
 ·rintro ⟨ex,ds,g⟩ ⟨h1,h2⟩
  simp only at h1 h2
  subst h1
  rcases h2 with ⟨rfl,hn⟩ | ⟨rfl,hle,hv⟩
  ·simp only [a3j,a3i,a2Y,a0e,a0g,bs,hn,a0r]
   exact .some rfl
  ·simp only [a0m,a0l,bs,a2c hx,a2c hy,a0n]
   subst hv
   by_cases h1:x.length<y.length
   ·have d1:decide ((x.length:Int)<(y.length:Int))=true:=decide_eq_true (by omega)
    simp only [d1,a0f,if_true,h1,a0r]
    exact .some rfl
   ·have d1:decide ((x.length:Int)<(y.length:Int))=false:=decide_eq_false (by omega)
    simp only [d1,a0f,c9I,if_false,h1,a0r]
    exact .some rfl
theorem b3B (x y:List Str) (dx dy:D) (h:Hp) (hx:SlOf 1 (fun s=>[D.str s]) x dx) (hy:SlOf 1 (fun s=>[D.str s]) y dy) (hl:x.length≤1000000) (hl2:y.length≤1000000):R a4Y [dx,dy] h=some (.int .i64 (a0Y x y),h):=by
 rw [c2P]
 simp only [b9h,bs,c4K x y dx dy h hx hy hl hl2,a0r]
theorem c4I (x y:List Str) (dx dy:D) (h:Hp) (hx:SlOf 1 (fun s=>[D.str s]) x dx) (hy:SlOf 1 (fun s=>[D.str s]) y dy) (hl:x.length≤1000000) (hl2:y.length≤1000000):R a5L [dx,dy] h=some (.int .i64 (a0Y x y),h):=by
 apply Wp.val
 rw [c2Q]
 simp only [b9i,bs,c9H]
 generalize hV:a0Y x y=V
 refine Wp.loop (fun k ds g=>g=h∧∃ a b c d,∃ i:Nat,ds=[a,.int .i64 i,b,c,d]∧k+i=x.length∧i≤y.length∧a0Y (x.drop i) (y.drop i)=V)
  (fun r=>r.2.2=h∧((r.1 = .ret∧nth 0 r.2.1 = .int .i64 V)∨(r.1 = .ext 0∧V=if x.length<y.length then -1 else if x.length>y.length then 1 else 0))) x.length ⟨rfl,_,_,_,_,0,rfl,by omega,by omega,hV⟩ ?_ ?_
 ·rintro k ds g ⟨rfl,a,b,c,d,i,rfl,hk,hi,hV⟩
  simp only [a9j,a0e,a0g,bs,c9H,a2c hx,a2c hy,a0n]
  by_cases h0:i<x.length
  ·have d0:decide ((i:Int)<(x.length:Int))=true:=decide_eq_true (by omega)
   obtain ⟨u,hu⟩:=gx_ h0
   have hw:=wi_ i (by omega)
   rw [a1u hu] at hV
   by_cases h1:i<y.length
   ·obtain ⟨v,hv⟩:=gx_ h1
    have d1:decide ((i:Int)<(y.length:Int))=true:=decide_eq_true (by omega)
    rw [a1u hv] at hV
    unfold a0Y at hV
    simp only [d0,a1b,if_true,bs,a2c hx,a2c hy,a0n,d1,a0F,a0f,a6S hx,a6S hy,Int.natCast_nonneg,c9Q,hu,hv,Option.map_some,a5l,a7B,a0n,c6g]
    by_cases h2:Op.bytesLess u v=true
    ·have hc:a4y u v = -1:=by simp [-bind_some, a4y,h2]
     rw [if_neg (by omega),hc] at hV
     simp only [h2,a0f,if_true]
     exact .some (.inr ⟨by simp,rfl,.inl ⟨rfl,by rw [← hV];rfl⟩⟩)
    ·have h2:Op.bytesLess u v=false:=by simpa using h2
     by_cases h3:u=v
     ·subst h3
      rw [if_pos ((a2W u u).2 rfl)] at hV
      simp only [h2,a0f,c9I,if_false,beq_self_eq_true,Bool.or_true,c9R,a0q,hw,bs]
      exact .some (.inl ⟨rfl,k - 1,by omega,rfl,_,_,_,_,i+1,rfl,by omega,by omega,hV⟩)
     ·have hb:(u==v)=false:=by simpa using h3
      have hc:a4y u v=1:=by simp [-bind_some, a4y,h2,h3]
      rw [if_neg (by omega),hc] at hV
      simp only [h2,hb,a0f,c9I,if_false,Bool.or_self,c9S,if_true]
      exact .some (.inr ⟨by simp,rfl,.inl ⟨rfl,by rw [← hV];rfl⟩⟩)
   ·have d1:decide ((i:Int)<(y.length:Int))=false:=decide_eq_false (by omega)
    rw [List.drop_of_length_le (show y.length≤i by omega)] at hV
    simp only [d0,a1b,if_true,bs,a2c hx,a2c hy,a0n,d1,a0F,a0f,c9I,if_false]
    refine .some (.inr ⟨by simp,rfl,.inr ⟨rfl,?_⟩⟩)
    rw [← hV,if_neg (by omega),if_pos (by omega)];rfl
  ·have h0:i=x.length:=by omega
   subst h0
   have d0:decide ((x.length:Int)<(x.length:Int))=false:=decide_eq_false (by omega)
   simp only [d0,a1b,reduceCtorEq,if_false,bs,a0F,a0f,c9I]
   refine .some (.inr ⟨by simp,rfl,.inr ⟨rfl,?_⟩⟩)
   rw [List.drop_length] at hV
   rw [← hV]
   by_cases h1:x.length<y.length
   ·obtain ⟨v,hv⟩:∃ v,y[x.length]?=some v:=⟨_,c9W h1⟩
    rw [a1u hv,if_pos h1];rfl
   ·rw [List.drop_of_length_le (by omega),if_neg h1,if_neg (by omega)];rfl
 ·rintro ⟨ex,ds,g⟩ ⟨h1,h2⟩
  simp only at h1 h2
  subst h1
  rcases h2 with ⟨rfl,hn⟩ | ⟨rfl,hv⟩
  ·simp only [a3j,a3i,a2Y,a0e,a0g,bs,hn,a0r]
   exact .some rfl
  ·simp only [a0m,a0l,bs,a2c hx,a2c hy,a0n,a1m]
   subst hv
   by_cases h1:x.length<y.length
   ·have d1:decide ((x.length:Int)<(y.length:Int))=true:=decide_eq_true (by omega)
    simp only [d1,a0f,if_true,h1,a0r]
    exact .some rfl
   ·have d1:decide ((x.length:Int)<(y.length:Int))=false:=decide_eq_false (by omega)
    by_cases h2:x.length>y.length
    ·have d2:decide ((x.length:Int)>(y.length:Int))=true:=decide_eq_true (by omega)
     simp only [d1,d2,a0f,c9I,if_false,if_true,h1,h2,a0r]
     exact .some rfl
    ·have d2:decide ((x.length:Int)>(y.length:Int))=false:=decide_eq_false (by omega)
     simp only [d1,d2,a0f,c9I,if_false,h1,h2,a0r]
     exact .some rfl
def a5q (r:Rw):Int:=r.n.head?.getD 0
theorem c6e (r:Rw):a0b tab a0k 0 (.fptr (a0C r))=some (.fptr (a0C r)):=id rfl
theorem c4w (r:Rw):a0b tab a0k 1 (.fptr (a0C r))=some (.fptr [r.nd,.int .i64 r.er]):=id rfl
theorem c8Q (r:Rw):a0b tab a0k 2 (.fptr (a0C r))=some (.fptr [.int .i64 r.er]):=id rfl
theorem c6f (r:Rw) (h:Hp):a0c tab h a0E (.fptr (a0C r))=some r.kd:=by
 have h1:=a0T r.hk
 show a0c tab h a0E (.fptr [r.kd,r.nd,.int .i64 r.er])=_
 generalize r.kd=a at h1
 cases a <;> first | rfl | (simp [-bind_some, D.one] at h1)
theorem c4x (r:Rw) (h:Hp):a0c tab h a0V (.fptr [r.nd,.int .i64 r.er])=some r.nd:=by
 have h1:=a0T r.hn
 generalize r.nd=a at h1
 cases a <;> first | rfl | (simp [-bind_some, D.one] at h1)
theorem c8R (r:Rw) (h:Hp):a0c tab h ty3 (.fptr [.int .i64 r.er])=some (.int .i64 r.er):=id rfl
theorem rwL (r:Rw) (h:Hp):a0c tab h a0k (.fptr (a0C r))=some (.agg (a0C r)):=id rfl
theorem c0X (r:Rw):a1H (.agg (a0C r))=some (.fptr (a0C r)):=a1I _
theorem b0v (n:Int) (h:Hp):a0c tab h ty3 (.fptr [.int .i64 n])=some (.int .i64 n):=id rfl
theorem c4H (r:Rw) (h:Hp):R b0c [.agg (a0C r)] h=some (.int .i64 (a5q r),h):=by
 rw [c2O]
 simp only [b9g,c0X,bs,c4w,c4x,a8e r.hn,a0U]
 have hn:=r.hn
 unfold a5q
 cases hq:r.n with
 | nil=>simp only [c9Z,Int.natCast_zero,decide_true,a0f,if_true,a0r,List.head?_nil,Option.getD_none]
 | cons z zs =>
  have d0:decide (((z::zs).length:Int)=0)=false:=decide_eq_false (by simp;omega)
  have hi:=b1a hn 0
  rw [hq] at hi
  simp only [d0,a0f,c9I,if_false,bs,hi,Int.le_refl,if_true,Int.toNat_zero,c9K,Option.map_some,inr,b0v,a0r,List.head?_cons,Option.getD_some]
def cR (x y:Rw):Int:=if a4x (a5q y) (a5q x)=0 then a0Y x.k y.k else a4x (a5q y) (a5q x)
theorem c4G (x y:Rw) (h:Hp):R a7M [.agg (a0C x),.agg (a0C y)] h=some (.int .i64 (cR x y),h):=by
 rw [c2N]
 have hs:SlOf 1 inr [a4x (a5q y) (a5q x),a0Y x.k y.k] (.sl 1 true [[.int .i64 (a4x (a5q y) (a5q x))],[.int .i64 (a0Y x.k y.k)]]) := .inr ⟨true,rfl⟩
 have ho:orI [a4x (a5q y) (a5q x),a0Y x.k y.k]=cR x y:=by
  unfold orI orI orI cR
  split
  ·split
   ·rename_i h2;exact h2.symm
   ·rfl
  ·rfl
 simp only [b9f,c0X,bs,rwL,c4H,s90,c6e,c6f,b3B x.k y.k x.kd y.kd h x.hk y.hk x.hkl y.hkl,b1I,s89 _ _ h hs (by simp),ho,a1l,a0r]
theorem c2n:a6c (.fn (.func a7M) [] []) cR:=fun x y g=>by rw [a1w];exact c4G x y g
def rS (x y:Rw):Prop:=¬ cR y x<0
theorem a3O (a b:Int):a4x a b=0↔a=b:=by
 unfold a4x
 by_cases h:a<b
 ·simp [-bind_some, h];omega
 ·by_cases h2:b<a
  ·simp [-bind_some, h,h2];omega
  ·simp [-bind_some, h,h2];omega
theorem b1Q (a b:Int):a4x a b<0↔a<b:=by
 unfold a4x
 by_cases h:a<b
 ·simp [-bind_some, h]
 ·by_cases h2:b<a
  ·simp [-bind_some, h,h2]
  ·simp [-bind_some, h,h2]
theorem c0a (x y:Rw):cR x y<0↔(a5q y<a5q x∨(a5q x=a5q y∧a0Y x.k y.k<0)):=by
 unfold cR
 by_cases h:a4x (a5q y) (a5q x)=0
 ·rw [if_pos h]
  rw [a3O] at h
  constructor
  ·intro h2;exact .inr ⟨h.symm,h2⟩
  ·rintro (h2 | ⟨_,h2⟩)
   ·omega
   ·exact h2
 ·rw [if_neg h,b1Q]
  rw [a3O] at h
  constructor
  ·intro h2;exact .inl h2
  ·rintro (h2 | ⟨h2,_⟩)
   ·exact h2
   ·exact absurd h2.symm h
theorem b0G (x y:Rw):rS x y↔(a5q y<a5q x∨(a5q x=a5q y∧a0Y x.k y.k≤0)):=by
 unfold rS
 rw [c0a,a1Q]
 omega
theorem b6i {x y z:List Str} (h:a0Y x y≤0) (k:a0Y y z≤0):a0Y x z≤0:=by
 by_cases h1:a0Y x y=0
 ·rw [a1G] at h1;subst h1;exact k
 ·by_cases k1:a0Y y z=0
  ·rw [a1G] at k1;subst k1;exact h
  ·exact Int.le_of_lt (a4h (show a0Y x y<0 by omega) (show a0Y y z<0 by omega))
theorem c4v:SOrd cR rS (fun _ _=>True) where
 tr:=fun x y z h k=>by
  rw [b0G] at *
  rcases h with h | ⟨h,h2⟩
  ·rcases k with k | ⟨k,k2⟩
   ·left;omega
   ·left;omega
  ·rcases k with k | ⟨k,k2⟩
   ·left;omega
   ·right;exact ⟨by omega,b6i h2 k2⟩
 lt:=fun x y _ h=>by
  unfold rS
  rw [c0a] at *
  have:=a1Q x.k y.k
  omega
 ge:=fun x y _ h=>h
theorem b8e {x y:Rw} (h:rS x y) (k:rS y x):x.k=y.k:=by
 rw [b0G] at h k
 rw [a1Q] at k
 rw [← a1G]
 omega
theorem b3t:∀ {C E:List Rw},C.Pairwise rS→E.Pairwise rS→C.Perm E→(C.map Rw.k).Nodup→C=E
 | [],E,_,_,hp,_=>by rw [List.nil_perm.1 hp]
 | x::C,[],_,_,hp,_=>by cases List.perm_nil.1 hp
 | x::C,y::E,hC,hE,hp,hn=>by
  rw [List.pairwise_cons] at hC hE
  rw [c9P,List.nodup_cons] at hn
  have hxy:x=y:=by
   apply Classical.byContradiction
   intro hne
   have hx:x∈E:=by
    have:x∈y::E:=hp.mem_iff.1 (by simp)
    rcases d0c.1 this with h | h
    ·exact absurd h hne
    ·exact h
   have hy:y∈C:=by
    have:y∈x::C:=hp.mem_iff.2 (by simp)
    rcases d0c.1 this with h | h
    ·exact absurd h.symm hne
    ·exact h
   have:=b8e (hC.1 y hy) (hE.1 x hx)
   exact hn.1 (by rw [this];exact d0e.2 ⟨y,hy,rfl⟩)
  subst hxy
  rw [b3t hC.2 hE.2 ((List.perm_cons x).1 hp) hn.2]
def RdR (h:Hp) (l:List Rw) (d:D):Prop:=SlOf 3 a0C l d∨∃ ob,d = .msl 3 ob 0 l.length∧h[ob]?=some (.row a0k 3 (l.map a0C))
theorem b5p {h:Hp} {l:List Rw} {d:D} (hd:RdR h l d):a0L h 3 d=some (l.map a0C):=by
 rcases hd with hd | ⟨ob,rfl,ho⟩
 ·exact a2q h hd
 ·have e:(List.take l.length (l.map a0C))=l.map a0C:=List.take_of_length_le (by simp)
  simp [-bind_some, a0L,ho,e]
theorem RdR.own {h:Hp} {n0:Nat} {l:List Rw} {d:D} (ow:Own h n0 a0k 3 (l.map a0C) d):RdR h l d:=by
 rcases ow with ⟨rfl,hn⟩ | ⟨o,_,rfl,hg⟩
 ·exact .inl (.inl ⟨rfl,by simpa using hn⟩)
 ·exact .inr ⟨o,by rw [c9N],hg⟩
theorem c5l (l:List Rw) (d:D) (h:Hp) (hd:RdR h l d) (hl:l.length≤1000000):∃ d' h',R b2p [d] h=some (d',h')∧h.length≤h'.length∧(∀ q,q<h.length→h'[q]?=h[q]?) ∧
  ((l=[]∧SlOf 3 a0C [] d')∨∃ ob,h.length≤ob∧d' = .msl 3 ob 0 l.length∧h'[ob]?=some (.row a0k 3 (l.map a0C))):=by
 rw [c2M]
 have hrow:=b5p hd
 by_cases hn:d = .nils
 ·subst hn
  have hl0:l=[]:=by
   rcases hd with (⟨_,h2⟩ | ⟨b,h2⟩) | ⟨ob,h2,_⟩
   ·simpa using h2
   ·cases h2
   ·cases h2
  subst hl0
  exact ⟨.nils,h,by
   have hne:a0j tab .eql a0t .nils .nils=some (.bool true):=id rfl
   simp [-bind_some, b6E,hne],Nat.le_refl _,fun _ _=>rfl,.inl ⟨rfl,.nils _ _⟩⟩
 ·obtain ⟨x',h',e,hl',hq,ho⟩:=a6v (T:=tab) (t:=a0t) (i:=a5Z) (j:=ti1146) (h:=h) (id rfl) (id rfl) (id rfl) (by decide) (y:=d) hrow (a2i (by have:ti1146.by_=56:=rfl;rw [this,c9N];omega) (by rw [c9N];omega))
  have e':a0p tab h a0t a0t (.sl 3 true []) d=some (x',h'):=e
  have hne:a0j tab .eql a0t d .nils=some (.bool false):=by
   rcases hd with (⟨h2,_⟩ | ⟨b,rfl⟩) | ⟨ob,rfl,_⟩
   ·exact absurd h2 hn
   ·exact id rfl
   ·exact id rfl
  refine ⟨x',h',?_,hl',hq,?_⟩
  ·simp only [b6E,bs,hne,a0f,c9I,if_false,b4q,e',a0r]
  ·rcases ho with ⟨rfl,hn⟩ | ⟨rfl,hn⟩ | ⟨ob,h1,rfl,h2⟩
   ·have:l=[]:=by simpa using hn
    exact .inl ⟨this,.inr ⟨true,rfl⟩⟩
   ·have:l=[]:=by simpa using hn
    exact .inl ⟨this,.nils _ _⟩
   ·exact .inr ⟨ob,h1,by rw [c9N];rfl,h2⟩
theorem c0Z (d cmp:D) (h:Hp) (hd:SlOf 3 a0C [] d):∃ x,R b0b [d,cmp] h=some (x,h):=by
 have hl:a0w tab a0t d=some (.int .i64 0):=a2L hd
 have h65:∃ x,R a4Z [d,.int .i64 0,.int .i64 0,cmp] h=some (x,h):=by
  rw [c0n]
  refine ⟨a0i [],?_⟩
  simp only [b6I,bs,c9H,a0q,show IntKind.wrap .i64 ((0:Int)+1)=1 from rfl]
  rw [a1i]
  simp [-bind_some, a6g]
 obtain ⟨x,h65⟩:=h65
 have h63:∃ x,R b0d [d,.int .i64 0,cmp] h=some (x,h):=by
  rw [c0m]
  refine ⟨a0i [],?_⟩
  simp only [b6H,bs,c9H]
  rw [a1i]
  have h20:¬ (20:Int)≤0:=by omega
  have h21:¬ (20:Int)<0:=by omega
  simp only [a6d,a0e,a0g,bs,a2t,h20,decide_false,a0f,c9I,if_false,a0m,a0l,h65]
  rw [a1i]
  simp only [a6e,a0e,a0g,bs,a0n,h21,decide_false,a0f,c9I,if_false,a0m,a1F]
 obtain ⟨y,h63⟩:=h63
 refine ⟨a0i [],?_⟩
 rw [c0k]
 simp only [b6F,bs,hl,h63]
theorem c5o {cmp:D} (hcmp:a6c cmp cR) {o N:Nat} (hN:N≤1000000000) {g:Hp} {l:List Rw} (hl:l.length=N) (ho:g[o]?=some (.row a0k 3 (l.map a0C))) :
  ∃ d g',∃ C:List Rw,R b0b [.msl 3 o 0 N,cmp] g=some (d,g')∧C.Perm l∧C.Pairwise rS∧g'[o]?=some (.row a0k 3 (C.map a0C))∧Same o g g':=by
 obtain ⟨⟨d,g'⟩,e,C,q1,q2,q3,q4⟩:=c5p c4v hcmp hN hl (List.pairwise_of_forall fun _ _=>trivial) ho
 refine ⟨a0i [],g',C,?_,q1,q2,q3,q4⟩
 rw [c0k]
 simp only [b6F,bs,b0x,e]
def a4z (n:Int) (k:Nat):Nat:=(min (max n 0) (k:Int)).toNat
theorem a4c (n:Int) (k:Nat):a4z n k≤k:=by unfold a4z;omega
theorem a9S (n:Int):b4K (.int .i64 n) (.int .i64 0)=some (.int .i64 (max n 0)):=by
 show some (D.int .i64 (if (0:Int)>n then 0 else n))=_
 congr 2
 split <;> omega
theorem a9T (n:Int) (k:Nat):b1o (.int .i64 (max n 0)) (.int .i64 (k:Int))=some (.int .i64 ((a4z n k:Nat):Int)):=by
 show some (D.int .i64 (if (k:Int)<max n 0 then (k:Int) else max n 0))=_
 congr 2
 unfold a4z
 split <;> omega
theorem a4m (n0:Nat) (h:Hp) (n:Nat) {l:List Str} {d:D} (hd:SlOf 1 (fun s=>[D.str s]) l d):frz n0 h (n+1) d=d:=a2x hd fun a _ x hx=>by
 simp at hx;subst hx;exact a4f _ _ _ _
theorem b2J (n0:Nat) (h:Hp) (n:Nat) {l:List Int} {d:D} (hd:SlOf 1 inr l d):frz n0 h (n+1) d=d:=a2x hd fun a _ x hx=>by
 simp [-bind_some, inr] at hx;subst hx;exact a4e _ _ _ _ _
theorem a4s (n:Nat) {l:List Str} {d:D} (hd:SlOf 1 (fun s=>[D.str s]) l d):Ok n d:=a1j hd fun a _ x hx=>by
 simp at hx;subst hx;exact .str _
theorem b2K (n:Nat) {l:List Int} {d:D} (hd:SlOf 1 inr l d):Ok n d:=a1j hd fun a _ x hx=>by
 simp [-bind_some, inr] at hx;subst hx;exact .int _ _
theorem a7d (n0:Nat) (h:Hp) (n:Nat) (r:Rw):∀ d∈a0C r,frz n0 h (n+1) d=d:=fun d hd=>by
 simp only [a0C,d0c,List.not_mem_nil,or_false] at hd
 rcases hd with rfl | rfl | rfl
 ·exact a4m _ _ _ r.hk
 ·exact b2J _ _ _ r.hn
 ·exact a4e _ _ _ _ _
theorem a8X (n:Nat) (r:Rw):∀ d∈a0C r,Ok n d:=fun d hd=>by
 simp only [a0C,d0c,List.not_mem_nil,or_false] at hd
 rcases hd with rfl | rfl | rfl
 ·exact a4s _ r.hk
 ·exact b2K _ r.hn
 ·exact .int _ _
theorem b1i {h g:Hp} {o m:Nat} {C:List Rw} (hm:m≤C.length) (ho:h.length≤o) (hg:g[o]?=some (.row a0k 3 (C.map a0C))) (hl:h.length≤g.length) (hb:∀ q,q<h.length→g[q]?=h[q]?) :
  scope h g (.msl 3 o 0 m)=some (.sl 3 false ((C.take m).map a0C),h):=by
 refine a1s ?_ ?_ hl hb
 ·rw [a8H ho hg,List.drop_zero,← List.map_take]
  rw [a2p fun row hrow=>a2p fun d hd=>by
   obtain ⟨r,_,rfl⟩:=d0e.1 hrow
   exact a7d _ _ _ r d hd]
 ·exact a1j (SlOf.mk _ _ _ _) fun r _=>a8X _ r
theorem c0Y (l:List Rw) (d:D) (n:Int) (h:Hp) (hd:RdR h l d) (hl:l.length≤1000000):∃ C:List Rw,∃ d',R a5K [d,.int .i64 n] h=some (d',h)∧C.Perm l∧C.Pairwise rS∧SlOf 3 a0C (C.take (a4z n l.length)) d':=by
 rw [c2G]
 obtain ⟨d1,h1,e1,hl1,hb1,hd1⟩:=c5l l d h hd hl
 rcases hd1 with ⟨rfl,hd1⟩ | ⟨ob,hob,rfl,ho⟩
 ·obtain ⟨x,hx⟩:=c0Z d1 (.fn (.func a7M) [] []) h1 hd1
  have hcut:a4z n ([]:List Rw).length=0:=by have:=a4c n ([]:List Rw).length;simpa using this
  obtain ⟨d2,e2,hd2⟩:=b8h hd1 (k := .i64) (n:=((0:Nat):Int)) (by omega) (by simp)
  have hsc:scope h h1 d2=some (d2,h):=a1s (a2x hd2 fun a ha=>by simp at ha) (a1j hd2 fun a ha=>by simp at ha) hl1 hb1
  refine ⟨[],d2,?_,List.Perm.refl _,List.Pairwise.nil,by simpa using hd2⟩
  have hmin:=a9T n 0
  rw [show a4z n 0=0 from hcut] at hmin
  simp only [b6D,bs,e1,hx,c0l,b6G,a9S,a2L hd1,c9Z,hmin,e2,a0r,hsc]
 ·obtain ⟨x,h2,C,q1,q2,q3,q4,q5⟩:=c5o c2n (o:=ob) (N:=l.length) (by omega) rfl ho
  have hmin:=a9T n l.length
  have hcut:=a4c n l.length
  have hslice:a0y tab a0t false true false [.msl 3 ob 0 l.length,.int .i64 ((a4z n l.length:Nat):Int)]=some (.msl 3 ob 0 (a4z n l.length)):=b3h (T:=tab) (t:=a0t) (i:=a5Z) (j:=ti1146) (id rfl) (id rfl) (id rfl) (id rfl) (by decide) hcut
  have hsc:=b1i (m:=a4z n l.length) (C:=C) (by rw [q2.length_eq];exact hcut) hob q4 (by have:=q5.1;omega) (fun q hq=>(q5.2 q (by omega)).trans (hb1 q hq))
  refine ⟨C,.sl 3 false ((C.take (a4z n l.length)).map a0C),?_,q2,q3,.mk _ _ _ _⟩
  simp only [b6D,bs,e1,q1,c0l,b6G,a9S,b0x,hmin,hslice,a0r,hsc]
theorem a5Q {α:Type} [BEq α] [LawfulBEq α] {x y:List α} {i:Nat} {u v:α} (hu:x[i]?=some u) (hv:y[i]?=some v):(x.drop i==y.drop i)=((u==v)&&(x.drop (i+1)==y.drop (i+1))):=by
 rw [a1u hu,a1u hv];rfl
theorem c4E (x y:List Str) (dx dy:D) (h:Hp) (hx:SlOf 1 (fun s=>[D.str s]) x dx) (hy:SlOf 1 (fun s=>[D.str s]) y dy) (hl:x.length≤1000000):R b0a [dx,dy] h=some (.bool (x==y),h):=by
 apply Wp.val
 rw [c2K]
 simp only [b9d,bs,c9H,a2c hx,a2c hy,a2u]
 by_cases hne:x.length=y.length
 case neg =>
  have d0:decide ((x.length:Int)≠(y.length:Int))=true:=decide_eq_true (by omega)
  have hb:(x==y)=false:=by
   cases hq:x==y
   ·rfl
   ·exact absurd (congrArg List.length (eq_of_beq hq)) hne
  simp only [d0,a0f,if_true,a0r,hb]
  exact .some rfl
 have d0:decide ((x.length:Int)≠(y.length:Int))=false:=decide_eq_false (by omega)
 simp only [d0,a0f,c9I,if_false]
 generalize hV:(x==y)=V
 refine Wp.loop (fun k ds g=>g=h∧∃ a b c,∃ i:Nat,ds=[a,.int .i64 i,b,c]∧k+i=x.length∧(x.drop i==y.drop i)=V)
  (fun r=>r.2.2=h∧((r.1 = .ret∧nth 0 r.2.1 = .bool false∧V=false)∨(r.1 = .ext 0∧V=true))) x.length ⟨rfl,_,_,_,0,rfl,by omega,hV⟩ ?_ ?_
 ·rintro k ds g ⟨rfl,a,b,c,i,rfl,hk,hV⟩
  simp only [a9h,a0e,a0g,bs,c9H,a2c hx,a0n]
  refine Wp.dif ?_ ?_
  ·intro h0
   have h0:i<x.length:=dl_ h0
   obtain ⟨u,hu⟩:=gx_ h0
   obtain ⟨v,hv⟩:∃ v,y[i]?=some v:=⟨_,c9W (by omega)⟩
   have hw:=wi_ i (by omega)
   rw [a5Q hu hv] at hV
   simp only [a6S hx,a6S hy,Int.natCast_nonneg,if_true,c9Q,hu,hv,Option.map_some,bs,a5l,b1U]
   cases hb:(u==v)
   ·rw [hb] at hV
    simp only [c9S,a0f,if_true]
    exact .some (.inr ⟨by simp,rfl,.inl ⟨rfl,rfl,hV.symm⟩⟩)
   ·rw [hb] at hV
    simp only [c9R,a0f,c9I,if_false,a0q,hw,bs]
    exact .some (.inl ⟨rfl,k - 1,by omega,rfl,_,_,_,i+1,rfl,by omega,hV⟩)
  ·intro h0
   have h0:x.length≤i:=by
    have:¬ (i:Int)<x.length:=by simpa using h0
    omega
   rw [List.drop_of_length_le h0,List.drop_of_length_le (by omega)] at hV
   exact .some (.inr ⟨by simp,rfl,.inr ⟨rfl,hV.symm⟩⟩)
 ·rintro ⟨ex,ds,g⟩ ⟨h1,h2⟩
  simp only at h1 h2
  subst h1
  rcases h2 with ⟨rfl,hn,rfl⟩ | ⟨rfl,rfl⟩
  ·simp only [a3j,a3i,a2Y,a0e,a0g,bs,hn,a0r]
   exact .some rfl
  ·simp only [a0m,a0l,bs,a0r]
   exact .some rfl
theorem c4F (x y:List Int) (dx dy:D) (h:Hp) (hx:SlOf 1 inr x dx) (hy:SlOf 1 inr y dy) (hl:x.length≤1000000):R b2o [dx,dy] h=some (.bool (x==y),h):=by
 apply Wp.val
 rw [c2L]
 simp only [b9e,bs,c9H,a8e hx,a8e hy,a2u]
 by_cases hne:x.length=y.length
 case neg =>
  have d0:decide ((x.length:Int)≠(y.length:Int))=true:=decide_eq_true (by omega)
  have hb:(x==y)=false:=by
   cases hq:x==y
   ·rfl
   ·exact absurd (congrArg List.length (eq_of_beq hq)) hne
  simp only [d0,a0f,if_true,a0r,hb]
  exact .some rfl
 have d0:decide ((x.length:Int)≠(y.length:Int))=false:=decide_eq_false (by omega)
 simp only [d0,a0f,c9I,if_false]
 generalize hV:(x==y)=V
 refine Wp.loop (fun k ds g=>g=h∧∃ a b c,∃ i:Nat,ds=[a,.int .i64 i,b,c]∧k+i=x.length∧(x.drop i==y.drop i)=V)
  (fun r=>r.2.2=h∧((r.1 = .ret∧nth 0 r.2.1 = .bool false∧V=false)∨(r.1 = .ext 0∧V=true))) x.length ⟨rfl,_,_,_,0,rfl,by omega,hV⟩ ?_ ?_
 ·rintro k ds g ⟨rfl,a,b,c,i,rfl,hk,hV⟩
  simp only [a9i,a0e,a0g,bs,c9H,a8e hx,a0n]
  refine Wp.dif ?_ ?_
  ·intro h0
   have h0:i<x.length:=dl_ h0
   obtain ⟨u,hu⟩:=gx_ h0
   obtain ⟨v,hv⟩:∃ v,y[i]?=some v:=⟨_,c9W (by omega)⟩
   have hw:=wi_ i (by omega)
   rw [a5Q hu hv] at hV
   simp only [b1a hx,b1a hy,Int.natCast_nonneg,if_true,c9Q,hu,hv,Option.map_some,bs,inr,b0v,a2u]
   by_cases hb:u=v
   ·have hb':(u==v)=true:=by simpa using hb
    rw [hb'] at hV
    simp only [hb,ne_eq,not_true,decide_false,a0f,c9I,if_false,a0q,hw,bs]
    exact .some (.inl ⟨rfl,k - 1,by omega,rfl,_,_,_,i+1,rfl,by omega,hV⟩)
   ·have hb':(u==v)=false:=by simpa using hb
    rw [hb'] at hV
    simp only [hb,ne_eq,not_false_eq_true,decide_true,a0f,if_true]
    exact .some (.inr ⟨by simp,rfl,.inl ⟨rfl,rfl,hV.symm⟩⟩)
  ·intro h0
   have h0:x.length≤i:=by
    have:¬ (i:Int)<x.length:=by simpa using h0
    omega
   rw [List.drop_of_length_le h0,List.drop_of_length_le (by omega)] at hV
   exact .some (.inr ⟨by simp,rfl,.inr ⟨rfl,hV.symm⟩⟩)
 ·rintro ⟨ex,ds,g⟩ ⟨h1,h2⟩
  simp only at h1 h2
  subst h1
  rcases h2 with ⟨rfl,hn,rfl⟩ | ⟨rfl,rfl⟩
  ·simp only [a3j,a3i,a2Y,a0e,a0g,bs,hn,a0r]
   exact .some rfl
  ·simp only [a0m,a0l,bs,a0r]
   exact .some rfl
def a2n (r:Rw):List Str × List Int × Int:=(r.k,r.n,r.er)
theorem c4B (l m:List Rw) (dl dm:D) (h:Hp) (hd:SlOf 3 a0C l dl) (he:SlOf 3 a0C m dm) (hs:l.map a2n=m.map a2n) (hl:l.length≤1000000):R a5J [dl,dm] h=some (.bool true,h):=by
 apply Wp.val
 have hlen:l.length=m.length:=by simpa using congrArg List.length hs
 rw [c2F]
 have d0:decide ((l.length:Int)≠(m.length:Int))=false:=decide_eq_false (by omega)
 simp only [b8Z,bs,c9H,a2L hd,a2L he,a2u,d0,a0f,c9I,if_false]
 refine Wp.loop (fun k ds g=>g=h∧∃ a b c,∃ i:Nat,ds=[a,.int .i64 i,b,c]∧k+i=l.length)
  (fun r=>r.2.2=h∧r.1 = .ext 0) l.length ⟨rfl,_,_,_,0,rfl,rfl⟩ ?_ ?_
 ·rintro k ds g ⟨rfl,a,b,c,i,rfl,hk⟩
  simp only [a9e,a0e,a0g,bs,c9H,a2L hd,a0n]
  refine Wp.dif ?_ ?_
  ·intro h0
   have h0:i<l.length:=dl_ h0
   obtain ⟨u,hu⟩:=gx_ h0
   obtain ⟨v,hv⟩:∃ v,m[i]?=some v:=⟨_,c9W (by omega)⟩
   have hw:=wi_ i (by omega)
   have hc:a2n u=a2n v:=by
    have:=congrArg (fun z:List (List Str × List Int × Int)=>z[i]?) hs
    simp only [c9U,hu,hv,Option.map_some,Option.some.injEq] at this
    exact this
   simp only [a2n,Prod.mk.injEq] at hc
   obtain ⟨c1,c2,c3⟩:=hc
   have b1:(u.k==v.k)=true:=by rw [c1];simp [-bind_some]
   have b2:(u.n==v.n)=true:=by rw [c2];simp [-bind_some]
   simp only [a8L hd,a8L he,Int.natCast_nonneg,if_true,c9Q,hu,hv,Option.map_some,bs,c6e,c4w,c8Q,c6f,c4x,c8R,c4E _ _ _ _ g u.hk v.hk u.hkl,b1,a2X,c9R,a1b,a2l,c4F _ _ _ _ g u.hn v.hn u.hnl,b2,a0F,c9I,if_false,a2u]
   simp only [c3,ne_eq,not_true,decide_false,a0f,c9I,if_false,a0q,hw,bs]
   exact .some (.inl ⟨rfl,k - 1,by omega,rfl,_,_,_,i+1,rfl,by omega⟩)
  ·intro h0
   exact .some (.inr ⟨by simp,rfl,rfl⟩)
 ·rintro ⟨ex,ds,g⟩ ⟨h1,rfl⟩
  simp only at h1
  subst h1
  simp only [a0m,a0l,bs,a0r]
  exact .some rfl
theorem RdR.keep {h g:Hp} {l:List Rw} {d:D} (hd:RdR h l d) (hk:∀ q,q<h.length→g[q]?=h[q]?):RdR g l d:=by
 rcases hd with hd | ⟨ob,he,ho⟩
 ·exact .inl hd
 ·exact .inr ⟨ob,he,by rw [hk ob (c9X.1 ho).1];exact ho⟩
def dig (n:Int):Str:=[UInt8.ofNat (48+n.toNat)]
theorem c4R (n:Int) (h:Hp) (h0:0≤n) (h9:n≤9):R a5M [.int .i64 n] h=some (.str (dig n),h):=by
 apply Wp.val
 have d0:decide (n<0)=false:=decide_eq_false (by omega)
 have w1:IntKind.wrap .u64 n=n:=a4O h0 (by omega)
 have r1:n.tmod 10=n:=by rw [Int.tmod_eq_emod_of_nonneg h0];omega
 have q1:n.tdiv 10=0:=by rw [Int.tdiv_eq_ediv_of_nonneg h0];omega
 have w2:IntKind.wrap .u64 (48+n)=48+n:=a4O (by omega) (by omega)
 have w3:IntKind.wrap .u8 (48+n)=48+n:=by rw [b5G];omega
 have w4:IntKind.wrap .u64 0=0:=a4O (by omega) (by omega)
 have ap:a0p tab h a5m a5m (.sl 1 true [[.int .u8 (48+n)]]) .nils=some (.sl 1 true [[.int .u8 (48+n)]],h):=id rfl
 have ts:a7E h (.sl 1 true [[.int .u8 (48+n)]])=some (.str (dig n)):=by
  have e:(48+n).toNat=48+n.toNat:=by omega
  simp [-bind_some, a7E,a0L,a5D,dig,e]
 have hsc:scope h h (.str (dig n))=some (.str (dig n),h):=a1s (by simp) (.str _) (Nat.le_refl _) fun _ _=>rfl
 rw [c3b]
 simp only [b9t,bs,c9H,b4I,w1,a0n,d0,a0f,c9I,if_false,a0l,a0e]
 rw [a1i]
 simp only [a9p,a0e,a0g,bs,a9O,show ¬ (10:Int)=0 by omega,if_false,r1,a0q,w2,b4H,w3,b9U,ap,b4J,q1,w4,a0U,decide_true,a0f,if_true,a0m,a0l,a0n,d0,c9I,ts,a0r,hsc]
 exact .some rfl
def b3Q (e:Ev) (nm:Str):Str × Bool :=
 if nm=[64,104,111,115,116] then (dig e.a0,true) else if nm=[64,116,114,97,99,101] then (e.s7,true) else if nm=[64,115,116,114,101,97,109] then (e.s8,true) else ((a6L e.fs nm).getD [],(a6L e.fs nm).isSome)
def b1p (nm:Str):Prop:=nm≠[64,102,105,108,101]∧nm≠[64,116,105,109,101]∧nm≠[64,119,101,105,103,104,116]
theorem c1a (e:Ev) (nm:Str) (h:Hp) (h0:0≤e.a0) (h9:e.a0≤9) (hn:b1p nm):R a7N [.agg (evr e),.str nm] h=some (.tup [.str (b3Q e nm).1,.bool (b3Q e nm).2],h):=by
 have q0:a0b tab a0R 0 (.fptr (evr e))=some (.fptr (evr e)):=id rfl
 have q7:a0b tab a0R 7 (.fptr (evr e))=some (.fptr [.str e.s7,.str e.s8,e.fd]):=id rfl
 have q8:a0b tab a0R 8 (.fptr (evr e))=some (.fptr [.str e.s8,e.fd]):=id rfl
 have q9:a0b tab a0R 9 (.fptr (evr e))=some (.fptr [e.fd]):=id rfl
 have l0:a0c tab h ty3 (.fptr (evr e))=some (.int .i64 e.a0):=id rfl
 have l9:a0c tab h a5r (.fptr [e.fd])=some e.fd:=by
  have h1:=a0T e.hfd
  generalize e.fd=a at h1
  cases a <;> first | rfl | (simp [-bind_some, D.one] at h1)
 rw [c2Z]
 simp only [b9r,a1I,bs,a7A,q0,q7,q8,q9,l0]
 unfold b3Q
 have n1:(nm==[64,102,105,108,101])=false:=by simpa using hn.1
 have n2:(nm==[64,116,105,109,101])=false:=by simpa using hn.2.1
 have n3:(nm==[64,119,101,105,103,104,116])=false:=by simpa using hn.2.2
 by_cases c1:nm=[64,104,111,115,116]
 ·have b1:(nm==[64,104,111,115,116])=true:=by simpa using c1
  rw [if_pos c1]
  simp only [b1,a0f,if_true,c4R e.a0 h h0 h9,bs,a2e]
 have b1:(nm==[64,104,111,115,116])=false:=by simpa using c1
 by_cases c2:nm=[64,116,114,97,99,101]
 ·have b2:(nm==[64,116,114,97,99,101])=true:=by simpa using c2
  have l7:a0c tab h ty9 (.fptr [.str e.s7,.str e.s8,e.fd])=some (.str e.s7):=id rfl
  rw [if_neg c1,if_pos c2]
  simp only [b1,n1,n2,n3,b2,a0f,c9I,if_false,if_true,l7,bs,a2e]
 have b2:(nm==[64,116,114,97,99,101])=false:=by simpa using c2
 by_cases c3:nm=[64,115,116,114,101,97,109]
 ·have b3:(nm==[64,115,116,114,101,97,109])=true:=by simpa using c3
  have l8:a0c tab h ty9 (.fptr [.str e.s8,e.fd])=some (.str e.s8):=id rfl
  rw [if_neg c1,if_neg c2,if_pos c3]
  simp only [b1,n1,n2,n3,b2,b3,a0f,c9I,if_false,if_true,l8,bs,a2e]
 have b3:(nm==[64,115,116,114,101,97,109])=false:=by simpa using c3
 rw [if_neg c1,if_neg c2,if_neg c3]
 simp only [b1,n1,n2,n3,b2,b3,a0f,c9I,if_false,l9,bs,s76 _ _ _ h e.hfd e.hl,a8I,a1c,c9K,c9L,a2e]
theorem b2E {l:List (Str × Str)} (hl:b1n l):a6L l []=none:=by
 unfold a6L
 have:l.find? (fun p=>p.1==([]:Str))=none:=by
  rw [List.find?_eq_none]
  intro p hp
  have hm:=hl.1.subset (d0e.2 ⟨p,hp,rfl⟩)
  have:=(show ∀ s∈lt98_9,(s==([]:Str))=false by decide) _ hm
  simpa using this
 rw [this];rfl
theorem c4Q (e:Ev) (h:Hp) (h0:0≤e.a0) (h9:e.a0≤9) (hf:b1n e.fs):R b2t [.agg (evr e),.str []] h=some (.tup [.int .i64 0,.bool false],h):=by
 have hv:b3Q e []=([],false):=by
  unfold b3Q
  rw [if_neg (by simp),if_neg (by simp),if_neg (by simp),b2E hf];rfl
 rw [c2Y]
 have hL:a0c tab h a0R (.fptr (evr e))=some (.agg (evr e)):=id rfl
 simp only [b9q,a1I,bs,hL,c1a e [] h h0 h9 (by unfold b1p;simp [-bind_some]),hv,a1c,c9K,c9L,a2X,c9S,a0f,if_true,a2e]
def a3E (ns:List Str) (e:Ev):List Str:=ns.map fun n=>(b3Q e n).1
theorem c4P (ns:List Str) (dn:D) (e:Ev) (h:Hp) (hd:SlOf 1 (fun s=>[D.str s]) ns dn) (hl:ns.length≤1000) (h0:0≤e.a0) (h9:e.a0≤9) (hn:∀ n∈ns,b1p n):∃ d',R a5a [dn,.agg (evr e)] h=some (d',h)∧SlOf 1 (fun s=>[D.str s]) (a3E ns e) d':=by
 suffices Wp (R a5a [dn,.agg (evr e)] h) (fun p=>p.2=h∧SlOf 1 (fun s=>[D.str s]) (a3E ns e) p.1) by
  obtain ⟨⟨x,h'⟩,h1,rfl,h2⟩:=this
  exact ⟨x,h1,h2⟩
 rw [c2X]
 have hL:∀ g,a0c tab g a0R (.fptr (evr e))=some (.agg (evr e)):=fun g=>id rfl
 simp only [b9p,a1I,bs,c9H]
 refine Wp.loop (fun k ds g=>∃ x a b,∃ i:Nat,ds=[x,.int .i64 (i:Int),a,b]∧k+i=ns.length∧Own g h.length ty9 1 ((a3E (ns.take i) e).map fun s=>[D.str s]) x∧h.length≤g.length∧(∀ q,q<h.length→g[q]?=h[q]?))
  (fun r=>r.1 = .ext 0∧∃ x a b c,r.2.1=[x,a,b,c]∧Own r.2.2 h.length ty9 1 ((a3E ns e).map fun s=>[D.str s]) x∧h.length≤r.2.2.length∧(∀ q,q<h.length→r.2.2[q]?=h[q]?)) ns.length
  ⟨_,_,_,0,rfl,rfl,Own.nils _ _ _ _,Nat.le_refl _,fun _ _=>rfl⟩ ?_ ?_
 ·rintro k ds g ⟨x,a,b,i,rfl,hk,ow,hlen,hq⟩
  simp only [a9n,a0e,a0g,bs,c9H,a2c hd,a0n]
  refine Wp.dif ?_ ?_
  ·intro hlt
   have hlt:i<ns.length:=dl_ hlt
   obtain ⟨u,hu⟩:=gx_ hlt
   have hw:=wi_ i (by omega)
   simp only [hL,a6S hd,Int.natCast_nonneg,if_true,c9Q,hu,Option.map_some,bs,a5l,c1a e u g h0 h9 (hn u (c9V hu)),a1c,c9K,c9L,a9I]
   refine b8A (n0:=h.length) hlen ow (a1e _ _ _ _) (by simp [-bind_some, a3E];omega) fun x9 g2 o2 l2 b2 _ _=>?_
   simp only [bs,a0q,hw]
   refine .some (.inl ⟨rfl,k - 1,by omega,_,_,_,i+1,rfl,by omega,?_,by show h.length≤g2.length;omega,fun q hq'=>by rw [b2 q hq'];exact hq q hq'⟩)
   have:(a3E (ns.take (i+1)) e).map (fun s=>[D.str s])=(a3E (ns.take i) e).map (fun s=>[D.str s])++[[D.str (b3Q e u).1]]:=by
    rw [c9T,hu];simp [-bind_some, a3E]
   rw [this];exact o2
  ·intro hge
   have hge:ns.length≤i:=by
    have:¬ (i:Int)<ns.length:=by simpa using hge
    omega
   rw [List.take_of_length_le hge] at ow
   exact .some (.inr ⟨by simp,rfl,_,_,_,_,rfl,ow,hlen,hq⟩)
 ·rintro ⟨ex,ds,g⟩ ⟨rfl,x,a,b,c,rfl,ow,hlen,hq⟩
  simp only [a0m,a0l,bs,a0e,a0r]
  have hs:=a2f (n0:=h.length) (n:=3) ow (Nat.le_refl _) fun s _ y hy=>by simp at hy;subst hy;exact a4f _ _ _ _
  have hsc:scope h g x=some (frz h.length g 4 x,h):=a1s rfl (a4s _ hs) hlen hq
  rw [hsc]
  exact .some ⟨rfl,hs⟩
structure Pt where
 k:List Str
 kd:D
 hk:SlOf 1 (fun s=>[D.str s]) k kd
 hkl:k.length≤1000000
 tot:Int
 td:D
 ht:SlOf 1 inr [tot] td
 sd:D
 hs:SlOf 1 (fun b=>[D.bool b]) [true] sd
 vd:D
 hv:SlOf 1 (fun d:D=>[d]) [.nils] vd
def a2A (p:Pt):List D:=[p.kd,p.td,p.sd,p.vd]
def b0N:D := .sl 2 true [[.int .i64 0,.str []]]
theorem a4G:a0w tab a4v b0N=some (.int .i64 1):=id rfl
theorem b1x:a0a tab a4v b0N (.int .i64 0)=some (.fptr [.int .i64 0,.str []]):=id rfl
theorem b9Q (h:Hp):a0c tab h a3x (.fptr [.int .i64 0,.str []])=some (.agg [.int .i64 0,.str []]):=id rfl
theorem b6R:a7s 2 (.agg [.int .i64 0,.str []])=some (.fptr [.int .i64 0,.str []]):=id rfl
theorem b5O:a0b tab a3x 0 (.fptr [.int .i64 0,.str []])=some (.fptr [.int .i64 0,.str []]):=id rfl
theorem b9P:a0b tab a3x 1 (.fptr [.int .i64 0,.str []])=some (.fptr [.str []]):=id rfl
theorem b5P (h:Hp):a0c tab h ty3 (.fptr [.int .i64 0,.str []])=some (.int .i64 0):=id rfl
theorem c6d {g:Hp} {o n0:Nat} {kd:D} (ho:g[o]?=some (.row a0o 4 [[kd,.nils,.nils,.nils]])) (hon:n0≤g.length) (ho0:o<n0) (tot:Int) (b:Bool) (v:D) (hv:v.one=true) {β:Type} {f:Hp→Option β} {Q:β→Prop}
  (K:∀ g' x1 x2 x3,g'[o]?=some (.row a0o 4 [[kd,x1,x2,x3]])→Own g' n0 ty3 1 [[.int .i64 tot]] x1→Own g' n0 ty4 1 [[.bool b]] x2→Own g' n0 a0E 1 [[v]] x3→g.length≤g'.length→(∀ q,q<n0→q≠o→g'[q]?=g[q]?)→Wp (f g') Q) :
  Wp ((a0c tab g a0V (.ptr o 0 1)).bind fun t69=>(a0p tab g a0V a0V t69 (.sl 1 true [[.int .i64 tot]])).bind fun p72=>(a0c tab p72.2 a0J (.ptr o 0 2)).bind fun t74=>(a0p tab p72.2 a0J a0J t74 (.sl 1 true [[.bool b]])).bind fun p77 =>
   (a0c tab p77.2 a0O (.ptr o 0 3)).bind fun t79=>(a0p tab p77.2 a0O a0O t79 (.sl 1 true [[v]])).bind fun p82=>(a0s tab p82.2 a0V (.ptr o 0 1) p72.1).bind fun p916=>(a0s tab p916 a0J (.ptr o 0 2) p77.1).bind fun p918 =>
   chk (a0c tab g a0J (.ptr o 0 2)=some t74) (chk (a0c tab g a0O (.ptr o 0 3)=some t79) (chk (a0c tab p72.2 a0O (.ptr o 0 3)=some t79) ((a0s tab p918 a0O (.ptr o 0 3) p82.1).bind f)))) Q:=by
 have ld:∀ (g:Hp),g[o]?=some (.row a0o 4 [[kd,.nils,.nils,.nils]])→a0c tab g a0V (.ptr o 0 1)=some .nils∧a0c tab g a0J (.ptr o 0 2)=some .nils∧a0c tab g a0O (.ptr o 0 3)=some .nils:=fun g hg=>⟨by rw [c4i,a1r hg];rfl,by rw [b7K,a1r hg];rfl,by rw [b7L,a1r hg];rfl⟩
 simp only [(ld g ho).1,bs]
 refine c1x (n0:=n0) (rows:=[]) hon (.nils _ _ _ _) (a1e _ _ _ _) (by simp) fun x1 g1 o1 l1 b1 _ i1=>?_
 rw [List.nil_append] at o1
 have h1:g1[o]?=some (.row a0o 4 [[kd,.nils,.nils,.nils]]):=by rw [b1 o ho0];exact ho
 simp only [(ld g1 h1).2.1,bs]
 refine b8x (n0:=n0) (rows:=[]) (by omega) (.nils _ _ _ _) (a1e _ _ _ _) (by simp) fun x2 g2 o2 l2 b2 e2 i2=>?_
 rw [List.nil_append] at o2
 have h2:g2[o]?=some (.row a0o 4 [[kd,.nils,.nils,.nils]]):=by rw [b2 o ho0];exact h1
 have o1:Own g2 n0 ty3 1 [[.int .i64 tot]] x1:=o1.keep fun q hq hx=>e2 q ((o1.lt hx).2) (fun hh=>by obtain ⟨_,_,hh⟩:=hh;cases hh)
 simp only [(ld g2 h2).2.2,bs]
 refine b8y (n0:=n0) (rows:=[]) (by omega) (.nils _ _ _ _) (a1e _ _ _ _) (by simp) fun x3 g3 o3 l3 b3 e3 i3=>?_
 rw [List.nil_append] at o3
 have h3:g3[o]?=some (.row a0o 4 [[kd,.nils,.nils,.nils]]):=by rw [b3 o ho0];exact h2
 have o1:Own g3 n0 ty3 1 [[.int .i64 tot]] x1:=o1.keep fun q hq hx=>e3 q ((o1.lt hx).2) (fun hh=>by obtain ⟨_,_,hh⟩:=hh;cases hh)
 have o2:Own g3 n0 ty4 1 [[.bool b]] x2:=o2.keep fun q hq hx=>e3 q ((o2.lt hx).2) (fun hh=>by obtain ⟨_,_,hh⟩:=hh;cases hh)
 have k1:=a1d (a2z o1)
 have k2:=a1d (a2z o2)
 have k3:=a1d (a2z o3)
 try simp only [bs]
 refine c5A h3 (by rfl) (by rw [k1.1];rfl) (by show 1+1≤4;omega) k1.2 fun g4 p4 s4=>?_
 rw [k1.1] at p4
 have p4:g4[o]?=some (.row a0o 4 [[kd,x1,.nils,.nils]]):=p4
 try simp only [bs]
 refine b8D p4 (by rfl) (by rw [k2.1];rfl) (by show 2+1≤4;omega) k2.2 fun g5 p5 s5=>?_
 rw [k2.1] at p5
 have p5:g5[o]?=some (.row a0o 4 [[kd,x1,x2,.nils]]):=p5
 simp only [(ld g ho).2.1,(ld g ho).2.2,(ld g1 h1).2.2,a1l,bs]
 refine b8E p5 (by rfl) (by rw [k3.1];rfl) (by show 3+1≤4;omega) k3.2 fun g6 p6 s6=>?_
 rw [k3.1] at p6
 have p6:g6[o]?=some (.row a0o 4 [[kd,x1,x2,x3]]):=p6
 have sm:Same o g3 g6:=(s4.trans s5).trans s6
 refine K g6 x1 x2 x3 p6 (o1.same sm ho0) (o2.same sm ho0) (o3.same sm ho0) (by have:=sm.1;omega) fun q hq hne=>?_
 rw [sm.2 q hne,b3 q hq,b2 q hq,b1 q hq]
theorem c4l {a b c d:D} (ha:a.one=true) (hb:b.one=true) (hc:c.one=true) (hd:d.one=true):(D.agg [a,b,c,d]).okv=true:=by simp [-bind_some, D.okv,ha,hb,hc,hd]
def b9L (h:Hp) (ks:List Str) (kd:D) (tot:Int) (g:Hp):Prop:=∃ x1 x2 x3,g[h.length]?=some (.row a0o 4 [[.nils,.nils,.nils,.nils]])∧g[h.length+1]?=some (.row a0o 4 [[kd,x1,x2,x3]])∧Own g (h.length+2) ty3 1 [[.int .i64 tot]] x1∧Own g (h.length+2) ty4 1 [[.bool true]] x2∧Own g (h.length+2) a0E 1 [[.nils]] x3∧∀ q,q<h.length→g[q]?=h[q]?
theorem b2m {h g:Hp} {ks:List Str} {kd:D} {tot:Int} (hk:SlOf 1 (fun s=>[D.str s]) ks kd) (hkl:ks.length≤1000000) (hf:b9L h ks kd tot g) {Q:D × Hp→Prop} (K:∀ pt:Pt,pt.k=ks→pt.tot=tot→Q (.agg (a2A pt),h)) :
  Wp ((a0c tab g a0o (.ptr (h.length+1) 0 0)).bind fun t86=>(a0s tab g a0o (.ptr h.length 0 0) t86).bind fun p901=>(a0c tab p901 a0o (.ptr h.length 0 0)).bind fun d=>scope h p901 (a0i [d])) Q:=by
 obtain ⟨x1,x2,x3,a0,a1,o1,o2,o3,hq⟩:=hf
 have e1:a0c tab g a0o (.ptr (h.length+1) 0 0)=some (.agg [kd,x1,x2,x3]):=by rw [b2R,a1r a1];rfl
 simp only [e1,bs]
 refine a9c (off:=0) (v := .agg [kd,x1,x2,x3]) a0 (by rfl) (by rfl) (by show 0+4≤4;omega) (c4l (a0T hk) (a2z o1) (a2z o2) (a2z o3)) fun g2 p2 s2=>?_
 have p2:g2[h.length]?=some (.row a0o 4 [[kd,x1,x2,x3]]):=p2
 have e2:a0c tab g2 a0o (.ptr h.length 0 0)=some (.agg [kd,x1,x2,x3]):=by rw [b2R,a1r p2];rfl
 have gl:=(c9X.1 a1).1
 have o1:=o1.same s2 (by omega)
 have o2:=o2.same s2 (by omega)
 have o3:=o3.same s2 (by omega)
 have z1:SlOf 1 inr [tot] (frz h.length g2 3 x1):=a2f (n0:=h.length) (n:=2) (f:=inr) (l:=[tot]) o1 (by omega) fun s _ y hy=>by simp [-bind_some, inr] at hy;subst hy;exact a4e _ _ _ _ _
 have z2:SlOf 1 (fun b=>[D.bool b]) [true] (frz h.length g2 3 x2):=a2f (n0:=h.length) (n:=2) (f:=fun b=>[D.bool b]) (l:=[true]) o2 (by omega) fun s _ y hy=>by simp at hy;subst hy;exact b0t _ _ _ _
 have z3:SlOf 1 (fun d:D=>[d]) [.nils] (frz h.length g2 3 x3):=a2f (n0:=h.length) (n:=2) (f:=fun d:D=>[d]) (l:=[.nils]) o3 (by omega) fun s hs y hy=>by simp at hs hy;subst hy;subst hs;exact b0u _ _ _
 have z0:frz h.length g2 3 kd=kd:=a4m _ _ 2 hk
 have hsc:scope h g2 (.agg [kd,x1,x2,x3])=some (.agg [kd,frz h.length g2 3 x1,frz h.length g2 3 x2,frz h.length g2 3 x3],h):=by
  refine a1s ?_ ?_ (by have:=s2.1;omega) (fun q hq'=>by rw [s2.2 q (by omega)];exact hq q hq')
  ·simp only [b7u,c9P,List.map_nil,z0]
  ·refine .agg _ fun y hy=>?_
   simp only [d0c,List.not_mem_nil,or_false] at hy
   rcases hy with rfl | rfl | rfl | rfl
   ·exact a4s _ hk
   ·exact b2K _ z1
   ·exact a1j z2 fun b _ y hy=>by simp at hy;subst hy;exact .bool _
   ·exact a1j z3 fun b hb y hy=>by simp at hb hy;subst hy;subst hb;exact .nils
 simp only [e2,bs,a0r,hsc]
 exact .some (K ⟨ks,kd,hk,hkl,tot,_,z1,_,z2,_,z3⟩ rfl rfl)
theorem c4M (ns:List Str) (dn:D) (e:Ev) (h:Hp) (hd:SlOf 1 (fun s=>[D.str s]) ns dn) (hl:ns.length≤1000) (h0:0≤e.a0) (h9:e.a0≤9) (hn:∀ n∈ns,b1p n) (hf:b1n e.fs):∃ pt:Pt,R b0f [dn,b0N,.agg (evr e)] h=some (.agg (a2A pt),h)∧pt.k=a3E ns e∧pt.tot=e.a6:=by
 suffices Wp (R b0f [dn,b0N,.agg (evr e)] h) (fun p=>p.2=h∧∃ pt:Pt,p.1 = .agg (a2A pt)∧pt.k=a3E ns e∧pt.tot=e.a6) by
  obtain ⟨⟨x,h'⟩,h1,rfl,pt,rfl,h2⟩:=this
  exact ⟨pt,h1,h2⟩
 have hL:∀ g,a0c tab g a0R (.fptr (evr e))=some (.agg (evr e)):=fun g=>id rfl
 rw [c2V]
 simp only [b9n,a1I,bs,c9H,hL]
 have a0:(a0K h a0o 4 [[.nils,.nils,.nils,.nils]])[h.length]?=some (.row a0o 4 [[.nils,.nils,.nils,.nils]]):=a1n _ _ _ _
 have k0:∀ q,q<h.length→(a0K h a0o 4 [[.nils,.nils,.nils,.nils]])[q]?=h[q]?:=fun q hq=>a1h _ _ _ _ hq
 have n0:(a0K h a0o 4 [[.nils,.nils,.nils,.nils]]).length=h.length+1:=by simp [-bind_some, a0K]
 generalize a0K h a0o 4 [[.nils,.nils,.nils,.nils]]=g0 at *
 obtain ⟨kd,ek,hk⟩:=c4P ns dn e g0 hd hl h0 h9 hn
 have hkl:(a3E ns e).length≤1000000:=by simp [-bind_some, a3E];omega
 simp only [ek,bs,a9E kd (a0T hk)]
 have a1:(a0K g0 a0o 4 [[.nils,.nils,.nils,.nils]])[h.length+1]?=some (.row a0o 4 [[.nils,.nils,.nils,.nils]]):=by rw [← n0];exact a1n _ _ _ _
 have b1:(a0K g0 a0o 4 [[.nils,.nils,.nils,.nils]])[h.length]?=some (.row a0o 4 [[.nils,.nils,.nils,.nils]]):=by rw [a1h _ _ _ _ (by omega)];exact a0
 have k1:∀ q,q<h.length→(a0K g0 a0o 4 [[.nils,.nils,.nils,.nils]])[q]?=h[q]?:=fun q hq=>by rw [a1h _ _ _ _ (by omega)];exact k0 q hq
 have n1:(a0K g0 a0o 4 [[.nils,.nils,.nils,.nils]]).length=h.length+2:=by simp [-bind_some, a0K,n0]
 rw [n0]
 generalize a0K g0 a0o 4 [[.nils,.nils,.nils,.nils]]=g1 at *
 refine a9c (off:=0) (v := .agg [kd,.nils,.nils,.nils]) a1 (by rfl) (by rfl) (by show 0+4≤4;omega) (c4l (a0T hk) rfl rfl rfl) fun g2 p2 s2=>?_
 have p2:g2[h.length+1]?=some (.row a0o 4 [[kd,.nils,.nils,.nils]]):=p2
 have q2:g2[h.length]?=some (.row a0o 4 [[.nils,.nils,.nils,.nils]]):=by rw [s2.2 _ (by omega)];exact b1
 have k2:∀ q,q<h.length→g2[q]?=h[q]?:=fun q hq=>by rw [s2.2 q (by omega)];exact k1 q hq
 have n2:g2.length=h.length+2:=by rw [s2.1,n1]
 try simp only [bs,c9H]
 refine Wp.loop (fun k ds g=>(k=1∧nth 0 ds = .int .i64 0∧g=g2)∨(k=0∧nth 0 ds = .int .i64 1∧b9L h (a3E ns e) kd e.a6 g))
  (fun r=>r.1 = .ext 0∧b9L h (a3E ns e) kd e.a6 r.2.2) 1 (.inl ⟨rfl,rfl,rfl⟩) ?_ ?_
 ·rintro k ds g (⟨rfl,hds,rfl⟩ | ⟨rfl,hds,hfin⟩)
  ·have d0:decide ((0:Int)<1)=true:=by decide
   have q6:a0b tab a0R 6 (.fptr (evr e))=some (.fptr [.int .i64 e.a6,.str e.s7,.str e.s8,e.fd]):=id rfl
   have l6:∀ g,a0c tab g ty3 (.fptr [.int .i64 e.a6,.str e.s7,.str e.s8,e.fd])=some (.int .i64 e.a6):=fun g=>id rfl
   have lse:∀ g,a0c tab g ty9 (.fptr [.str []])=some (.str []):=fun g=>id rfl
   simp only [a6f,hds,bs,c9H,a4G,a0n,d0,a0f,if_true,b1x,b9Q,b6R,hL,b9P,lse,c4Q e g h0 h9 hf,a1c,c9K,c9L,b5O,b5P,a0U,decide_true,q6,l6,a0x,a0l,a0e,a0g,a7H,a7I,a7J,b1H,a9G,a9H .nils rfl,Nat.zero_add]
   refine c6d p2 (n0:=h.length+2) (by omega) (by omega) e.a6 true .nils rfl fun g' x1 x2 x3 r1 r2 r3 r4 r5 r6=>?_
   have w1:IntKind.wrap .i64 ((0:Int)+1)=1:=by decide
   simp only [bs,a0q,w1]
   exact .some (.inl ⟨rfl,0,by omega,.inr ⟨rfl,rfl,x1,x2,x3,by rw [r6 _ (by omega) (by omega)];exact q2,r1,r2,r3,r4,fun q hq=>by rw [r6 q (by omega) (by omega)];exact k2 q hq⟩⟩)
  ·have d0:decide ((1:Int)<1)=false:=by decide
   simp only [a6f,hds,bs,c9H,a4G,a0n,d0,a0f,c9I,if_false]
   exact .some (.inr ⟨by simp,rfl,hfin⟩)
 ·rintro ⟨ex,ds,g⟩ ⟨rfl,hfin⟩
  simp only [a0m,a0l,bs,c9H]
  exact b2m hk hkl hfin fun pt p1 p2=>⟨rfl,pt,rfl,p1,p2⟩
theorem c4n (p:Pt):a0b tab a0o 0 (.fptr (a2A p))=some (.fptr (a2A p)):=id rfl
theorem c6b (p:Pt):a0b tab a0o 1 (.fptr (a2A p))=some (.fptr [p.td,p.sd,p.vd]):=id rfl
theorem c8M (p:Pt):a0b tab a0o 2 (.fptr (a2A p))=some (.fptr [p.sd,p.vd]):=id rfl
theorem ptL (p:Pt) (h:Hp):a0c tab h a0o (.fptr (a2A p))=some (.agg (a2A p)):=id rfl
theorem c4o (p:Pt) (h:Hp):a0c tab h a0E (.fptr (a2A p))=some p.kd:=by
 have h1:=a0T p.hk
 show a0c tab h a0E (.fptr [p.kd,p.td,p.sd,p.vd])=_
 generalize p.kd=a at h1
 cases a <;> first | rfl | (simp [-bind_some, D.one] at h1)
theorem c6c (p:Pt) (h:Hp):a0c tab h a0V (.fptr [p.td,p.sd,p.vd])=some p.td:=by
 have h1:=a0T p.ht
 generalize p.td=a at h1
 cases a <;> first | rfl | (simp [-bind_some, D.one] at h1)
theorem c8N (p:Pt) (h:Hp):a0c tab h a0J (.fptr [p.sd,p.vd])=some p.sd:=by
 have h1:=a0T p.hs
 generalize p.sd=a at h1
 cases a <;> first | rfl | (simp [-bind_some, D.one] at h1)
theorem ptT (p:Pt):a0a tab a0V p.td (.int .i64 0)=some (.fptr [.int .i64 p.tot]):=by rw [b1a p.ht];rfl
theorem ptS (p:Pt):a0a tab a0J p.sd (.int .i64 0)=some (.fptr [.bool true]):=by rw [b7E p.hs];rfl
theorem b9T (b:Bool) (h:Hp):a0c tab h ty4 (.fptr [.bool b])=some (.bool b):=id rfl
theorem c4O (a b:Pt) (h:Hp):∃ pt:Pt,R b0g [b0N,.agg (a2A a),.agg (a2A b)] h=some (.agg (a2A pt),h)∧pt.k=a.k∧pt.tot=IntKind.wrap .i64 (a.tot+b.tot):=by
 suffices Wp (R b0g [b0N,.agg (a2A a),.agg (a2A b)] h) (fun p=>p.2=h∧∃ pt:Pt,p.1 = .agg (a2A pt)∧pt.k=a.k∧pt.tot=IntKind.wrap .i64 (a.tot+b.tot)) by
  obtain ⟨⟨x,h'⟩,h1,rfl,pt,rfl,h2⟩:=this
  exact ⟨pt,h1,h2⟩
 rw [c2W]
 simp only [b9o,a1I,bs,c9H,c4n,c4o,a9E a.kd (a0T a.hk)]
 have a0:(a0K h a0o 4 [[.nils,.nils,.nils,.nils]])[h.length]?=some (.row a0o 4 [[.nils,.nils,.nils,.nils]]):=a1n _ _ _ _
 have k0:∀ q,q<h.length→(a0K h a0o 4 [[.nils,.nils,.nils,.nils]])[q]?=h[q]?:=fun q hq=>a1h _ _ _ _ hq
 have n0:(a0K h a0o 4 [[.nils,.nils,.nils,.nils]]).length=h.length+1:=by simp [-bind_some, a0K]
 generalize a0K h a0o 4 [[.nils,.nils,.nils,.nils]]=g0 at *
 have a1:(a0K g0 a0o 4 [[.nils,.nils,.nils,.nils]])[h.length+1]?=some (.row a0o 4 [[.nils,.nils,.nils,.nils]]):=by rw [← n0];exact a1n _ _ _ _
 have b1:(a0K g0 a0o 4 [[.nils,.nils,.nils,.nils]])[h.length]?=some (.row a0o 4 [[.nils,.nils,.nils,.nils]]):=by rw [a1h _ _ _ _ (by omega)];exact a0
 have k1:∀ q,q<h.length→(a0K g0 a0o 4 [[.nils,.nils,.nils,.nils]])[q]?=h[q]?:=fun q hq=>by rw [a1h _ _ _ _ (by omega)];exact k0 q hq
 have n1:(a0K g0 a0o 4 [[.nils,.nils,.nils,.nils]]).length=h.length+2:=by simp [-bind_some, a0K,n0]
 rw [n0]
 generalize a0K g0 a0o 4 [[.nils,.nils,.nils,.nils]]=g1 at *
 refine a9c (off:=0) (v := .agg [a.kd,.nils,.nils,.nils]) a1 (by rfl) (by rfl) (by show 0+4≤4;omega) (c4l (a0T a.hk) rfl rfl rfl) fun g2 p2 s2=>?_
 have p2:g2[h.length+1]?=some (.row a0o 4 [[a.kd,.nils,.nils,.nils]]):=p2
 have q2:g2[h.length]?=some (.row a0o 4 [[.nils,.nils,.nils,.nils]]):=by rw [s2.2 _ (by omega)];exact b1
 have k2:∀ q,q<h.length→g2[q]?=h[q]?:=fun q hq=>by rw [s2.2 q (by omega)];exact k1 q hq
 have n2:g2.length=h.length+2:=by rw [s2.1,n1]
 try simp only [bs,c9H]
 refine Wp.loop (fun k ds g=>(k=1∧nth 0 ds = .int .i64 0∧g=g2)∨(k=0∧nth 0 ds = .int .i64 1∧b9L h a.k a.kd (IntKind.wrap .i64 (a.tot+b.tot)) g))
  (fun r=>r.1 = .ext 0∧b9L h a.k a.kd (IntKind.wrap .i64 (a.tot+b.tot)) r.2.2) 1 (.inl ⟨rfl,rfl,rfl⟩) ?_ ?_
 ·rintro k ds g (⟨rfl,hds,rfl⟩ | ⟨rfl,hds,hfin⟩)
  ·have d0:decide ((0:Int)<1)=true:=by decide
   simp only [a6m,hds,bs,c9H,a4G,a0n,d0,a0f,if_true,c6b,c6c,ptT,b0v,c8M,c8N,ptS,b9T,a1b,c9J,reduceCtorEq,if_false,a0F,b1x,b5O,b5P,a0U,decide_true,a0l,a0e,a0g,a0q,a0x,a7H,a7I,a7J,b1H,a9G,a9H .nils rfl,Nat.zero_add]
   refine c6d p2 (n0:=h.length+2) (by omega) (by omega) _ true .nils rfl fun g' x1 x2 x3 r1 r2 r3 r4 r5 r6=>?_
   have w1:IntKind.wrap .i64 ((0:Int)+1)=1:=by decide
   simp only [bs,a0q,w1]
   exact .some (.inl ⟨rfl,0,by omega,.inr ⟨rfl,rfl,x1,x2,x3,by rw [r6 _ (by omega) (by omega)];exact q2,r1,r2,r3,r4,fun q hq=>by rw [r6 q (by omega) (by omega)];exact k2 q hq⟩⟩)
  ·have d0:decide ((1:Int)<1)=false:=by decide
   simp only [a6m,hds,bs,c9H,a4G,a0n,d0,a0f,c9I,if_false]
   exact .some (.inr ⟨by simp,rfl,hfin⟩)
 ·rintro ⟨ex,ds,g⟩ ⟨rfl,hfin⟩
  simp only [a0m,a0l,bs,c9H]
  exact b2m a.hk a.hkl hfin fun pt p1 p2=>⟨rfl,pt,rfl,p1,p2⟩
theorem b1w {α:Type} {f:α→List D} {l:List α} {h':Hp} {n0 e z:Nat} {x':D} (ow:Own h' n0 e z (l.map f) x') (hf:∀ a∈l,∀ (n0:Nat) (h:Hp),∀ d∈f a,frz n0 h 2 d=d):SlOf z f l (b1v (x',h')).1∧h'.length≤(b1v (x',h')).2.length∧∀ q,q<n0→(b1v (x',h')).2[q]?=h'[q]?:=by
 rcases ow with ⟨rfl,hn⟩ | ⟨o,ho,rfl,hg⟩
 ·exact ⟨.inl ⟨rfl,by simpa using hn⟩,Nat.le_refl _,fun _ _=>rfl⟩
 ·have e:b1v (.msl z o 0 (l.map f).length,h')=(frz o h' 3 (.msl z o 0 (l.map f).length),a2y o h'):=rfl
  rw [e]
  have ow2:Own h' o _ z (l.map f) (.msl z o 0 (l.map f).length) := .inr ⟨o,Nat.le_refl _,rfl,hg⟩
  have hlt:=(c9X.1 hg).1
  refine ⟨a2f ow2 (Nat.le_refl _) fun a ha d hd=>hf a ha _ _ d hd,by simp [-bind_some, a2y];omega,fun q hq=>?_⟩
  unfold a2y
  rw [d0g (by simp;omega),List.getElem?_take,if_pos (by omega)]
def pc (p:Pt):List Str × Int:=(p.k,p.tot)
def mgP:List (List Str × Int)→List Str × Int→List (List Str × Int)
 | [],x=>[x]
 | y::r,x=>if a0Y y.1 x.1<0 then y::mgP r x else if a0Y y.1 x.1>0 then x::y::r else (y.1,IntKind.wrap .i64 (y.2+x.2))::r
theorem a8Q:∀ (l:List (List Str × Int)) (x:List Str × Int),(mgP l x).length≤l.length+1
 | [],x=>by simp [-bind_some, mgP]
 | y::r,x=>by
  have:=a8Q r x
  unfold mgP
  split
  ·simp [-bind_some];exact this
  ·split <;> simp [-bind_some]
theorem b7V (n0:Nat) (h:Hp) (n:Nat) (p:Pt):∀ d∈a2A p,frz n0 h (n+1) d=d:=fun d hd=>by
 simp only [a2A,d0c,List.not_mem_nil,or_false] at hd
 rcases hd with rfl | rfl | rfl | rfl
 ·exact a4m _ _ _ p.hk
 ·exact b2J _ _ _ p.ht
 ·exact a2x p.hs fun a _ x hx=>by simp at hx;subst hx;exact b0t _ _ _ _
 ·exact a2x p.hv fun a ha x hx=>by simp at ha hx;subst hx;subst ha;exact b0u _ _ _
theorem b7W (n:Nat) (p:Pt):∀ d∈a2A p,Ok n d:=fun d hd=>by
 simp only [a2A,d0c,List.not_mem_nil,or_false] at hd
 rcases hd with rfl | rfl | rfl | rfl
 ·exact a4s _ p.hk
 ·exact b2K _ p.ht
 ·exact a1j p.hs fun a _ x hx=>by simp at hx;subst hx;exact .bool _
 ·exact a1j p.hv fun a ha x hx=>by simp at ha hx;subst hx;subst ha;exact .nils
theorem a5T (p:Pt):a0A tab a0S 1 [0] [.agg (a2A p)]=some (.sl 4 true [a2A p]):=b4t _ _ _ _
theorem c4L (A:List Pt) (x:Pt) (da dx:D) (h:Hp) (hA:SlOf 4 a2A A da) (hx:SlOf 4 a2A [x] dx) (hl:A.length≤100000):∃ (P:List Pt) (d':D),R b0e [b0N,da,dx] h=some (d',h)∧SlOf 4 a2A P d'∧P.map pc=mgP (A.map pc) (pc x):=by
 suffices Wp (R b0e [b0N,da,dx] h) (fun p=>p.2=h∧∃ P:List Pt,SlOf 4 a2A P p.1∧P.map pc=mgP (A.map pc) (pc x)) by
  obtain ⟨⟨y,h'⟩,h1,rfl,P,h2,h3⟩:=this
  exact ⟨P,y,h1,h2,h3⟩
 rw [c2U]
 simp only [b9m,bs,c9H]
 obtain ⟨V,hV⟩:∃ V,V=mgP (A.map pc) (pc x):=⟨_,rfl⟩
 rw [← hV]
 have hVl:V.length≤A.length+1:=by rw [hV];have:=a8Q (A.map pc) (pc x);simpa using this
 refine Wp.loop (fun n ds g=>∃ d0 c3 c4 c5 c6 c7 c8,∃ (i k:Nat) (O:List Pt),ds=[d0,.int .i64 (i:Int),.int .i64 (k:Int),c3,c4,c5,c6,c7,c8]∧n+i+k=A.length+1∧i≤A.length∧Own g h.length a0o 4 (O.map a2A) d0∧h.length≤g.length∧(∀ q,q<h.length→g[q]?=h[q]?)∧O.length≤i+k ∧
   ((k=0∧V=O.map pc++mgP ((A.drop i).map pc) (pc x))∨(k=1∧V=O.map pc++(A.drop i).map pc)))
  (fun r=>r.1 = .ext 0∧∃ d0,nth 0 r.2.1=d0∧∃ O:List Pt,Own r.2.2 h.length a0o 4 (O.map a2A) d0∧h.length≤r.2.2.length∧(∀ q,q<h.length→r.2.2[q]?=h[q]?)∧V=O.map pc) (A.length+1)
  ⟨_,_,_,_,_,_,_,0,0,[],rfl,by omega,by omega,Own.nils _ _ _ _,Nat.le_refl _,fun _ _=>rfl,by simp,.inl ⟨rfl,by simpa using hV⟩⟩ ?_ ?_
 ·rintro n ds g ⟨d0,c3,c4,c5,c6,c7,c8,i,k,O,rfl,hn,hi,ow,hlen,hq,hO,hst⟩
  have hxlen:([x]:List Pt).length=1:=rfl
  have add1:∀ m:Nat,m≤200000→IntKind.wrap .i64 ((m:Int)+1)=((m+1:Nat):Int):=fun m hm=>by rw [wrap_i64 (by omega) (by omega)];omega
  have app:∀ (y:Pt) (g1:Hp) (_:g1=g) (f:D × Hp→Option Out) (Q:Out→Prop),(∀ x9 g2,Own g2 h.length a0o 4 ((O++[y]).map a2A) x9→h.length≤g2.length→(∀ q,q<h.length→g2[q]?=h[q]?)→Wp (f (x9,g2)) Q)→Wp ((a0p tab g1 a0S a0S d0 (.sl 4 true [a2A y])).bind f) Q:=fun y g1 hg1 f Q K=>by
   subst hg1
   refine b8w (n0:=h.length) hlen ow (a1e _ _ _ _) (by simp only [c9N,c9Y,c9Z];omega) fun x9 g2 o2 l2 b2 _ _=>?_
   exact K x9 g2 (by rw [c9O];exact o2) (by omega) fun q hq'=>by rw [b2 q hq'];exact hq q hq'
  have xix:a0a tab a0S dx (.int .i64 ((0:Nat):Int))=some (.fptr (a2A x)):=by rw [a6R hx];rfl
  simp only [a9m,a0e,a0g,bs,c9H,a2m hA,a2m hx,a0n,hxlen]
  rcases hst with ⟨rfl,hst⟩ | ⟨rfl,hst⟩
  ·by_cases hia:i<A.length
   ·have d1:decide ((i:Int)<(A.length:Int))=true:=decide_eq_true (by omega)
    have d3:decide (((0:Nat):Int)=((1:Nat):Int))=false:=by decide
    have d4:decide ((i:Int)=(A.length:Int))=false:=decide_eq_false (by omega)
    obtain ⟨u,hu⟩:=gx_ hia
    have uix:a0a tab a0S da (.int .i64 (i:Int))=some (.fptr (a2A u)):=by rw [a6R hA];simp [-bind_some, hu]
    rw [a1u hu,c9P] at hst
    unfold mgP at hst
    simp only [d1,a1b,c9J,reduceCtorEq,if_false,bs,a0F,if_true,a0f,a2m hx,hxlen,a0U,d3,c9I,a2m hA,d4,uix,c4n,c4o,xix,c4I u.k x.k u.kd x.kd g u.hk x.hk u.hkl x.hkl,a0x,a0l,a0e,a0g,a0n,a1m]
    by_cases c1:a0Y u.k x.k<0
    ·rw [if_pos (show a0Y (pc u).1 (pc x).1<0 from c1)] at hst
     simp only [c1,decide_true,if_true,uix,ptL,a5T,bs]
     try simp only [c9H]
     refine app u g rfl _ _ fun x9 g2 o2 l2 b2=>?_
     simp only [bs,a0q,add1 i (by omega),a0x,a0e,a0g]
     exact .some (.inl ⟨rfl,n - 1,by omega,_,_,_,_,_,_,_,i+1,0,O++[u],rfl,by omega,by omega,o2,l2,b2,by simp;omega,.inl ⟨rfl,by rw [hst];simp [-bind_some]⟩⟩)
    ·rw [if_neg (show ¬ a0Y (pc u).1 (pc x).1<0 from c1)] at hst
     by_cases c2:a0Y u.k x.k>0
     ·rw [if_pos (show a0Y (pc u).1 (pc x).1>0 from c2)] at hst
      simp only [c1,c2,decide_true,decide_false,c9I,if_false,if_true,xix,ptL,a5T,bs]
      try simp only [c9H]
      refine app x g rfl _ _ fun x9 g2 o2 l2 b2=>?_
      simp only [bs,a0q,add1 0 (by omega),a0x,a0e,a0g]
      exact .some (.inl ⟨rfl,n - 1,by omega,_,_,_,_,_,_,_,i,1,O++[x],rfl,by omega,by omega,o2,l2,b2,by simp;omega,.inr ⟨rfl,by rw [hst,a1u hu];simp [-bind_some]⟩⟩)
     ·rw [if_neg (show ¬ a0Y (pc u).1 (pc x).1>0 from c2)] at hst
      obtain ⟨pt,e1,p1,p2⟩:=c4O u x g
      simp only [c1,c2,decide_false,c9I,if_false,uix,xix,ptL,e1,a5T,bs]
      try simp only [c9H]
      refine app pt g rfl _ _ fun x9 g2 o2 l2 b2=>?_
      simp only [bs,a0q,add1 0 (by omega),add1 i (by omega),a0x,a0e,a0g]
      exact .some (.inl ⟨rfl,n - 2,by omega,_,_,_,_,_,_,_,i+1,1,O++[pt],rfl,by omega,by omega,o2,l2,b2,by simp;omega,.inr ⟨rfl,by rw [hst];simp [-bind_some, pc,p1,p2]⟩⟩)
   ·have hia:i=A.length:=by omega
    subst hia
    have d1:decide ((A.length:Int)<(A.length:Int))=false:=decide_eq_false (by omega)
    have d2:decide (((0:Nat):Int)<((1:Nat):Int))=true:=by decide
    have d3:decide (((0:Nat):Int)=((1:Nat):Int))=false:=by decide
    have d4:decide ((A.length:Int)=(A.length:Int))=true:=decide_eq_true rfl
    have d5:decide ((1:Int)<0)=false:=by decide
    have d6:decide ((1:Int)>0)=true:=by decide
    rw [List.drop_length] at hst
    have hst:V=O.map pc++[pc x]:=hst
    simp only [d1,a1b,if_true,bs,a2m hx,hxlen,a0n,d2,a0F,c9I,if_false,a0f,a0U,d3,a2m hA,d4,decide_true,a0x,a0l,a0e,a0g,d5,a1m,d6,xix,ptL,a5T]
    try simp only [c9H]
    refine app x g rfl _ _ fun x9 g2 o2 l2 b2=>?_
    simp only [bs,a0q,add1 0 (by omega),a0x,a0e,a0g]
    exact .some (.inl ⟨rfl,n - 1,by omega,_,_,_,_,_,_,_,A.length,1,O++[x],rfl,by omega,by omega,o2,l2,b2,by simp;omega,.inr ⟨rfl,by rw [hst];simp [-bind_some]⟩⟩)
  ·by_cases hia:i<A.length
   ·have d1:decide ((i:Int)<(A.length:Int))=true:=decide_eq_true (by omega)
    have d3:decide (((1:Nat):Int)=((1:Nat):Int))=true:=by decide
    have d5:decide ((-1:Int)<0)=true:=by decide
    obtain ⟨u,hu⟩:=gx_ hia
    have uix:a0a tab a0S da (.int .i64 (i:Int))=some (.fptr (a2A u)):=by rw [a6R hA];simp [-bind_some, hu]
    rw [a1u hu,c9P] at hst
    simp only [d1,a1b,c9J,reduceCtorEq,if_false,bs,a0F,if_true,a0f,a2m hx,hxlen,a0U,d3,decide_true,a0x,a0l,a0e,a0g,a0n,d5,uix,ptL,a5T]
    try simp only [c9H]
    refine app u g rfl _ _ fun x9 g2 o2 l2 b2=>?_
    simp only [bs,a0q,add1 i (by omega),a0x,a0e,a0g]
    exact .some (.inl ⟨rfl,n - 1,by omega,_,_,_,_,_,_,_,i+1,1,O++[u],rfl,by omega,by omega,o2,l2,b2,by simp;omega,.inr ⟨rfl,by rw [hst];simp [-bind_some]⟩⟩)
   ·have hia:i=A.length:=by omega
    subst hia
    have d1:decide ((A.length:Int)<(A.length:Int))=false:=decide_eq_false (by omega)
    have d2:decide (((1:Nat):Int)<((1:Nat):Int))=false:=by decide
    rw [List.drop_length] at hst
    simp only [d1,a1b,if_true,bs,a2m hx,hxlen,a0n,d2,a0F,c9I,if_false,a0f]
    exact .some (.inr ⟨by simp,rfl,_,rfl,O,ow,hlen,hq,by simpa using hst⟩)
 ·rintro ⟨ex,ds,g⟩ ⟨rfl,d0,hd0,O,ow,hlen,hq,hst⟩
  replace hd0:nth 0 ds=d0:=hd0
  simp only [a0m,a0l,bs,a0e,hd0,a0r]
  have hs:=a2f (n0:=h.length) (n:=3) ow (Nat.le_refl _) fun p _=>b7V _ _ _ p
  have hsc:scope h g d0=some (frz h.length g 4 d0,h):=a1s rfl (a1j hs fun p _=>b7W _ p) hlen hq
  rw [hsc]
  exact .some ⟨rfl,O,hs,hst.symm⟩
def b4F (ns:List Str):List Ev→List (List Str × Int)
 | l=>l.foldl (fun c e=>mgP c (a3E ns e,e.a6)) []
structure CtOK (ns:List Str) (dn:D):Prop where
 hd:SlOf 1 (fun s=>[D.str s]) ns dn
 hl:ns.length≤1000
 hn:∀ n∈ns,b1p n
theorem c4J {ns:List Str} {dn:D} (C:CtOK ns dn) (A:List Pt) (da:D) (e:Ev) (h:Hp) (hA:SlOf 4 a2A A da) (hl:A.length≤100000) (h0:0≤e.a0) (h9:e.a0≤9) (hf:b1n e.fs):∃ (P:List Pt) (d':D),R b2r [da,dn,b0N,.agg (evr e)] h=some (d',h)∧SlOf 4 a2A P d'∧P.map pc=mgP (A.map pc) (a3E ns e,e.a6):=by
 have hL:∀ g,a0c tab g a0R (.fptr (evr e))=some (.agg (evr e)):=fun g=>id rfl
 obtain ⟨pt,e1,p1,p2⟩:=c4M ns dn e h C.hd C.hl h0 h9 C.hn hf
 obtain ⟨P,d',e2,h2,h3⟩:=c4L A pt da (.sl 4 true [a2A pt]) h hA (.inr ⟨true,rfl⟩) hl
 refine ⟨P,d',?_,h2,by rw [h3];simp [-bind_some, pc,p1,p2]⟩
 rw [c2S]
 simp only [b9k,a1I,bs,hL,e1,a5T,e2,a0r]
theorem c4D {ns:List Str} {dn:D} (C:CtOK ns dn) (l:List Ev) (dl:D) (h:Hp) (hd:SlOf 10 evr l dl) (hl:l.length≤1000) (he:∀ e∈l,0≤e.a0∧e.a0≤9∧b1n e.fs):∃ (P:List Pt) (d':D),R a9Z [dn,b0N,dl] h=some (d',h)∧SlOf 4 a2A P d'∧P.map pc=b4F ns l∧P.length≤l.length:=by
 suffices Wp (R a9Z [dn,b0N,dl] h) (fun p=>p.2=h∧∃ P:List Pt,SlOf 4 a2A P p.1∧P.map pc=b4F ns l∧P.length≤l.length) by
  obtain ⟨⟨y,h'⟩,h1,rfl,P,h2,h3⟩:=this
  exact ⟨P,y,h1,h2,h3⟩
 rw [c2J]
 simp only [b9c,bs,c9H]
 refine Wp.loop (fun n ds g=>g=h∧∃ d0 c,∃ (i:Nat) (P:List Pt),ds=[d0,.int .i64 (i:Int),c]∧n+i=l.length∧SlOf 4 a2A P d0∧P.map pc=b4F ns (l.take i)∧P.length≤i)
  (fun r=>r.1 = .ext 0∧r.2.2=h∧∃ P:List Pt,SlOf 4 a2A P (nth 0 r.2.1)∧P.map pc=b4F ns l∧P.length≤l.length) l.length ⟨rfl,_,_,0,[],rfl,rfl,.nils _ _,by simp [-bind_some, b4F],by simp⟩ ?_ ?_
 ·rintro n ds g ⟨rfl,d0,c,i,P,rfl,hn,hP,hc,hPl⟩
  simp only [a9g,a0e,a0g,bs,c9H,b2S hd,a0n]
  refine Wp.dif ?_ ?_
  ·intro h0
   have h0:i<l.length:=dl_ h0
   obtain ⟨u,hu⟩:=gx_ h0
   obtain ⟨a1,a2,a3⟩:=he u (c9V hu)
   have hw:=wi_ i (by omega)
   have hix:a0a tab a3Y dl (.int .i64 (i:Int))=some (.fptr (evr u)):=by rw [b5h hd];simp [-bind_some, hu]
   have hL:a0c tab g a0R (.fptr (evr u))=some (.agg (evr u)):=id rfl
   obtain ⟨P2,d2,e2,h2,h3⟩:=c4J C P d0 u g hP (by omega) a1 a2 a3
   have hlen2:P2.length≤i+1:=by
    have h4:=a8Q (P.map pc) (a3E ns u,u.a6)
    rw [← h3] at h4
    simp at h4;omega
   simp only [hix,hL,e2,bs,a0q,hw]
   refine .some (.inl ⟨rfl,n - 1,by omega,rfl,_,_,i+1,P2,rfl,by omega,h2,?_,hlen2⟩)
   rw [h3,hc,c9T,hu]
   simp [-bind_some, b4F]
  ·intro h0
   have h0:l.length≤i:=by
    have:¬ (i:Int)<l.length:=by simpa using h0
    omega
   rw [List.take_of_length_le h0] at hc
   exact .some (.inr ⟨by simp,rfl,rfl,P,hP,hc,by omega⟩)
 ·rintro ⟨ex,ds,g⟩ ⟨rfl,h2,P,hP,hc,hPl⟩
  simp only at h2
  subst h2
  simp only [a0m,a0l,bs,a0e,a0r]
  exact .some ⟨rfl,P,hP,hc,hPl⟩
def b8S (c:List Str × Int):List Str × List Int × Int:=(c.1,[c.2],0)
theorem c4C (P:List Pt) (da dp:D) (h:Hp) (hP:SlOf 4 a2A P dp) (hl:P.length≤1000):∃ (L:List Rw) (d':D),R a9Y [da,dp] h=some (d',h)∧SlOf 3 a0C L d'∧L.map a2n=(P.map pc).map b8S:=by
 suffices Wp (R a9Y [da,dp] h) (fun p=>p.2=h∧∃ L:List Rw,SlOf 3 a0C L p.1∧L.map a2n=(P.map pc).map b8S) by
  obtain ⟨⟨y,h'⟩,h1,rfl,L,h2,h3⟩:=this
  exact ⟨L,y,h1,h2,h3⟩
 rw [c2I]
 simp only [b9b,bs,c9H]
 refine Wp.loop (fun n ds g=>∃ d0 c,∃ (i:Nat) (L:List Rw),ds=[d0,.int .i64 (i:Int),c]∧n+i=P.length∧Own g h.length a0k 3 (L.map a0C) d0∧h.length≤g.length∧(∀ q,q<h.length→g[q]?=h[q]?)∧L.map a2n=((P.take i).map pc).map b8S)
  (fun r=>r.1 = .ext 0∧∃ d0,nth 0 r.2.1=d0∧∃ L:List Rw,Own r.2.2 h.length a0k 3 (L.map a0C) d0∧h.length≤r.2.2.length∧(∀ q,q<h.length→r.2.2[q]?=h[q]?)∧L.map a2n=(P.map pc).map b8S) P.length ⟨_,_,0,[],rfl,rfl,Own.nils _ _ _ _,Nat.le_refl _,fun _ _=>rfl,by simp⟩ ?_ ?_
 ·rintro n ds g ⟨d0,c,i,L,rfl,hn,ow,hlen,hq,hL⟩
  simp only [a9f,a0e,a0g,bs,c9H,a2m hP,a0n]
  refine Wp.dif ?_ ?_
  ·intro h0
   have h0:i<P.length:=dl_ h0
   obtain ⟨u,hu⟩:=gx_ h0
   have hw:=wi_ i (by omega)
   have uix:a0a tab a0S dp (.int .i64 (i:Int))=some (.fptr (a2A u)):=by rw [a6R hP];simp [-bind_some, hu]
   have hukl:=u.hkl
   simp only [uix,c4n,c4o,bs]
   refine b8A (n0:=g.length) (rows:=[]) (Nat.le_refl _) (.nils _ _ _ _) (a2q _ u.hk) (by simp only [c9N,c9Z];omega) fun x1 g1 o1 l1 b1 _ _=>?_
   rw [List.nil_append] at o1
   obtain ⟨s1,m1,c1⟩:=b1w (f:=fun s=>[D.str s]) o1 fun a _ n0 h d hd=>by simp at hd;subst hd;exact a4f _ _ _ _
   generalize b1v (x1,g1)=p1 at s1 m1 c1 ⊢
   obtain ⟨x1,g1'⟩:=p1
   simp only at s1 m1 c1 ⊢
   have k1:∀ q,q<g.length→g1'[q]?=g[q]?:=fun q hq'=>by rw [c1 q hq',b1 q hq']
   try simp only [c6b,c6c,bs]
   refine c1x (n0:=g1'.length) (rows:=[]) (Nat.le_refl _) (.nils _ _ _ _) (a2q _ u.ht) (by simp) fun x2 g2 o2 l2 b2 _ _=>?_
   rw [List.nil_append] at o2
   obtain ⟨s2,m2,c2⟩:=b1w (f:=inr) o2 fun a _ n0 h d hd=>by simp [-bind_some, inr] at hd;subst hd;exact a4e _ _ _ _ _
   generalize b1v (x2,g2)=p2 at s2 m2 c2 ⊢
   obtain ⟨x2,g2'⟩:=p2
   simp only at s2 m2 c2 ⊢
   have k2:∀ q,q<g.length→g2'[q]?=g[q]?:=fun q hq'=>by rw [c2 q (by omega),b2 q (by omega),k1 q hq']
   have hb:a0P tab a0k [0,1] [x1,x2]=some (.agg [x1,x2,.int .i64 0]):=b0O x1 x2 (a0T s1) (a0T s2)
   have hlit:a0A tab a0t 1 [0] [.agg [x1,x2,.int .i64 0]]=some (.sl 3 true [[x1,x2,.int .i64 0]]):=a9F _ _ _
   have ow2:Own g2' h.length a0k 3 (L.map a0C) d0:=ow.keep fun q hq' hx=>k2 q (ow.lt hx).2
   have hLl:L.length≤i:=by
    have h4:=congrArg List.length hL
    simp at h4;omega
   try simp only [hb,hlit,bs,c9H]
   refine b3T (n0:=h.length) (by omega) ow2 (a1e _ _ _ _) (by simp only [c9N,c9Y,c9Z];omega) fun x3 g3 o3 l3 b3 _ _=>?_
   have hr:L.map a0C++[[x1,x2,.int .i64 0]]=(L++[(⟨u.k,x1,s1,u.hkl,[u.tot],x2,s2,by simp,0⟩:Rw)]).map a0C:=by simp [-bind_some, a0C]
   rw [hr] at o3
   simp only [a1l,bs,a0q,hw]
   refine .some (.inl ⟨rfl,n - 1,by omega,_,_,i+1,_,rfl,by omega,o3,by show h.length≤g3.length;omega,fun q hq'=>by rw [b3 q hq',k2 q (by omega)];exact hq q hq',?_⟩)
   rw [c9O,hL,c9T,hu]
   simp [-bind_some, a2n,b8S,pc]
  ·intro h0
   have h0:P.length≤i:=by
    have:¬ (i:Int)<P.length:=by simpa using h0
    omega
   rw [List.take_of_length_le h0] at hL
   exact .some (.inr ⟨by simp,rfl,_,rfl,L,ow,hlen,hq,hL⟩)
 ·rintro ⟨ex,ds,g⟩ ⟨rfl,d0,hd0,L,ow,hlen,hq,hL⟩
  replace hd0:nth 0 ds=d0:=hd0
  simp only [a0m,a0l,bs,a0e,hd0,a0r]
  have hs:=a2f (n0:=h.length) (n:=3) ow (Nat.le_refl _) fun p _=>a7d _ _ _ p
  have hsc:scope h g d0=some (frz h.length g 4 d0,h):=a1s rfl (a1j hs fun p _=>a8X _ p) hlen hq
  rw [hsc]
  exact .some ⟨rfl,L,hs,hL⟩
theorem c4A {ns:List Str} {dn:D} (C:CtOK ns dn) (l:List Ev) (dl:D) (h:Hp) (hd:SlOf 10 evr l dl) (hl:l.length≤1000) (he:∀ e∈l,0≤e.a0∧e.a0≤9∧b1n e.fs):∃ (L:List Rw) (d':D),R a7L [dn,dl] h=some (d',h)∧SlOf 3 a0C L d'∧L.map a2n=(b4F ns l).map b8S∧L.length≤l.length:=by
 obtain ⟨P,dp,e1,h1,h2,h3⟩:=c4D C l dl h hd hl he
 obtain ⟨L,d',e2,h4,h5⟩:=c4C P b0N dp h h1 (by omega)
 refine ⟨L,d',?_,h4,by rw [h5,h2],?_⟩
 ·have hag:(D.sl 2 true [[.int .i64 0,.str []]])=b0N:=rfl
  rw [c2E]
  simp only [b8Y,bs,b6W,b4s,hag,e1,e2,a0r]
 ·have h6:=congrArg List.length h5
  simp at h6;omega
theorem b6S {T:Tab} {t e:Nat} {i j:TI} (ht:T t=Option.some i) (hi:i.td = .sl e) (he:T e=Option.some j) (hz:0<j.sz) {h:Hp} {rows ys:List (List D)} {y:D} (hy:a0L h j.sz y=Option.some ys) (hl:lim (rows.length+ys.length) j.by_=true) (hne:ys≠[]) :
  ∃ x' h',a0p T h t t (.sl j.sz true rows) y=Option.some (x',h')∧h.length≤h'.length∧(∀ q,q<h.length→h'[q]?=h[q]?)∧Own h' h.length e j.sz (rows++ys) x':=by
 have hz':Nat.blt 0 j.sz=true:=Nat.ble_eq_true_of_le hz
 have hs:a7C h i j y=Option.some ys:=by simp [-bind_some, a7C,hi,hy]
 unfold a0p
 simp only [ht,hi,he,hz',hs]
 cases ys with
 | nil=>exact absurd rfl hne
 | cons y1 yr =>
  simp only [hl,and_self,if_true,true_and]
  exact ⟨_,_,rfl,by simp [-bind_some, a0K],fun q hq=>by simp only [a0K];rw [d0g hq],.inr ⟨h.length,Nat.le_refl _,by simp,by simp [-bind_some, a0K]⟩⟩
theorem c2w {h:Hp} {o:Nat} (hc:CD h o):∃ s h',R b2q [.ptr o 0 0] h=some (.str s,h')∧CD h' o∧Same o h h'∧s∈lt98_46:=by
 obtain ⟨v,h',h1,h2,h3,h4,h5⟩:=a1v hc 4 (by omega) (by omega)
 obtain ⟨s,hs,hg⟩:=a2N lt98_46 v h4 h5
 refine ⟨s,h',?_,h2,h3,hs⟩
 rw [c2R];simp [-bind_some, b9j,h1,h4,hg]
theorem c2v {h:Hp} {o:Nat} (hc:CD h o):∃ ns dn h',R a9X [.ptr o 0 0] h=some (dn,h')∧CD h' o∧Same o h h'∧CtOK ns dn:=by
 suffices Wp (R a9X [.ptr o 0 0] h) (fun p=>CD p.2 o∧Same o h p.2∧∃ ns,CtOK ns p.1) by
  obtain ⟨⟨x,h'⟩,h1,h2,h3,ns,h4⟩:=this
  exact ⟨ns,x,h',h1,h2,h3,h4⟩
 have ok45:∀ s∈lt98_45,b1p s:=by unfold b1p;decide
 have ok46:∀ s∈lt98_46,b1p s:=by unfold b1p;decide
 rw [c2H]
 simp only [b9a,bs,c9H,b1b]
 obtain ⟨v,h1,e1,c1,s1,v0,v1⟩:=a1v hc 5 (by omega) (by omega)
 obtain ⟨s,hs,hg⟩:=a2N lt98_45 v v0 v1
 have S1:St h o h1:=(St.refl hc).next c1 s1
 refine Wp.step e1 ?_
 simp only [bs,c9H]
 have hix:a0a tab a0E (.sl 1 true (lt98_45.map fun s=>[D.str s])) (.int .i64 v)=some (.fptr [.str s]):=by
  have:=a6S (SlOf.mk 1 (fun s=>[D.str s]) lt98_45 true) v
  rw [this,if_pos v0,hg];rfl
 simp only [hix,a5l,a9I,bs,c9H]
 obtain ⟨w,h2,e2,c2,s2,w0,w1⟩:=a1v S1.cd 2 (by omega) (by omega)
 have S2:=S1.next c2 s2
 refine Wp.step e2 ?_
 simp only [a0U,bs]
 refine Wp.join (P:=fun r=>∃ x g,∃ ns:List Str,r=(.nrm,[x],g)∧St h o g∧(SlOf 1 (fun s=>[D.str s]) ns x∨Own g h.length ty9 1 (ns.map fun s=>[D.str s]) x)∧ns.length≤2∧∀ n∈ns,b1p n) ?_ ?_ ?_
 ·intro _
  obtain ⟨u,h3,e3,c3,s3,hu⟩:=c2w S2.cd
  have S3:=S2.next c3 s3
  refine Wp.step e3 ?_
  simp only [a9I,bs,c9H]
  obtain ⟨x',g,e4,l4,q4,o4⟩:=b6S (T:=tab) (t:=a0E) (i:=b8q) (j:=ti9) (id rfl) (id rfl) (id rfl) (by decide) (h:=h3) (rows:=[[.str s]]) (y := .sl 1 true [[.str u]]) (ys:=[[.str u]]) (a1e _ _ _ _) (by rfl) (by simp)
  have e4:a0p tab h3 a0E a0E (.sl 1 true [[.str s]]) (.sl 1 true [[.str u]])=some (x',g):=e4
  simp only [e4,bs]
  refine .some ⟨x',g,[s,u],rfl,S3.app l4 fun q hq=>q4 q (by have:=S3.le;omega),.inr (o4.from S3.le),by simp,fun n hn=>?_⟩
  simp at hn
  rcases hn with rfl | rfl
  ·exact ok45 _ hs
  ·exact ok46 _ hu
 ·intro _
  exact .some ⟨_,_,[s],rfl,S2,.inl (.inr ⟨true,rfl⟩),by simp,fun n hn=>by simp at hn;subst hn;exact ok45 _ hs⟩
 ·rintro r ⟨x,g,ns,rfl,S,hx,hl,hn⟩
  simp only [a0l,bs,a0e,a0r]
  have hs4:SlOf 1 (fun s=>[D.str s]) ns (frz h.length g 4 x):=by
   rcases hx with hx | hx
   ·rw [a4m _ _ 3 hx];exact hx
   ·exact a2f hx (Nat.le_refl _) fun a _ y hy=>by simp at hy;subst hy;exact a4f _ _ _ _
  obtain ⟨h',e,cd,sm⟩:=S.scope (d:=x) rfl (a4s _ hs4)
  rw [e]
  exact .some ⟨cd,sm,ns,hs4,by omega,hn⟩
theorem c4z (zs:List Int) (d:D) (h:Hp) (hd:a3J .u8 zs d) (hz:∀ z∈zs,0≤z∧z<256):∃ (ns:List Str) (l:List Ev) (dn dl:D) (sz:Int) (o:Nat) (h':Hp),R a5I [d] h=some (.tup [dn,dl,.int .i64 sz,.ptr o 0 0],h')∧CD h' o∧CtOK ns dn∧SlOf 10 evr l dl∧a2T l∧l.length≤600∧1≤sz∧sz≤5:=by
 obtain ⟨h0,e0,c0,l0⟩:=d44 zs d 500 h hd (by omega) (by omega) hz
 obtain ⟨ns,dn,h1,e1,c1,s1,C⟩:=c2v c0
 obtain ⟨dl,h2,e2,c2,s2,l,hl,hok,hll⟩:=d48 c1 7 (by omega) (by omega)
 obtain ⟨v,h3,e3,c3,s3,v0,v1⟩:=a1v c2 5 (by omega) (by omega)
 have w:IntKind.wrap .i64 (1+v)=1+v:=wrap_i64 (by omega) (by omega)
 refine ⟨ns,l,dn,dl,1+v,h.length,h3,?_,c3,C,hl,hok,hll,by omega,by omega⟩
 rw [c2D]
 simp only [b8X,bs,e0,e1,e2,e3,a0q,w]
 rfl
def b9M (l:List (List Str × Int)):Prop:=l.Pairwise fun a b=>a0Y a.1 b.1<0
theorem b3g:∀ (l:List (List Str × Int)) (x z:List Str × Int),z∈mgP l x→z.1=x.1∨∃ y∈l,z.1=y.1
 | [],x,z,h=>by simp [-bind_some, mgP] at h;subst h;exact .inl rfl
 | y::r,x,z,h=>by
  unfold mgP at h
  split at h
  ·rcases d0c.1 h with rfl | h
   ·exact .inr ⟨z,by simp,rfl⟩
   ·rcases b3g r x z h with h | ⟨w,hw,h⟩
    ·exact .inl h
    ·exact .inr ⟨w,by simp [-bind_some, hw],h⟩
  ·split at h
   ·rcases d0c.1 h with rfl | h
    ·exact .inl rfl
    ·exact .inr ⟨z,h,rfl⟩
   ·rcases d0c.1 h with rfl | h
    ·exact .inr ⟨y,by simp,rfl⟩
    ·exact .inr ⟨z,by simp [-bind_some, h],rfl⟩
theorem a8P:∀ (l:List (List Str × Int)) (x:List Str × Int),b9M l→b9M (mgP l x)
 | [],x,_=>by simp [-bind_some, mgP,b9M]
 | y::r,x,h=>by
  have hr:=List.pairwise_cons.1 h
  have ih:=a8P r x hr.2
  unfold mgP
  split
  ·rename_i h1
   refine List.pairwise_cons.2 ⟨fun z hz=>?_,ih⟩
   rcases b3g r x z hz with e | ⟨w,hw,e⟩
   ·rw [e];exact h1
   ·rw [e];exact hr.1 w hw
  ·split
   ·rename_i h1 h2
    have hxy:a0Y x.1 y.1<0:=by rw [a1Q] ;omega
    refine List.pairwise_cons.2 ⟨fun z hz=>?_,h⟩
    rcases d0c.1 hz with rfl | hz
    ·exact hxy
    ·exact a4h hxy (hr.1 z hz)
   ·exact List.pairwise_cons.2 ⟨fun z hz=>hr.1 z hz,hr.2⟩
theorem b4W {l:List Ev} (h:a2T l):∀ e∈l,0≤e.a0∧e.a0≤9∧b1n e.fs:=fun e he=>by
 obtain ⟨h1,h2,h3,_⟩:=h.1 e he
 obtain ⟨_,_,_,_,_,_,h4,_⟩:=h1.ev rfl
 exact ⟨by omega,by omega,h4⟩
def rwa:Rw:=⟨[],.nils,.nils _ _,by simp,[1],.sl 1 true [[.int .i64 1]],.inr ⟨true,rfl⟩,by simp,0⟩
def rwb:Rw:=⟨[[98]],.sl 1 true [[.str [98]]],.inr ⟨true,rfl⟩,by simp,[2],.sl 1 true [[.int .i64 2]],.inr ⟨true,rfl⟩,by simp,0⟩
theorem c4y (h:Hp):R a5H [] h=some (.bool true,h):=by
 obtain ⟨C,d',e,hp,hs,hd⟩:=c0Y [rwa,rwb] (.sl 3 true [a0C rwa,a0C rwb]) 1 h (.inl (.inr ⟨true,rfl⟩)) (by simp)
 have hE:[rwb,rwa].Pairwise rS:=by
  refine List.pairwise_cons.2 ⟨fun x hx=>?_,by simp⟩
  simp at hx
  subst hx
  rw [b0G]
  left
  decide
 have hC:C=[rwb,rwa]:=b3t hs hE (hp.trans (List.Perm.swap _ _ _)) (by
  have:=(hp.map Rw.k).nodup_iff
  rw [this]
  simp [-bind_some, rwa,rwb])
 subst hC
 have hcut:a4z 1 ([rwa,rwb]:List Rw).length=1:=by decide
 rw [hcut] at hd
 have hd:SlOf 3 a0C [rwb] d':=hd
 have hb1:a0P tab a0k [1] [.sl 1 true [[.int .i64 1]]]=some (.agg (a0C rwa)):=id rfl
 have hb2:a0P tab a0k [0,1] [.sl 1 true [[.str [98]]],.sl 1 true [[.int .i64 2]]]=some (.agg (a0C rwb)):=id rfl
 have hl:a0A tab a0t 2 [0,1] [.agg (a0C rwa),.agg (a0C rwb)]=some (.sl 3 true [a0C rwa,a0C rwb]):=b4r _ _ _ _ _ _
 have h1:a0A tab a0V 1 [0] [.int .i64 1]=some (.sl 1 true [[.int .i64 1]]):=id rfl
 have h2:a0A tab a0V 1 [0] [.int .i64 2]=some (.sl 1 true [[.int .i64 2]]):=id rfl
 have h3:a0A tab a0E 1 [0] [.str [98]]=some (.sl 1 true [[.str [98]]]):=id rfl
 have hix:a0a tab a0t d' (.int .i64 0)=some (.fptr (a0C rwb)):=by rw [a8L hd];rfl
 have hn:a0w tab a0V rwb.nd=some (.int .i64 1):=id rfl
 have hi:a0a tab a0V rwb.nd (.int .i64 0)=some (.fptr [.int .i64 2]):=id rfl
 rw [c2C]
 simp only [b8W,bs,h1,h2,h3,hb1,hb2,hl,e,a2L hd,List.length_singleton,Int.natCast_one,a0U,decide_true,a1b,if_true,hix,c4w,c4x,hn,a0F,hi,b0v,a0r]
abbrev FM:=Int × Int
def c4k:Nat→Cur→List FM × Cur
 | 0,s=>([],s)
 | n+1,s=>if s.2=true then ([],s) else (((b6r s).1,(b6r (b6r s).2).1)::(c4k n (b6r (b6r s).2).2).1,(c4k n (b6r (b6r s).2).2).2)
def dN (l:List Int):Nat:=(num ((l.drop 4).take 4)).toNat
def dS0 (l:List Int):Cur:=((l.take (8+dN l)).drop 8,false)
def dA (l:List Int):Int × Cur:=b6r (dS0 l)
def dM (l:List Int):List FM × Cur:=c4k (c5X (dA l).2).1.toNat (c5X (dA l).2).2
abbrev Cn:=List Str × Int × Int
def a8y:List Cn→Cn→List Cn
 | [],x=>[x]
 | y::r,x=>if a0Y y.1 x.1<0 then y::a8y r x else x::y::r
def a6y (S:List Cn) (k:List Str) (w:Int):List Cn:=S.map fun c=>if c.1=k then (c.1,c.2.1+w,c.2.2) else c
def lst (S:List Cn):Nat→Nat
 | 0=>0
 | i+1=>if ((S[i]?).getD ([],0,0)).2.1<((S[lst S i]?).getD ([],0,0)).2.1 then i else lst S i
def a6Z (S:List Cn):Int:=((S[lst S S.length]?).getD ([],0,0)).2.1
def obs (size:Int) (S:List Cn) (k:List Str) (w:Int):List Cn :=
 if k∈S.map (·.1) then a6y S k w
 else if (S.length:Int)<size then a8y S (k,w,0)
 else a8y (S.eraseIdx (lst S S.length)) (k,a6Z S+w,a6Z S)
theorem b6o (S:List Cn):∀ n,n≤S.length→0<n→lst S n<n
 | 0,_,h=>by omega
 | n+1,hn,_=>by
  unfold lst
  split
  ·omega
  ·by_cases h:n=0
   ·subst h;show lst S 0<1;unfold lst;omega
   ·have:=b6o S n (by omega) (by omega);omega
theorem b6n (S:List Cn):∀ n,n≤S.length→∀ i c,i<n→S[i]?=some c→((S[lst S n]?).getD ([],0,0)).2.1≤c.2.1
 | 0,_,i,c,h,_=>by omega
 | n+1,hn,i,c,h,hc=>by
  unfold lst
  by_cases hi:i=n
  ·subst hi
   rw [hc]
   split
   ·rw [hc];exact Int.le_refl _
   ·rename_i h1
    simp only [Option.getD_some] at h1
    omega
  ·have ih:=b6n S n (by omega) i c (by omega) hc
   split
   ·rename_i h1;omega
   ·exact ih
theorem b7P {S:List Cn} {c:Cn} (h:c∈S):a6Z S≤c.2.1:=by
 obtain ⟨i,hi⟩:=List.mem_iff_getElem?.1 h
 exact b6n S S.length (Nat.le_refl _) i c (c9X.1 hi).1 hi
theorem a3N:∀ (S:List Cn) (x:Cn),(a8y S x).Perm (x::S)
 | [],x => .refl _
 | y::r,x=>by
  unfold a8y
  split
  ·exact ((a3N r x).cons y).trans (.swap _ _ _)
  ·exact .refl _
def CAsc (S:List Cn):Prop:=S.Pairwise fun a b=>a0Y a.1 b.1<0
theorem a6z:∀ (S:List Cn) (x:Cn),CAsc S→(∀ c∈S,c.1≠x.1)→CAsc (a8y S x)
 | [],x,_,_=>by simp [-bind_some, a8y,CAsc]
 | y::r,x,h,hx=>by
  have hr:=List.pairwise_cons.1 h
  unfold a8y
  split
  ·rename_i h1
   refine List.pairwise_cons.2 ⟨fun z hz=>?_,a6z r x hr.2 fun c hc=>hx c (by simp [-bind_some, hc])⟩
   rcases d0c.1 ((a3N r x).mem_iff.1 hz) with rfl | hz
   ·exact h1
   ·exact hr.1 z hz
  ·rename_i h1
   have hne:¬ a0Y y.1 x.1=0:=fun h0=>hx y (by simp) ((a1G _ _).1 h0)
   have hlt:a0Y x.1 y.1<0:=by rw [a1Q];omega
   refine List.pairwise_cons.2 ⟨fun z hz=>?_,h⟩
   rcases d0c.1 hz with rfl | hz
   ·exact hlt
   ·exact a4h hlt (hr.1 z hz)
theorem a1R (x:List Str):a0Y x x=0:=(a1G x x).2 rfl
theorem CAsc.uniq {S:List Cn} (h:CAsc S) {a b:Cn} (ha:a∈S) (hb:b∈S) (e:a.1=b.1):a=b:=by
 induction S with
 | nil=>cases ha
 | cons y r ih =>
  have hr:=List.pairwise_cons.1 h
  rcases d0c.1 ha with rfl | ha' <;> rcases d0c.1 hb with rfl | hb'
  ·rfl
  ·have:=hr.1 b hb';rw [e,a1R] at this;omega
  ·have:=hr.1 a ha';rw [e,a1R] at this;omega
  ·exact ih hr.2 ha' hb'
theorem b4v {S:List Cn} (h:CAsc S) (k:List Str) (w:Int):CAsc (a6y S k w):=by
 unfold a6y CAsc
 rw [List.pairwise_map]
 exact List.Pairwise.imp (fun {a b} hab=>by
  have:∀ c:Cn,(if c.1=k then ((c.1,c.2.1+w,c.2.2):Cn) else c).1=c.1:=fun c=>by split <;> rfl
  rw [this,this];exact hab) h
theorem a9J (S:List Cn) (k:List Str) (w:Int):(a6y S k w).length=S.length:=by simp [-bind_some, a6y]
theorem b1J (S:List Cn) (k:List Str) (w:Int):(a6y S k w).map (·.1)=S.map (·.1):=by
 simp only [a6y,List.map_map]
 exact List.map_congr_left fun c _=>by simp only [Function.comp];split <;> rfl
def a3Z (S:List Cn):Int:=(S.map (·.2.1)).sum
theorem a4R {S S':List Cn} (h:S.Perm S'):a3Z S=a3Z S':=by
 induction h with
 | nil=>rfl
 | cons x _ ih=>simp only [a3Z,c9P,List.sum_cons] at ih ⊢;omega
 | swap x y l=>simp only [a3Z,c9P,List.sum_cons];omega
 | trans _ _ i1 i2=>exact i1.trans i2
theorem a5F:∀ (S:List Cn) (i:Nat) (m:Cn),S[i]?=some m→S.Perm (m::S.eraseIdx i)
 | [],i,m,h=>by simp at h
 | y::r,0,m,h=>by simp at h;subst h;exact .refl _
 | y::r,i+1,m,h=>by
  rw [c9L] at h
  rw [List.eraseIdx_cons_succ]
  exact ((a5F r i m h).cons y).trans (.swap _ _ _)
theorem a9K:∀ {S:List Cn},CAsc S→∀ (k:List Str) (w:Int),k∈S.map (·.1)→a3Z (a6y S k w)=a3Z S+w
 | [],_,k,w,h=>by cases h
 | y::r,h,k,w,hk=>by
  have hr:=List.pairwise_cons.1 h
  by_cases e:y.1=k
  ·have:a6y r k w=r:=by
     unfold a6y
     conv=>rhs;rw [← List.map_id r]
     refine List.map_congr_left fun c hc=>?_
     have h1:=hr.1 c hc
     rw [if_neg (fun e2=>by rw [e,e2,a1R] at h1;omega)]
     rfl
   have e2:a6y (y::r) k w=(y.1,y.2.1+w,y.2.2)::a6y r k w:=by simp [-bind_some, a6y,e]
   rw [e2,this]
   simp only [a3Z,c9P,List.sum_cons]
   omega
  ·have hk':k∈r.map (·.1):=by
     rcases d0c.1 hk with h1 | h1
     ·exact absurd h1.symm e
     ·exact h1
   have e2:a6y (y::r) k w=y::a6y r k w:=by simp [-bind_some, a6y,e]
   have ih:=a9K hr.2 k w hk'
   rw [e2]
   simp only [a3Z,c9P,List.sum_cons] at ih ⊢
   omega
structure Sk (T:List Str→Int) (tot size:Int) (S:List Cn):Prop where
 asc:CAsc S
 sum:a3Z S=tot
 len:(S.length:Int)≤size
 bd:∀ c∈S,T c.1≤c.2.1∧c.2.1 - c.2.2≤T c.1
 ab:∀ k,k∉S.map (·.1)→((S.length:Int)<size→T k=0)∧((S.length:Int)=size→∀ c∈S,T k≤c.2.1)
def adT (T:List Str→Int) (k:List Str) (w:Int):List Str→Int:=fun k'=>if k'=k then T k'+w else T k'
theorem Sk.obs {T:List Str→Int} {tot size:Int} {S:List Cn} (h:Sk T tot size S) (hT:∀ k,0≤T k) (hs:1≤size) (k:List Str) (w:Int) (hw:0≤w):Sk (adT T k w) (tot+w) size (obs size S k w):=by
 unfold Proofs.YtehgglgadbmecaaGreatDoor.obs
 by_cases hk:k∈S.map (·.1)
 ·rw [if_pos hk]
  refine ⟨b4v h.asc k w,by rw [a9K h.asc k w hk,h.sum],by rw [a9J];exact h.len,fun c hc=>?_,fun k' hk'=>?_⟩
  ·obtain ⟨d,hd,rfl⟩:=d0e.1 hc
   have:=h.bd d hd
   unfold adT
   by_cases e:d.1=k
   ·simp only [e,if_true];rw [e] at this;omega
   ·simp only [e,if_false];exact this
  ·rw [b1J] at hk'
   obtain ⟨q1,q2⟩:=h.ab k' hk'
   have hne:k'≠k:=fun e=>hk' (e▸hk)
   rw [a9J]
   unfold adT
   rw [if_neg hne]
   refine ⟨q1,fun hl c hc=>?_⟩
   obtain ⟨d,hd,rfl⟩:=d0e.1 hc
   have:=q2 hl d hd
   split
   ·show _≤d.2.1+w;omega
   ·exact this
 ·rw [if_neg hk]
  have hkc:∀ c∈S,c.1≠k:=fun c hc e=>hk (d0e.2 ⟨c,hc,e⟩)
  obtain ⟨a1,a2⟩:=h.ab k hk
  by_cases hl:(S.length:Int)<size
  ·rw [if_pos hl]
   have hp:=a3N S (k,w,0)
   have hlen:(a8y S (k,w,0)).length=S.length+1:=by rw [hp.length_eq];rfl
   refine ⟨a6z S _ h.asc hkc,by rw [a4R hp];have:=h.sum;simp only [a3Z,c9P,List.sum_cons] at this ⊢;omega,by rw [hlen];omega,fun c hc=>?_,fun k' hk'=>?_⟩
   ·unfold adT
    rcases d0c.1 (hp.mem_iff.1 hc) with rfl | hc
    ·simp only [if_true,a1 hl];omega
    ·rw [if_neg (hkc c hc)];exact h.bd c hc
   ·have hk2:k'∉((k,w,0)::S).map (·.1):=fun hh=>hk' ((hp.map _).mem_iff.2 hh)
    simp only [c9P,d0c,not_or] at hk2
    obtain ⟨b1,_⟩:=h.ab k' hk2.2
    unfold adT
    rw [if_neg hk2.1,b1 hl]
    refine ⟨fun _=>rfl,fun _ c hc=>?_⟩
    rcases d0c.1 (hp.mem_iff.1 hc) with rfl | hc
    ·exact hw
    ·have:=(h.bd c hc).1;have:=hT c.1;omega
  ·rw [if_neg hl]
   have hle:=h.len
   have hsz:(S.length:Int)=size:=by omega
   have hn:0<S.length:=by omega
   have hlt:=b6o S S.length (Nat.le_refl _) hn
   obtain ⟨m,hm⟩:∃ m,S[lst S S.length]?=some m:=⟨_,c9W hlt⟩
   have hc:a6Z S=m.2.1:=by unfold a6Z;rw [hm];rfl
   have hmS:m∈S:=c9V hm
   have hse:S.Perm (m::S.eraseIdx (lst S S.length)):=a5F S _ m hm
   have hsub:(S.eraseIdx (lst S S.length)).Sublist S:=List.eraseIdx_sublist _ _
   have hsum:a3Z S=m.2.1+a3Z (S.eraseIdx (lst S S.length)):=by rw [a4R hse];simp [-bind_some, a3Z]
   have hE:=hsub.length_le
   have hel:S.length=(S.eraseIdx (lst S S.length)).length+1:=hse.length_eq
   have hle2:=fun (c:Cn) (hcS:c∈S)=>b7P hcS
   generalize S.eraseIdx (lst S S.length)=E at *
   have hp:=a3N E (k,a6Z S+w,a6Z S)
   have hlen:(a8y E (k,a6Z S+w,a6Z S)).length=S.length:=by rw [hp.length_eq,hel];rfl
   have hEc:∀ c∈E,c∈S:=fun c hc=>hsub.subset hc
   refine ⟨a6z E _ (h.asc.sublist hsub) fun c hc=>hkc c (hEc c hc),?_,by rw [hlen];exact h.len,fun c hcc=>?_,fun k' hk'=>?_⟩
   ·rw [a4R hp]
    have:=h.sum
    simp only [a3Z,c9P,List.sum_cons] at this hsum ⊢
    omega
   ·unfold adT
    rcases d0c.1 (hp.mem_iff.1 hcc) with rfl | hcc
    ·have t1:=a2 hsz m hmS
     have t2:=hT k
     simp only [if_true,hc];omega
    ·rw [if_neg (hkc c (hEc c hcc))];exact h.bd c (hEc c hcc)
   ·have hk2:k'∉((k,a6Z S+w,a6Z S)::E).map (·.1):=fun hh=>hk' ((hp.map _).mem_iff.2 hh)
    simp only [c9P,d0c,not_or] at hk2
    unfold adT
    rw [if_neg hk2.1,hlen]
    refine ⟨fun h1=>absurd h1 hl,fun _ c hcc=>?_⟩
    have hTk:T k'≤a6Z S:=by
     by_cases e:k'=m.1
     ·rw [e,hc];exact (h.bd m hmS).1
     ·have hk3:k'∉S.map (·.1):=fun hh=>by
        rcases d0c.1 ((hse.map (·.1)).mem_iff.1 hh) with h1 | h1
        ·exact e h1
        ·exact hk2.2 h1
      rw [hc]
      exact (h.ab k' hk3).2 hsz m hmS
    rcases d0c.1 (hp.mem_iff.1 hcc) with rfl | hcc
    ·show _≤a6Z S+w;omega
    ·have:=hle2 c (hEc c hcc);omega
theorem a6K {α β:Type} (f:β→α→β) (P:List α→β→Prop) (hs:∀ pre a b,P pre b→P (pre++[a]) (f b a)):∀ (l pre:List α) (b:β),P pre b→P (pre++l) (l.foldl f b)
 | [],pre,b,h=>by rw [List.append_nil];exact h
 | a::r,pre,b,h=>by
  have:=a6K f P hs r (pre++[a]) (f b a) (hs pre a b h)
  rwa [List.append_assoc] at this
abbrev Ob1:=List Str × Int
def TL (ps:List Ob1) (k:List Str):Int:=((ps.filter fun p=>p.1==k).map (·.2)).sum
def b1m (ps:List Ob1):Int:=(ps.map (·.2)).sum
def WOK (ps:List Ob1):Prop:=∀ p∈ps,0≤p.2∧p.2≤5040
theorem a8w (ps:List Ob1) (p:Ob1):TL (ps++[p])=adT (TL ps) p.1 p.2:=by
 funext k
 unfold TL adT
 rw [List.filter_append,c9O,List.sum_append]
 by_cases h:k=p.1
 ·subst h;simp [-bind_some]
 ·have:(p.1==k)=false:=by simpa using fun e=>h e.symm
  simp [-bind_some, this,h]
theorem b3S (ps:List Ob1) (p:Ob1):b1m (ps++[p])=b1m ps+p.2:=by simp [-bind_some, b1m]
theorem b4m:∀ {ps:List Ob1},WOK ps→∀ k,0≤TL ps k
 | [],_,k=>by simp [-bind_some, TL]
 | p::r,h,k=>by
  have ih:=b4m (ps:=r) (fun q hq=>h q (by simp [-bind_some, hq])) k
  have:=(h p (by simp)).1
  unfold TL at ih ⊢
  by_cases e:(p.1==k)=true
  ·simp only [List.filter_cons,e,if_true,c9P,List.sum_cons];omega
  ·simp only [List.filter_cons,e,if_false,c9I];exact ih
theorem a9b:∀ {ps:List Ob1},WOK ps→0≤b1m ps∧b1m ps≤5040*ps.length
 | [],_=>by simp [-bind_some, b1m]
 | p::r,h=>by
  have ih:=a9b (ps:=r) fun q hq=>h q (by simp [-bind_some, hq])
  have:=h p (by simp)
  simp only [b1m,c9P,List.sum_cons,c9Y] at ih ⊢
  omega
theorem b9O:∀ {ps:List Ob1},WOK ps→∀ k,TL ps k≤b1m ps
 | [],_,k=>by simp [-bind_some, TL,b1m]
 | p::r,h,k=>by
  have ih:=b9O (ps:=r) (fun q hq=>h q (by simp [-bind_some, hq])) k
  have:=(h p (by simp)).1
  unfold TL b1m at ih ⊢
  rw [c9P,List.sum_cons]
  by_cases e:(p.1==k)=true
  ·simp only [List.filter_cons,e,if_true,c9P,List.sum_cons];omega
  ·simp only [List.filter_cons,e,if_false,c9I];omega
def skO (size:Int) (ps:List Ob1):List Cn:=ps.foldl (fun S p=>obs size S p.1 p.2) []
theorem WOK.pre {ps qs:List Ob1} (h:WOK (ps++qs)):WOK ps:=fun p hp=>h p (List.mem_append_left _ hp)
theorem c1g {size:Int} (hs:1≤size) (ps:List Ob1) (h:WOK ps):Sk (TL ps) (b1m ps) size (skO size ps):=by
 have:=a6K (fun S (p:Ob1)=>obs size S p.1 p.2) (fun pre S=>WOK pre→Sk (TL pre) (b1m pre) size S) (fun pre a S hP hw=>by
  have h1:=hP hw.pre
  have h2:=hw a (by simp)
  rw [a8w,b3S]
  exact h1.obs (b4m hw.pre) hs a.1 a.2 h2.1) ps [] [] (fun _=>⟨.nil,rfl,by show (0:Int)≤size;omega,by simp,fun k _=>⟨fun _=>rfl,fun h=>by simp at h;omega⟩⟩)
 exact this h
def a7w (ps:List Ob1):List Ob1:=ps.foldl mgP []
theorem a7x (ps:List Ob1) (p:Ob1):a7w (ps++[p])=mgP (a7w ps) p:=by simp [-bind_some, a7w]
def upC (z:Ob1):Cn:=(z.1,z.2,0)
theorem a3M (y x:Cn) (r:List Cn):a8y (y::r) x=if a0Y y.1 x.1<0 then y::a8y r x else x::y::r:=rfl
theorem b3f:∀ {C:List Ob1} {x:Ob1},b9M C→x.1∈C.map (·.1)→(∀ z∈C,IntKind.wrap .i64 (z.2+x.2)=z.2+x.2)→mgP C x=C.map fun z=>if z.1=x.1 then (z.1,z.2+x.2) else z
 | [],x,_,h,_=>by cases h
 | y::r,x,h,hx,hw=>by
  have hr:=List.pairwise_cons.1 h
  have off:∀ z∈r,z.1=x.1→a0Y y.1 x.1<0:=fun z hz e=>e▸hr.1 z hz
  unfold mgP
  by_cases h1:a0Y y.1 x.1<0
  ·have hne:¬ y.1=x.1:=fun e=>by rw [e,a1R] at h1;omega
   have hx':x.1∈r.map (·.1):=by
    rcases d0c.1 hx with h2 | h2
    ·exact absurd h2.symm hne
    ·exact h2
   rw [if_pos h1,b3f hr.2 hx' fun z hz=>hw z (by simp [-bind_some, hz])]
   simp [-bind_some, hne]
  ·rw [if_neg h1]
   have hall:∀ z∈r,¬ z.1=x.1:=fun z hz e=>h1 (off z hz e)
   have heq:y.1=x.1:=by
    rcases d0c.1 hx with h2 | h2
    ·exact h2.symm
    ·obtain ⟨z,hz,e⟩:=d0e.1 h2
     exact absurd e (hall z hz)
   have h0:¬ a0Y y.1 x.1>0:=by rw [heq,a1R];omega
   rw [if_neg h0,hw y (by simp)]
   have:(r.map fun z=>if z.1=x.1 then ((z.1,z.2+x.2):Ob1) else z)=r:=by
    conv=>rhs;rw [← List.map_id r]
    exact List.map_congr_left fun z hz=>by rw [if_neg (hall z hz)];rfl
   rw [c9P,this,if_pos heq]
theorem a8R:∀ {C:List Ob1} {x:Ob1},x.1∉C.map (·.1)→(mgP C x).map upC=a8y (C.map upC) (x.1,x.2,0)∧(mgP C x).Perm (x::C)
 | [],x,_=>⟨rfl,.refl _⟩
 | y::r,x,hx=>by
  simp only [c9P,d0c,not_or] at hx
  obtain ⟨i1,i2⟩:=a8R (C:=r) (x:=x) hx.2
  unfold mgP
  by_cases h1:a0Y y.1 x.1<0
  ·rw [if_pos h1]
   refine ⟨?_,(i2.cons y).trans (.swap _ _ _)⟩
   rw [c9P,i1,c9P]
   rw [a3M,if_pos (show a0Y (upC y).1 x.1<0 from h1)]
  ·rw [if_neg h1]
   have h0:a0Y y.1 x.1>0:=by
    have:¬ a0Y y.1 x.1=0:=fun e=>hx.1 ((a1G _ _).1 e).symm
    omega
   rw [if_pos h0]
   refine ⟨?_,.refl _⟩
   rw [c9P,c9P]
   rw [a3M,if_neg (show ¬ a0Y (upC y).1 x.1<0 from h1)]
   rfl
structure CI (ps C:List Ob1):Prop where
 asc:b9M C
 val:∀ z∈C,z.2=TL ps z.1
 all:∀ p∈ps,p.1∈C.map (·.1)
 of:∀ z∈C,∃ p∈ps,p.1=z.1
theorem c2j {ps:List Ob1} {k:List Str} (h:∀ p∈ps,p.1≠k):TL ps k=0:=by
 unfold TL
 rw [List.filter_eq_nil_iff.2 fun p hp=>by simpa using h p hp]
 rfl
theorem a9D (T:List Str→Int) (k:List Str) (w:Int):adT T k w k=T k+w:=by simp [-bind_some, adT]
theorem b5N (T:List Str→Int) {k k':List Str} (w:Int) (h:k'≠k):adT T k w k'=T k':=by simp [-bind_some, adT,h]
theorem CI.wr {ps C:List Ob1} (h:CI ps C) (hw:WOK ps) (hl:ps.length≤100000) {x:Ob1} (h0:0≤x.2) (h1:x.2≤5040):∀ z∈C,IntKind.wrap .i64 (z.2+x.2)=z.2+x.2:=fun z hz=>by
 have e1:=h.val z hz
 have e2:=b4m hw z.1
 have e3:=b9O hw z.1
 have e4:=(a9b hw).2
 exact wrap_i64 (by omega) (by omega)
theorem CI.snoc {ps C:List Ob1} (h:CI ps C) {x:Ob1} (hw:WOK (ps++[x])) (hl:(ps++[x]).length≤100000):CI (ps++[x]) (mgP C x):=by
 have hx:=hw x (by simp)
 simp only [c9M,c9Y,c9Z] at hl
 have hwr:=h.wr hw.pre (by omega) hx.1 hx.2
 by_cases hk:x.1∈C.map (·.1)
 ·have e:=b3f h.asc hk hwr
  have hkeys:(mgP C x).map (·.1)=C.map (·.1):=by
   rw [e,List.map_map]
   exact List.map_congr_left fun z _=>by simp only [Function.comp];split <;> rfl
  refine ⟨a8P _ _ h.asc,fun z hz=>?_,fun p hp=>?_,fun z hz=>?_⟩
  ·rw [e] at hz
   obtain ⟨y,hy,rfl⟩:=d0e.1 hz
   rw [a8w]
   by_cases hyx:y.1=x.1
   ·rw [if_pos hyx]
    show y.2+x.2=adT _ _ _ y.1
    rw [hyx,a9D,← hyx,h.val y hy]
   ·rw [if_neg hyx,b5N _ _ hyx];exact h.val y hy
  ·rw [hkeys]
   rcases d0d.1 hp with hp | hp
   ·exact h.all p hp
   ·simp at hp;subst hp;exact hk
  ·rw [e] at hz
   obtain ⟨y,hy,rfl⟩:=d0e.1 hz
   obtain ⟨p,hp,e2⟩:=h.of y hy
   refine ⟨p,List.mem_append_left _ hp,?_⟩
   split
   ·exact e2
   ·exact e2
 ·obtain ⟨_,hperm⟩:=a8R hk
  have hno:∀ p∈ps,p.1≠x.1:=fun p hp e=>hk (e▸h.all p hp)
  refine ⟨a8P _ _ h.asc,fun z hz=>?_,fun p hp=>?_,fun z hz=>?_⟩
  ·rw [a8w]
   rcases d0c.1 (hperm.mem_iff.1 hz) with rfl | hz
   ·rw [a9D,c2j hno];omega
   ·have hne:z.1≠x.1:=fun e=>hk (d0e.2 ⟨z,hz,e⟩)
    rw [b5N _ _ hne];exact h.val z hz
  ·refine (hperm.map _).mem_iff.2 ?_
   rcases d0d.1 hp with hp | hp
   ·exact List.mem_cons_of_mem _ (h.all p hp)
   ·simp at hp;subst hp;simp [-bind_some]
  ·rcases d0c.1 (hperm.mem_iff.1 hz) with rfl | hz
   ·exact ⟨z,by simp,rfl⟩
   ·obtain ⟨p,hp,e2⟩:=h.of z hz
    exact ⟨p,List.mem_append_left _ hp,e2⟩
theorem b7b {ps:List Ob1} (h:WOK ps) (hl:ps.length≤100000):CI ps (a7w ps):=by
 have:=a6K mgP (fun pre C=>WOK pre→pre.length≤100000→CI pre C) (fun pre a C hP hw hl=>(hP hw.pre (by simp at hl;omega)).snoc hw hl) ps [] [] (fun _ _=>⟨.nil,fun z hz=>by simp at hz,fun p hp=>by simp at hp,fun z hz=>by simp at hz⟩)
 exact this h hl
theorem c0P {C:List Ob1} (x:Ob1):C.length≤(mgP C x).length:=by
 induction C with
 | nil=>simp [-bind_some]
 | cons y r ih =>
  unfold mgP
  split
  ·simpa using ih
  ·split <;> simp [-bind_some]
theorem b1R (ps qs:List Ob1):(a7w ps).length≤(a7w (ps++qs)).length:=by
 unfold a7w
 rw [List.foldl_append]
 generalize ps.foldl mgP []=C
 induction qs generalizing C with
 | nil=>exact Nat.le_refl _
 | cons x r ih=>exact Nat.le_trans (c0P x) (ih (mgP C x))
theorem b3I {size:Int} (ps:List Ob1) (h:WOK ps) (hl:ps.length≤100000) (hs:((a7w ps).length:Int)≤size):skO size ps=(a7w ps).map upC:=by
 have key:∀ (l pre:List Ob1),pre++l=ps→skO size pre=(a7w pre).map upC→skO size ps=(a7w ps).map upC:=by
  intro l
  induction l with
  | nil=>intro pre e h2;rw [List.append_nil] at e;rw [← e];exact h2
  | cons x r ih =>
   intro pre e h2
   refine ih (pre++[x]) (by rw [← e];simp [-bind_some]) ?_
   have e':pre++[x]++r=ps:=by rw [← e];simp [-bind_some]
   have hw:WOK (pre++[x]):=WOK.pre (qs:=r) (by rw [e'];exact h)
   have hll:(pre++[x]).length≤100000:=by have:=congrArg List.length e';simp at this hl ⊢;omega
   have hm:=b1R (pre++[x]) r
   rw [e'] at hm
   have hC:=b7b hw.pre (by simp at hll;omega)
   have hx:=hw x (by simp)
   have hwr:=hC.wr hw.pre (by simp at hll;omega) hx.1 hx.2
   have hsk:skO size (pre++[x])=obs size (skO size pre) x.1 x.2:=by simp [-bind_some, skO]
   rw [hsk,h2,a7x]
   have hkeys:((a7w pre).map upC).map (·.1)=(a7w pre).map (·.1):=by rw [List.map_map];rfl
   unfold obs
   by_cases hk:x.1∈(a7w pre).map (·.1)
   ·rw [if_pos (by rw [hkeys];exact hk),b3f hC.asc hk hwr]
    unfold a6y
    rw [List.map_map,List.map_map]
    refine List.map_congr_left fun z _=>?_
    show (if z.1=x.1 then _ else _)=upC (if z.1=x.1 then _ else _)
    split <;> rfl
   ·obtain ⟨q1,q2⟩:=a8R hk
    have hlen:=q2.length_eq
    rw [a7x] at hm
    simp only [c9Y] at hlen
    rw [if_neg (by rw [hkeys];exact hk),if_pos (by rw [c9N];omega),q1]
 exact key ps [] rfl rfl
structure Ct where
 k:List Str
 kd:D
 hk:SlOf 1 (fun s=>[D.str s]) k kd
 hkl:k.length≤1000000
 n:Int
 e:Int
def ctr (c:Ct):List D:=[c.kd,.int .i64 c.n,.int .i64 c.e]
theorem a1Z (c:Ct):(D.agg (ctr c)).okv=true:=by
 have h1:=a0T c.hk
 have h3:(D.agg (ctr c)) = .agg [c.kd,.int .i64 c.n,.int .i64 c.e]:=rfl
 rw [h3]
 generalize c.kd=a at h1
 simp [-bind_some, D.okv,h1,D.one]
theorem b6k {h:Hp} {q k T z:Nat} {rows:List (List D)} {p:Ct} (hq:h[q]?=some (.row T z rows)) (hk:rows[k]?=some (ctr p)):a0c tab h a0d (.ptr q k 0)=some (.agg (ctr p)):=by
 rw [a2K,a1r hq,hk]
 rfl
end Go.Proofs.YtehgglgadbmecaaGreatDoor

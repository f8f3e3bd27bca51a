/- Laws, on plain data, about functions that the statement reaches. -/
import Derived.Test.YtehgglgadbmecaaGreatDoorL2
set_option linter.unusedSimpArgs false
set_option linter.unusedVariables false
set_option linter.unnecessarySimpa false
set_option maxRecDepth 100000
namespace Go.Proofs.YtehgglgadbmecaaGreatDoor
open Go.Eng Go.Pi
open Option (bind_some)
theorem c8A {g:Hp} {o N:Nat} {L:List Ct} (hN:N≤1000000000) (hlen:L.length=N) (ho:g[o]?=some (.row a0d 3 (L.map ctr))) (cmp:D) (m a b:Nat) (q:Nat→Prop) (hmN:m<N) (hmb:a≤b) (hbN:b≤N) (x:Ct) (hx:L[m]?=some x)
  (hc:∀ t y,a≤t→t<b→L[t]?=some y→∃ v,a1X R cmp [.agg (ctr x),.agg (ctr y)] g=some (.int .i64 v,g)∧(¬ v<0↔q t)) (x1 x2 x3:D) {β:Type} {f:Out→Option β} {Q:β→Prop}
  (K:∀ (c:Nat) b1 b2 b3,a≤c→c≤b→(c=a∨q (c - 1))→(c=b∨¬ q c)→Wp (f (.ext 4,[.int .i64 (c:Int),.int .i64 (c:Int),b1,b2,b3],g)) Q):Wp ((a0z (a6I (.msl 3 o 0 N) (.int .i64 (m:Int)) cmp) [.int .i64 (a:Int),.int .i64 (b:Int),x1,x2,x3] g).bind f) Q:=by
 refine Wp.loop (fun kk ds g'=>g'=g∧∃ y1 y2 y3,∃ i j:Nat,ds=[.int .i64 (i:Int),.int .i64 (j:Int),y1,y2,y3]∧kk=j - i∧a≤i∧i≤j∧j≤b∧(i=a∨q (i - 1))∧(j=b∨¬ q j))
  (fun r=>r.1 = .ext 4∧r.2.2=g∧∃ b1 b2 b3,∃ c:Nat,r.2.1=[.int .i64 (c:Int),.int .i64 (c:Int),b1,b2,b3]∧a≤c∧c≤b∧(c=a∨q (c - 1))∧(c=b∨¬ q c)) (b - a) ⟨rfl,_,_,_,a,b,rfl,rfl,Nat.le_refl _,hmb,Nat.le_refl _,.inl rfl,.inl rfl⟩ ?_ ?_
 ·rintro kk ds g' ⟨rfl,y1,y2,y3,i,j,rfl,hk,h1,h2,h3,h4,h5⟩
  simp only [a6I,a0e,a0h,bs,c8N,a0n]
  refine Wp.dif ?_ ?_
  ·intro h0
   have h0:i<j:=by
    have:(i:Int)<(j:Int):=by simpa using h0
    omega
   obtain ⟨u1,u2,u3,u4⟩:=@a4b i j (by omega) (by omega)
   obtain ⟨y,hy⟩:∃ y,L[(i+j) / 2]?=some y:=⟨_,c9b (by omega)⟩
   obtain ⟨v,hv,hvc⟩:=hc ((i+j) / 2) y (by omega) (by omega) hy
   have ia:=@a3v o N ((i+j) / 2) (by omega)
   have ib:=@a3v o N m hmN
   have la:=a4B ho hy
   have lb:=a4B ho hx
   have w1:IntKind.wrap .i64 ((((i+j) / 2:Nat):Int)+1)=(((i+j) / 2+1:Nat):Int):=by rw [wrap_i64 (by omega) (by omega)];omega
   simp only [a0p,u1,a2L,u2,a2k,show ¬ (1:Int)<0 by omega,if_false,u3,a2K,u4,ia,ib,la,lb,hv,bs,a0n,a2M,c8N]
   by_cases hlt:v<0
   ·have:=fun h=>(hvc.2 h) hlt
    simp only [hlt,decide_true,c8W,a0f,c8O,if_false,bs,a0F,a0e,a0h]
    exact .some (.inl ⟨rfl,(i+j) / 2 - i,by omega,rfl,_,_,_,_,_,rfl,rfl,by omega,by omega,by omega,h4,.inr this⟩)
   ·have:=hvc.1 hlt
    simp only [hlt,decide_false,c8X,a0f,if_true,w1,bs,a0F,a0e,a0h]
    exact .some (.inl ⟨rfl,j - ((i+j) / 2+1),by omega,rfl,_,_,_,_,_,rfl,rfl,by omega,by omega,by omega,.inr (by simpa using this),h5⟩)
  ·intro h0
   have h0:¬ i<j:=by
    have:¬ (i:Int)<(j:Int):=by simpa using h0
    omega
   obtain rfl:j=i:=by omega
   exact .some (.inr ⟨by simp,rfl,rfl,_,_,_,j,rfl,h1,h3,h4,h5⟩)
 ·rintro ⟨ex,ds,g'⟩ ⟨rfl,q2,b1,b2,b3,c,rfl,k1,k2,k3,k4⟩
  simp only at q2
  subst q2
  exact K c b1 b2 b3 k1 k2 k3 k4
theorem c8y {g:Hp} {o N:Nat} {L:List Ct} (hN:N≤1000000000) (hlen:L.length=N) (ho:g[o]?=some (.row a0d 3 (L.map ctr))) (cmp:D) (p a b:Nat) (q:Nat→Prop) (hmb:a≤b) (hbp:b≤p+1) (hbN:b≤N) (hpN:p<a+N)
  (hc:∀ t y z,a≤t→t<b→L[t]?=some y→L[p - t]?=some z→∃ v,a1X R cmp [.agg (ctr z),.agg (ctr y)] g=some (.int .i64 v,g)∧(¬ v<0↔q t)) (x1 x2 x3:D) {β:Type} {f:Out→Option β} {Q:β→Prop}
  (K:∀ (c:Nat) b1 b2 b3,a≤c→c≤b→(c=a∨q (c - 1))→(c=b∨¬ q c)→Wp (f (.ext 8,[.int .i64 (c:Int),.int .i64 (c:Int),b1,b2,b3],g)) Q):Wp ((a0z (a4F (.msl 3 o 0 N) cmp (.int .i64 (p:Int))) [.int .i64 (a:Int),.int .i64 (b:Int),x1,x2,x3] g).bind f) Q:=by
 refine Wp.loop (fun kk ds g'=>g'=g∧∃ y1 y2 y3,∃ i j:Nat,ds=[.int .i64 (i:Int),.int .i64 (j:Int),y1,y2,y3]∧kk=j - i∧a≤i∧i≤j∧j≤b∧(i=a∨q (i - 1))∧(j=b∨¬ q j))
  (fun r=>r.1 = .ext 8∧r.2.2=g∧∃ b1 b2 b3,∃ c:Nat,r.2.1=[.int .i64 (c:Int),.int .i64 (c:Int),b1,b2,b3]∧a≤c∧c≤b∧(c=a∨q (c - 1))∧(c=b∨¬ q c)) (b - a) ⟨rfl,_,_,_,a,b,rfl,rfl,Nat.le_refl _,hmb,Nat.le_refl _,.inl rfl,.inl rfl⟩ ?_ ?_
 ·rintro kk ds g' ⟨rfl,y1,y2,y3,i,j,rfl,hk,h1,h2,h3,h4,h5⟩
  simp only [a4F,a0e,a0h,bs,c8N,a0n]
  refine Wp.dif ?_ ?_
  ·intro h0
   have h0:i<j:=by
    have:(i:Int)<(j:Int):=by simpa using h0
    omega
   obtain ⟨u1,u2,u3,u4⟩:=@a4b i j (by omega) (by omega)
   obtain ⟨y,hy⟩:∃ y,L[(i+j) / 2]?=some y:=⟨_,c9b (by omega)⟩
   obtain ⟨z,hz⟩:∃ z,L[p - (i+j) / 2]?=some z:=⟨_,c9b (by omega)⟩
   obtain ⟨v,hv,hvc⟩:=hc ((i+j) / 2) y z (by omega) (by omega) hy hz
   have ia:=@a3v o N ((i+j) / 2) (by omega)
   have ib:=@a3v o N (p - (i+j) / 2) (by omega)
   have la:=a4B ho hy
   have lb:=a4B ho hz
   have wp':IntKind.wrap .i64 ((p:Int) - (((i+j) / 2:Nat):Int))=((p - (i+j) / 2:Nat):Int):=by rw [wrap_i64 (by omega) (by omega)];omega
   have w1:IntKind.wrap .i64 ((((i+j) / 2:Nat):Int)+1)=(((i+j) / 2+1:Nat):Int):=by rw [wrap_i64 (by omega) (by omega)];omega
   simp only [a0p,u1,a2L,u2,a2k,show ¬ (1:Int)<0 by omega,if_false,u3,a2K,u4,a0E,wp',ia,ib,la,lb,hv,bs,a0n,a2M,c8N]
   by_cases hlt:v<0
   ·have:=fun h=>(hvc.2 h) hlt
    simp only [hlt,decide_true,c8W,a0f,c8O,if_false,bs,a0F,a0e,a0h]
    exact .some (.inl ⟨rfl,(i+j) / 2 - i,by omega,rfl,_,_,_,_,_,rfl,rfl,by omega,by omega,by omega,h4,.inr this⟩)
   ·have:=hvc.1 hlt
    simp only [hlt,decide_false,c8X,a0f,if_true,w1,bs,a0F,a0e,a0h]
    exact .some (.inl ⟨rfl,j - ((i+j) / 2+1),by omega,rfl,_,_,_,_,_,rfl,rfl,by omega,by omega,by omega,.inr (by simpa using this),h5⟩)
  ·intro h0
   have h0:¬ i<j:=by
    have:¬ (i:Int)<(j:Int):=by simpa using h0
    omega
   obtain rfl:j=i:=by omega
   exact .some (.inr ⟨by simp,rfl,rfl,_,_,_,j,rfl,h1,h3,h4,h5⟩)
 ·rintro ⟨ex,ds,g'⟩ ⟨rfl,q2,b1,b2,b3,c,rfl,k1,k2,k3,k4⟩
  simp only at q2
  subst q2
  exact K c b1 b2 b3 k1 k2 k3 k4
def a6s (cmp:D) (c:Ct→Ct→Int):Prop:=∀ x y g,a1X R cmp [.agg (ctr x),.agg (ctr y)] g=some (.int .i64 (c x y),g)
theorem c0Q {g:Hp} {o N:Nat} {P B Q:List Ct} {x:Ct} (hN:N≤1000000000) (hlen:(P++x::B++Q).length=N) (ho:g[o]?=some (.row a0d 3 ((P++x::B++Q).map ctr))) (cmp:D) (c:Ct→Ct→Int) (hcmp:a6s cmp c) (a m b:Int) (ha:a=(P.length:Nat)) (hm:m=(P.length+1:Nat)) (hb:b=(P.length+1+B.length:Nat)) {β:Type} {f:D × Hp→Option β} {R1:β→Prop}
  (K:∀ g' B1 B2,B=B1++B2→(B1=[]∨∃ y r,B1=r++[y]∧c y x<0)→(B2=[]∨∃ y r,B2=y::r∧¬ c y x<0)→g'[o]?=some (.row a0d 3 ((P++(B1++x::B2)++Q).map ctr))→Same o g g'→Wp (f (a0i [],g')) R1):Wp ((R a4s [.msl 3 o 0 N,.int .i64 a,.int .i64 m,.int .i64 b,cmp] g).bind f) R1:=by
 subst ha hm hb
 have hl:=hlen
 simp only [c8R,c9d] at hl
 have w1:IntKind.wrap .i64 (((P.length+1:Nat):Int) - (P.length:Int))=1:=by rw [wrap_i64 (by omega) (by omega)];omega
 have gx:(P++x::B++Q)[P.length]?=some x:=by
  rw [show P++x::B++Q=P++x::(B++Q) by simp]
  exact a0J _ _ x _ rfl
 have gB:∀ t,(P++x::B++Q)[P.length+1+t]?=(B++Q)[t]?:=fun t=>by
  rw [show P++x::B++Q=(P++[x])++(B++Q) by simp,List.getElem?_append_right (by simp)]
  simp [-bind_some]
 rw [b6X]
 simp only [b3O,bs,c8N,a0E,w1,a0S,decide_true,a0f,if_true]
 refine c8E hN hlen ho cmp P.length (P.length+1) (P.length+1+B.length) (fun t=>∃ y,(P++x::B++Q)[t]?=some y∧c y x<0) (by omega) (by omega) (by omega) x gx (fun t y _ _ hy=>⟨c y x,hcmp y x g,fun h=>⟨y,hy,h⟩,fun ⟨y',h1,h2⟩=>by rw [hy] at h1;injection h1 with h1;rw [h1];exact h2⟩) _ _ _ fun k b1 b2 b3 k1 k2 k3 k4=>?_
 obtain ⟨t,rfl⟩:∃ t,k=P.length+1+t:=⟨k - (P.length+1),by omega⟩
 have htB:t≤B.length:=by omega
 simp only [a0m,a0l,bs,a0e,a0h,c8N]
 have eL:P++x::B++Q=P++x::B.take t++(B.drop t++Q):=by
  simp only [List.append_assoc,List.cons_append]
  rw [← List.append_assoc (B.take t),List.take_append_drop]
 have htl:(B.take t).length=t:=by simp;omega
 refine c8G (P:=P) (A:=B.take t) (Q:=B.drop t++Q) (x:=x) hN (by rw [← eL];exact hlen) (by rw [← eL];exact ho) _ (by rw [htl];show D.int _ _=_;congr 1;omega) _ rfl _ fun g1 c1 c2 p1 s1'=>?_
 simp only [a0m,a0l,bs]
 refine K g1 (B.take t) (B.drop t) (List.take_append_drop _ _).symm ?_ ?_ (by rw [p1];simp [-bind_some]) s1'
 ·rcases Nat.eq_zero_or_pos t with rfl | hpos
  ·exact .inl (by simp)
  ·right
   rcases k3 with k3 | ⟨y,hy,hlt⟩
   ·omega
   ·rw [show P.length+1+t - 1=P.length+1+(t - 1) by omega,gB,c9l (by omega)] at hy
    refine ⟨y,B.take (t - 1),?_,hlt⟩
    conv=>lhs;rw [show t=(t - 1)+1 by omega,c8Y,hy]
    simp [-bind_some]
 ·rcases Nat.lt_or_ge t B.length with hlt | hge
  ·right
   obtain ⟨y,hy⟩:=gx_ hlt
   rcases k4 with k4 | k4
   ·omega
   ·refine ⟨y,B.drop (t+1),?_,fun h=>k4 ⟨y,by rw [gB,c9l hlt];exact hy,h⟩⟩
    obtain ⟨hn,hh⟩:=c9c.1 hy
    rw [List.drop_eq_getElem_cons hn,hh]
  ·exact .inl (List.drop_eq_nil_of_le hge)
theorem c0R {g:Hp} {o N:Nat} {P A Q:List Ct} {x:Ct} (hN:N≤1000000000) (hlen:(P++A++x::Q).length=N) (hA1:A.length≠1) (ho:g[o]?=some (.row a0d 3 ((P++A++x::Q).map ctr))) (cmp:D) (c:Ct→Ct→Int) (hcmp:a6s cmp c) (a m b:Int) (ha:a=(P.length:Nat)) (hm:m=(P.length+A.length:Nat)) (hb:b=(P.length+A.length+1:Nat)) {β:Type} {f:D × Hp→Option β} {R1:β→Prop}
  (K:∀ g' A1 A2,A=A1++A2→(A1=[]∨∃ y r,A1=r++[y]∧¬ c x y<0)→(A2=[]∨∃ y r,A2=y::r∧c x y<0)→g'[o]?=some (.row a0d 3 ((P++(A1++x::A2)++Q).map ctr))→Same o g g'→Wp (f (a0i [],g')) R1):Wp ((R a4s [.msl 3 o 0 N,.int .i64 a,.int .i64 m,.int .i64 b,cmp] g).bind f) R1:=by
 subst ha hm hb
 have hl:=hlen
 simp only [c8R,c9d] at hl
 have w1:IntKind.wrap .i64 (((P.length+A.length:Nat):Int) - (P.length:Int))=A.length:=by rw [wrap_i64 (by omega) (by omega)];omega
 have w2:IntKind.wrap .i64 (((P.length+A.length+1:Nat):Int) - ((P.length+A.length:Nat):Int))=1:=by rw [wrap_i64 (by omega) (by omega)];omega
 have hd1:decide ((A.length:Int)=1)=false:=decide_eq_false (by omega)
 have gx:(P++A++x::Q)[P.length+A.length]?=some x:=a0J _ _ x _ (by simp)
 have gA:∀ t,t<A.length→(P++A++x::Q)[P.length+t]?=A[t]?:=fun t ht=>by
  rw [List.append_assoc,List.getElem?_append_right (by simp),c9l (by omega)]
  simp [-bind_some]
 rw [b6X]
 simp only [b3O,a3K,bs,c8N,a0E,w1,w2,a0S,hd1,decide_true,a0f,c8O,if_false,if_true]
 refine c8A hN hlen ho cmp (P.length+A.length) P.length (P.length+A.length) (fun t=>∃ y,(P++A++x::Q)[t]?=some y∧¬ c x y<0) (by omega) (by omega) (by omega) x gx (fun t y _ _ hy=>⟨c x y,hcmp x y g,fun h=>⟨y,hy,h⟩,fun ⟨y',h1,h2⟩=>by rw [hy] at h1;injection h1 with h1;rw [h1];exact h2⟩) _ _ _ fun k b1 b2 b3 k1 k2 k3 k4=>?_
 obtain ⟨t,rfl⟩:∃ t,k=P.length+t:=⟨k - P.length,by omega⟩
 have htA:t≤A.length:=by omega
 simp only [a0m,a0l,bs,a0e,a0h,c8N]
 have htl:(A.take t).length=t:=by simp;omega
 have eL:P++A++x::Q=(P++A.take t)++A.drop t++x::Q:=by
  rw [List.append_assoc P (A.take t),List.take_append_drop]
 have hdl:(A.drop t).length=A.length - t:=c9f
 refine c8C (P:=P++A.take t) (A:=A.drop t) (Q:=Q) (x:=x) hN (by rw [← eL];exact hlen) (by rw [← eL];exact ho) _ (by rw [c8R,htl];rfl) _ (by rw [c8R,htl,hdl];congr 1;omega) _ fun g1 c1 c2 p1 s1'=>?_
 simp only [a0m,a0l,bs]
 refine K g1 (A.take t) (A.drop t) (List.take_append_drop _ _).symm ?_ ?_ (by rw [p1];simp [-bind_some]) s1'
 ·rcases Nat.eq_zero_or_pos t with rfl | hpos
  ·exact .inl (by simp)
  ·right
   rcases k3 with k3 | ⟨y,hy,hlt⟩
   ·omega
   ·rw [show P.length+t - 1=P.length+(t - 1) by omega,gA _ (by omega)] at hy
    refine ⟨y,A.take (t - 1),?_,hlt⟩
    conv=>lhs;rw [show t=(t - 1)+1 by omega,c8Y,hy]
    simp [-bind_some]
 ·rcases Nat.lt_or_ge t A.length with hlt | hge
  ·right
   obtain ⟨y,hy⟩:=gx_ hlt
   rcases k4 with k4 | k4
   ·omega
   ·refine ⟨y,A.drop (t+1),?_,Classical.byContradiction fun h=>k4 ⟨y,by rw [gA _ hlt];exact hy,h⟩⟩
    obtain ⟨hn,hh⟩:=c9c.1 hy
    rw [List.drop_eq_getElem_cons hn,hh]
  ·exact .inl (List.drop_eq_nil_of_le hge)
def a9N (c:Ct→Ct→Int) (S Pre:Ct→Ct→Prop) (cmp:D) (o N n:Nat):Prop :=
 ∀ (g:Hp) (P A B Q:List Ct) (a m b:Int),A.length+B.length≤n→(P++A++B++Q).length=N→0<A.length→0<B.length→A.Pairwise S→B.Pairwise S→(∀ x∈A,∀ y∈B,Pre x y) →
  g[o]?=some (.row a0d 3 ((P++A++B++Q).map ctr))→a=(P.length:Nat)→m=(P.length+A.length:Nat)→b=(P.length+A.length+B.length:Nat) →
  Wp (R a4s [.msl 3 o 0 N,.int .i64 a,.int .i64 m,.int .i64 b,cmp] g) fun p=>∃ C:List Ct,C.Perm (A++B)∧C.Pairwise S∧p.2[o]?=some (.row a0d 3 ((P++C++Q).map ctr))∧Same o g p.2
theorem b6R {g:Hp} {o N:Nat} {P A B Q:List Ct} (hN:N≤1000000000) (hlen:(P++A++B++Q).length=N) (hA:0<A.length) (hB:0<B.length) (ho:g[o]?=some (.row a0d 3 ((P++A++B++Q).map ctr))) (cmp:D) (c:Ct→Ct→Int) (hcmp:a6s cmp c)
  (mid s0 r0:Nat) (hmid:mid=(P.length+(P.length+A.length+B.length)) / 2) (hs:(P.length+A.length>mid∧s0+B.length=mid∧r0=mid)∨(P.length+A.length≤mid∧s0=P.length∧r0=P.length+A.length))
  (p:Int) (hp:p=(mid+(P.length+A.length) - 1:Nat)) (x1 x2 x3:D) {β:Type} {f:Out→Option β} {R1:β→Prop}
  (K:∀ (k:Nat) b1 b2 b3 A1 A2 B1 B2,A=A1++A2→B=B1++B2→k=P.length+A1.length→mid=P.length+A1.length+B1.length →
   (A1=[]∨B2=[]∨∃ x y r s,A1=r++[x]∧B2=y::s∧¬ c y x<0)→(A2=[]∨B1=[]∨∃ x y r s,B1=r++[y]∧A2=x::s∧c y x<0) →
   Wp (f (.ext 8,[.int .i64 (k:Int),.int .i64 (k:Int),b1,b2,b3],g)) R1):Wp ((a0z (a4F (.msl 3 o 0 N) cmp (.int .i64 p)) [.int .i64 (s0:Int),.int .i64 (r0:Int),x1,x2,x3] g).bind f) R1:=by
 subst hp
 have hl:=hlen
 simp only [c8R] at hl
 have gA:∀ t,P.length≤t→t<P.length+A.length→(P++A++B++Q)[t]?=A[t - P.length]?:=fun t h0 h1=>by
  rw [List.append_assoc (P++A)];exact c1q P A _ t h0 h1
 have gB:∀ t,P.length+A.length≤t→t<P.length+A.length+B.length→(P++A++B++Q)[t]?=B[t - (P.length+A.length)]?:=fun t h0 h1=>by
  have:=c1q (P++A) B Q t (by simpa using h0) (by simpa using h1)
  simpa using this
 obtain ⟨q,hq⟩:∃ q:Nat→Prop,∀ t,q t↔∃ y z,(P++A++B++Q)[t]?=some y∧(P++A++B++Q)[mid+(P.length+A.length) - 1 - t]?=some z∧¬ c z y<0:=⟨_,fun t=>Iff.rfl⟩
 refine c8y hN hlen ho cmp (mid+(P.length+A.length) - 1) s0 r0 q (by omega) (by omega) (by omega) (by omega)
  (fun t y z _ _ hy hz=>⟨c z y,hcmp z y g,fun h=>(hq t).2 ⟨y,z,hy,hz,h⟩,fun hh=>by
   obtain ⟨y',z',h1,h2,h3⟩:=(hq t).1 hh
   rw [hy] at h1;rw [hz] at h2;injection h1 with h1;injection h2 with h2;rw [h1,h2];exact h3⟩) _ _ _ fun k b1 b2 b3 k1 k2 k3 k4=>?_
 have hkA:k - P.length≤A.length:=by omega
 have hkB:mid - k≤B.length:=by omega
 have la:(A.take (k - P.length)).length=k - P.length:=by simp;omega
 have lb:(B.take (mid - k)).length=mid - k:=by simp;omega
 refine K k b1 b2 b3 (A.take (k - P.length)) (A.drop (k - P.length)) (B.take (mid - k)) (B.drop (mid - k)) (List.take_append_drop _ _).symm (List.take_append_drop _ _).symm (by omega) (by omega) ?_ ?_
 ·rcases k3 with k3 | k3
  ·rcases hs with ⟨h1,h2,h3⟩ | ⟨h1,h2,h3⟩
   ·right;left
    exact List.drop_eq_nil_of_le (by omega)
   ·left
    apply List.eq_nil_of_length_eq_zero
    omega
  ·by_cases hk0:k=P.length
   ·left;apply List.eq_nil_of_length_eq_zero;omega
   ·right
    by_cases hk1:B.length≤mid - k
    ·left;exact List.drop_eq_nil_of_le hk1
    ·right
     obtain ⟨y,z,hy,hz,hlt⟩:=(hq _).1 k3
     rw [gA _ (by omega) (by omega)] at hy
     rw [gB _ (by omega) (by omega)] at hz
     obtain ⟨r,hr⟩:=a5o (A:=A) (t:=k - P.length) (y:=y) (by omega) (by rw [← hy];congr 1;omega)
     obtain ⟨s,hs'⟩:=a4J (A:=B) (t:=mid - k) (y:=z) (by rw [← hz];congr 1;omega)
     exact ⟨y,z,r,s,hr,hs',hlt⟩
 ·by_cases hk0:k=P.length+A.length
  ·left;exact List.drop_eq_nil_of_le (by omega)
  ·right
   by_cases hk1:mid - k=0
   ·left;rw [hk1];rfl
   ·right
    rcases k4 with k4 | k4
    ·omega
    ·obtain ⟨y,hy⟩:∃ y,A[k - P.length]?=some y:=⟨_,c9b (by omega)⟩
     obtain ⟨z,hz⟩:∃ z,B[mid - k - 1]?=some z:=⟨_,c9b (by omega)⟩
     obtain ⟨r,hr⟩:=a5o (A:=B) (t:=mid - k) (y:=z) (by omega) hz
     obtain ⟨s,hs'⟩:=a4J (A:=A) (t:=k - P.length) (y:=y) hy
     refine ⟨y,z,r,s,hr,hs',Classical.byContradiction fun h=>k4 ((hq _).2 ⟨y,z,?_,?_,h⟩)⟩
     ·rw [gA _ (by omega) (by omega)];exact hy
     ·rw [gB _ (by omega) (by omega),← hz];congr 1;omega
theorem c0S {c:Ct→Ct→Int} {S Pre:Ct→Ct→Prop} (od:SOrd c S Pre) {cmp:D} (hcmp:a6s cmp c) {o N n:Nat} (hN:N≤1000000000) (ih:a9N c S Pre cmp o N n)
  {g:Hp} {P A B Q:List Ct} {a m b:Int} (hn:A.length+B.length≤n+1) (hlen:(P++A++B++Q).length=N) (hA:0<A.length) (hB:0<B.length) (sA:A.Pairwise S) (sB:B.Pairwise S) (hp:∀ x∈A,∀ y∈B,Pre x y)
  (ho:g[o]?=some (.row a0d 3 ((P++A++B++Q).map ctr))) (ha:a=(P.length:Nat)) (hm:m=(P.length+A.length:Nat)) (hb:b=(P.length+A.length+B.length:Nat)) :
  Wp (a3L (.msl 3 o 0 N) (.int .i64 a) (.int .i64 m) (.int .i64 b) cmp g) fun p=>∃ C:List Ct,C.Perm (A++B)∧C.Pairwise S∧p.2[o]?=some (.row a0d 3 ((P++C++Q).map ctr))∧Same o g p.2:=by
 have hl:=hlen
 simp only [c8R] at hl
 obtain ⟨mid,hmid⟩:∃ mid:Nat,mid=(P.length+(P.length+A.length+B.length)) / 2:=⟨_,rfl⟩
 obtain ⟨mm,hmm⟩:∃ mm:Nat,mm=P.length+A.length:=⟨_,rfl⟩
 obtain ⟨bb,hbb⟩:∃ bb:Nat,bb=P.length+A.length+B.length:=⟨_,rfl⟩
 rw [← hmm] at hm
 rw [← hbb] at hb
 subst ha hm hb
 obtain ⟨u1,u2,u3,u4⟩:=@a4b P.length bb (by omega) (by omega)
 rw [← show mid=(P.length+bb) / 2 by rw [hmid,hbb]] at u3 u4
 have w1:IntKind.wrap .i64 ((mid:Int)+(mm:Int))=((mid+mm:Nat):Int):=by rw [wrap_i64 (by omega) (by omega)];omega
 have w2:IntKind.wrap .i64 (((mid+mm:Nat):Int) - 1)=((mid+(P.length+A.length) - 1:Nat):Int):=by rw [wrap_i64 (by omega) (by omega)];omega
 simp only [a3L,bs,c8N,a0p,u1,a2L,u2,a2k,show ¬ (1:Int)<0 by omega,if_false,u3,a2K,u4,w1,a1c]
 refine Wp.join (P:=fun r=>r.1 = .nrm∧r.2.2=g∧∃ s0 r0:Nat,r.2.1=[.int .i64 (s0:Int),.int .i64 (r0:Int)]∧((P.length+A.length>mid∧s0+B.length=mid∧r0=mid)∨(P.length+A.length≤mid∧s0=P.length∧r0=P.length+A.length))) ?_ ?_ ?_
 ·intro h0
  have h0:mid<mm:=by
   have:(mm:Int)>(mid:Int):=by simpa using h0
   omega
  have w3:IntKind.wrap .i64 (((mid+mm:Nat):Int) - (bb:Int))=((mid - B.length:Nat):Int):=by rw [wrap_i64 (by omega) (by omega)];omega
  simp only [a0E,w3,bs]
  exact .some ⟨rfl,rfl,mid - B.length,mid,rfl,.inl ⟨by omega,by omega,rfl⟩⟩
 ·intro h0
  have h0:¬ mid<mm:=by
   have:¬ (mm:Int)>(mid:Int):=by simpa using h0
   omega
  exact .some ⟨rfl,rfl,P.length,mm,rfl,.inr ⟨by omega,rfl,hmm⟩⟩
 rintro ⟨ex,ds,g'⟩ ⟨rfl,q2,s0,r0,rfl,hs⟩
 simp only at q2
 subst q2
 simp only [a0l,a0E,w2,bs,a0e,a0h,c8N]
 refine b6R hN hlen hA hB ho cmp c hcmp mid s0 r0 hmid hs _ rfl _ _ _ fun k b1 b2 b3 A1 A2 B1 B2 eA eB ek em h1 h2=>?_
 subst eA eB
 simp only [c8R] at *
 have w4:IntKind.wrap .i64 (((mid+mm:Nat):Int) - (k:Int))=((mm+B1.length:Nat):Int):=by rw [wrap_i64 (by omega) (by omega)];omega
 simp only [a0m,a0l,bs,a0e,a0h,c8N,a0E,w4,a0n,a4h]
 rw [List.pairwise_append] at sA sB
 -- the rotation
 refine Wp.bind (P:=fun r=>r.1 = .nrm∧r.2.2[o]?=some (.row a0d 3 ((P++A1++B1++A2++B2++Q).map ctr))∧Same o g' r.2.2) ?_ ?_
 ·by_cases c1:0<A2.length
  ·have d1:decide ((k:Int)<(mm:Int))=true:=decide_eq_true (by omega)
   by_cases c2:0<B1.length
   ·have d2:decide ((mm:Int)<((mm+B1.length:Nat):Int))=true:=decide_eq_true (by omega)
    simp only [d1,d2,Bool.and_self,a0f,if_true]
    refine c4J (P:=P++A1) (U:=A2) (V:=B1) (Q:=B2++Q) hN (by simp only [c8R];omega) c1 c2 (by rw [ho];simp [-bind_some]) cmp _ _ _ (by simp only [c8R];omega) (by simp only [c8R];omega) (by simp only [c8R];omega) fun g1 p1 s1=>?_
    exact .some ⟨rfl,by simp only [p1];simp [-bind_some],s1⟩
   ·have e2:B1=[]:=List.eq_nil_of_length_eq_zero (by omega)
    subst e2
    have d2:decide ((mm:Int)<((mm+([]:List Ct).length:Nat):Int))=false:=decide_eq_false (by simp)
    simp only [d1,d2,Bool.and_false,a0f,c8O,if_false]
    exact .some ⟨rfl,by simp only [ho];simp [-bind_some],.refl _ _⟩
  ·have e2:A2=[]:=List.eq_nil_of_length_eq_zero (by omega)
   subst e2
   have d1:decide ((k:Int)<(mm:Int))=false:=decide_eq_false (by simp only [c9e] at *;omega)
   simp only [d1,Bool.false_and,a0f,c8O,if_false]
   exact .some ⟨rfl,by simp only [ho];simp [-bind_some],.refl _ _⟩
 rintro ⟨ex,ds,g1⟩ ⟨rfl,p1,s1⟩
 simp only [a0l,bs,c8N,a0n,a4h]
 -- the first half
 refine Wp.bind (P:=fun r=>r.1 = .nrm∧∃ C1:List Ct,C1.Perm (A1++B1)∧C1.Pairwise S∧r.2.2[o]?=some (.row a0d 3 ((P++C1++(A2++B2++Q)).map ctr))∧Same o g' r.2.2) ?_ ?_
 ·by_cases c1:0<A1.length
  ·have d1:decide (((P.length:Nat):Int)<(k:Int))=true:=decide_eq_true (by omega)
   by_cases c2:0<B1.length
   ·have d2:decide ((k:Int)<(mid:Int))=true:=decide_eq_true (by omega)
    simp only [d1,d2,Bool.and_self,a0f,if_true]
    refine Wp.bind (ih g1 P A1 B1 (A2++B2++Q) _ _ _ (by omega) (by simp only [c8R];omega) c1 c2 sA.1 sB.1 (fun x hx y hy=>hp x (by simp [-bind_some, hx]) y (by simp [-bind_some, hy])) (by rw [p1];simp [-bind_some]) rfl (by omega) (by omega)) ?_
    rintro ⟨d,g2⟩ ⟨C,q1,q2,q3,q4⟩
    exact .some ⟨rfl,C,q1,q2,q3,s1.trans q4⟩
   ·have e2:B1=[]:=List.eq_nil_of_length_eq_zero (by omega)
    subst e2
    have d2:decide ((k:Int)<(mid:Int))=false:=decide_eq_false (by simp only [c9e] at *;omega)
    simp only [d1,d2,Bool.and_false,a0f,c8O,if_false]
    exact .some ⟨rfl,A1,by simp,sA.1,by simp only [p1];simp [-bind_some],s1⟩
  ·have e2:A1=[]:=List.eq_nil_of_length_eq_zero (by omega)
   subst e2
   have d1:decide (((P.length:Nat):Int)<(k:Int))=false:=decide_eq_false (by simp only [c9e] at *;omega)
   simp only [d1,Bool.false_and,a0f,c8O,if_false]
   exact .some ⟨rfl,B1,by simp,sB.1,by simp only [p1];simp [-bind_some],s1⟩
 rintro ⟨ex,ds,g2⟩ ⟨rfl,C1,r1,r2,p2,s2⟩
 have lC1:C1.length=A1.length+B1.length:=by rw [r1.length_eq];simp [-bind_some]
 simp only [a0l,bs,c8N,a0n,a4h]
 -- the second half
 refine Wp.bind (P:=fun r=>r.1 = .nrm∧∃ C2:List Ct,C2.Perm (A2++B2)∧C2.Pairwise S∧r.2.2[o]?=some (.row a0d 3 ((P++(C1++C2)++Q).map ctr))∧Same o g' r.2.2) ?_ ?_
 ·by_cases c1:0<A2.length
  ·have d1:decide ((mid:Int)<((mm+B1.length:Nat):Int))=true:=decide_eq_true (by omega)
   by_cases c2:0<B2.length
   ·have d2:decide (((mm+B1.length:Nat):Int)<(bb:Int))=true:=decide_eq_true (by omega)
    simp only [d1,d2,Bool.and_self,a0f,if_true]
    refine Wp.bind (ih g2 (P++C1) A2 B2 Q _ _ _ (by omega) (by simp only [c8R];omega) c1 c2 sA.2.1 sB.2.1 (fun x hx y hy=>hp x (by simp [-bind_some, hx]) y (by simp [-bind_some, hy])) (by rw [p2];simp [-bind_some]) (by simp only [c8R];omega) (by simp only [c8R];omega) (by simp only [c8R];omega)) ?_
    rintro ⟨d,g3⟩ ⟨C,q1,q2,q3,q4⟩
    exact .some ⟨rfl,C,q1,q2,by rw [q3];simp [-bind_some],s2.trans q4⟩
   ·have e2:B2=[]:=List.eq_nil_of_length_eq_zero (by omega)
    subst e2
    have d2:decide (((mm+B1.length:Nat):Int)<(bb:Int))=false:=decide_eq_false (by simp only [c9e] at *;omega)
    simp only [d1,d2,Bool.and_false,a0f,c8O,if_false]
    exact .some ⟨rfl,A2,by simp,sA.2.1,by simp only [p2];simp [-bind_some],s2⟩
  ·have e2:A2=[]:=List.eq_nil_of_length_eq_zero (by omega)
   subst e2
   have d1:decide ((mid:Int)<((mm+B1.length:Nat):Int))=false:=decide_eq_false (by simp only [c9e] at *;omega)
   simp only [d1,Bool.false_and,a0f,c8O,if_false]
   exact .some ⟨rfl,B2,by simp,sB.2.1,by simp only [p2];simp [-bind_some],s2⟩
 rintro ⟨ex,ds,g3⟩ ⟨rfl,C2,r3,r4,p3,s3⟩
 simp only [a1I,bs]
 obtain ⟨v1,v2⟩:=b5Q od (List.pairwise_append.2 sA) (List.pairwise_append.2 sB) hp h1 h2 r1 r2 r3 r4
 exact .some ⟨C1++C2,v1,v2,p3,s3⟩
theorem b8d {c:Ct→Ct→Int} {S Pre:Ct→Ct→Prop} (od:SOrd c S Pre) {cmp:D} (hcmp:a6s cmp c) {o N:Nat} (hN:N≤1000000000):∀ n,a9N c S Pre cmp o N n
 | 0=>fun g P A B Q a m b h0 _ h1=>by omega
 | n + 1 => fun g P A B Q a m b h0 hlen hA hB sA sB hp ho ha hm hb=>by
  have ih:=b8d od hcmp (o:=o) hN n
  have hl:=hlen
  simp only [c8R] at hl
  by_cases c1:A.length=1
  ·obtain ⟨x,rfl⟩:=List.length_eq_one_iff.1 c1
   have := c0Q (g:=g) (o:=o) (N:=N) (P:=P) (B:=B) (Q:=Q) (x:=x) hN (by simpa using hlen) (by simpa using ho) cmp c hcmp a m b ha (by rw [hm];rfl) (by rw [hb];rfl) (f:=some) (R1:=fun p=>∃ C:List Ct,C.Perm ([x]++B)∧C.Pairwise S∧p.2[o]?=some (.row a0d 3 ((P++C++Q).map ctr))∧Same o g p.2)
    (fun g' B1 B2 e h1 h2 p1 s1 => .some ⟨B1++x::B2,by rw [e];exact List.perm_middle,by
     subst e
     rw [List.pairwise_append] at sB ⊢
     refine ⟨sB.1,List.pairwise_cons.2 ⟨?_,sB.2.1⟩,?_⟩
     ·rcases h2 with rfl | ⟨y,r,rfl,hy⟩
      ·intro z hz;cases hz
      ·have hxy:=od.ge x y (hp x (by simp) y (by simp)) hy
       intro z hz
       rcases c9h.1 hz with rfl | hz
       ·exact hxy
       ·exact od.tr _ _ _ hxy ((List.pairwise_cons.1 sB.2.1).1 z hz)
     ·have hx1:∀ u∈B1,S u x:=by
        rcases h1 with rfl | ⟨y,r,rfl,hy⟩
        ·intro z hz;cases hz
        ·have hyx:=od.lt x y (hp x (by simp) y (by simp)) hy
         intro z hz
         rcases c9i.1 hz with hz | hz
         ·exact od.tr _ _ _ ((List.pairwise_append.1 sB.1).2.2 z hz y (by simp)) hyx
         ·simp at hz;subst hz;exact hyx
      intro u hu v hv
      rcases c9h.1 hv with rfl | hv
      ·exact hx1 u hu
      ·exact sB.2.2 u hu v hv,by rw [p1],s1⟩)
   rwa [show ∀ x:Option (D × Hp),x.bind some=x from fun x=>by cases x <;> rfl] at this
  ·by_cases c2:B.length=1
   ·obtain ⟨x,rfl⟩:=List.length_eq_one_iff.1 c2
    have:=c0R (g:=g) (o:=o) (N:=N) (P:=P) (A:=A) (Q:=Q) (x:=x) hN (by simpa using hlen) c1 (by simpa using ho) cmp c hcmp a m b ha (by rw [hm]) (by rw [hb];rfl) (f:=some) (R1:=fun p=>∃ C:List Ct,C.Perm (A++[x])∧C.Pairwise S∧p.2[o]?=some (.row a0d 3 ((P++C++Q).map ctr))∧Same o g p.2)
     (fun g' A1 A2 e h1 h2 p1 s1 => .some ⟨A1++x::A2,by rw [e];exact List.perm_middle.trans (by simpa using (List.perm_append_comm (l₁:=[x]) (l₂:=A1++A2))),b0B od (by rw [← e];exact sA) (fun y hy=>hp y (by rw [e];exact hy) x (by simp)) h2 h1,by rw [p1],s1⟩)
    rwa [show ∀ x:Option (D × Hp),x.bind some=x from fun x=>by cases x <;> rfl] at this
   ·have r:=c0S od hcmp hN ih h0 hlen hA hB sA sB hp ho ha hm hb
    rw [b6X]
    have v1:IntKind.wrap .i64 (m - a)=(A.length:Int):=by rw [hm,ha,wrap_i64 (by omega) (by omega)];omega
    have v2:IntKind.wrap .i64 (b - m)=(B.length:Int):=by rw [hm,hb,wrap_i64 (by omega) (by omega)];omega
    have d1:decide ((A.length:Int)=1)=false:=decide_eq_false (by omega)
    have d2:decide ((B.length:Int)=1)=false:=decide_eq_false (by omega)
    simp only [b3O,a3K,bs,a0E,v1,v2,a0S,d1,d2,a0f,c8O,if_false]
    exact r
theorem b2t {c:Ct→Ct→Int} {S Pre:Ct→Ct→Prop} (od:SOrd c S Pre) {cmp:D} (hcmp:a6s cmp c) {o N:Nat} (hN:N≤1000000000) {g:Hp} {P A Q:List Ct} (hlen:(P++A++Q).length=N) (hA:A.Pairwise Pre)
  (ho:g[o]?=some (.row a0d 3 ((P++A++Q).map ctr))) (a b:Int) (ha:a=P.length) (hb:b=(P.length+A.length:Nat)) :
  Wp (R a5j [.msl 3 o 0 N,.int .i64 a,.int .i64 b,cmp] g) fun p=>∃ C:List Ct,C.Perm A∧C.Pairwise S∧p.2[o]?=some (.row a0d 3 ((P++C++Q).map ctr))∧Same o g p.2:=by
 subst ha hb
 have hl:=hlen
 simp only [c8R] at hl
 obtain ⟨d,h',e,p1,s1⟩:=c4p c cmp hcmp o N P.length (P.length+A.length) hN (by omega) (by omega) _ hlen g ho
 refine ⟨(d,h'),e,?_⟩
 cases A with
 | nil =>
  refine ⟨[],by simp,List.Pairwise.nil,?_,s1⟩
  rw [p1]
  simp [-bind_some, isr]
 | cons x A =>
  obtain ⟨C,q1,q2,q3⟩:=b2v od P Q A [x] (by simp) (fun u hu v hv=>by simp at hu;subst hu;exact (List.pairwise_cons.1 hA).1 v hv) (List.pairwise_cons.1 hA).2
  refine ⟨C,q2,q3,?_,s1⟩
  rw [p1]
  have e1:P.length+(x::A).length - (P.length+1)=A.length:=by simp;omega
  rw [e1]
  have e2:P++x::A++Q=P++[x]++A++Q:=by simp
  rw [e2]
  exact congrArg (fun z:List Ct=>some (Ob.row a0d 3 (z.map ctr))) q1
theorem c4I {c:Ct→Ct→Int} {S Pre:Ct→Ct→Prop} (od:SOrd c S Pre) {cmp:D} (hcmp:a6s cmp c) {o N:Nat} (hN:N≤1000000000) {g:Hp} {l:List Ct} (hl:l.length=N) (hpre:l.Pairwise Pre)
  (ho:g[o]?=some (.row a0d 3 (l.map ctr))):Wp (R b0p [.msl 3 o 0 N,.int .i64 N,cmp] g) fun p=>∃ C:List Ct,C.Perm l∧C.Pairwise S∧p.2[o]?=some (.row a0d 3 (C.map ctr))∧Same o g p.2:=by
 rw [b9J]
 simp only [b6C,bs,c8N]
 refine Wp.loop (fun n ds g'=>∃ u,∃ X Y:List Ct,ds=[.int .i64 (X.length:Nat),.int .i64 ((X.length+20:Nat):Int),u]∧n=Y.length∧(X++Y).Perm l∧Y.Pairwise Pre∧CtxB S Pre 20 X Y∧g'[o]?=some (.row a0d 3 ((X++Y).map ctr))∧Same o g g')
  (fun r=>r.1 = .ext 0∧∃ u,∃ X Y:List Ct,r.2.1=[.int .i64 (X.length:Nat),.int .i64 ((X.length+20:Nat):Int),u]∧Y.length<20∧(X++Y).Perm l∧Y.Pairwise Pre∧CtxB S Pre 20 X Y∧r.2.2[o]?=some (.row a0d 3 ((X++Y).map ctr))∧Same o g r.2.2)
  l.length ⟨_,[],l,rfl,rfl,by simp,hpre,CtxB.nil,by simpa using ho,.refl _ _⟩ ?_ ?_
 ·rintro n ds g' ⟨u,X,Y,rfl,rfl,hp,hY,hc,ho',sm⟩
  have hXY:X.length+Y.length=N:=by rw [← hl,← hp.length_eq];simp [-bind_some]
  simp only [a6E,a0e,a0h,bs,c8N,a2x]
  refine Wp.dif ?_ ?_
  ·intro h0
   have h0:20≤Y.length:=by
    have:((X.length+20:Nat):Int)≤(N:Int):=by simpa using h0
    omega
   obtain ⟨A,Y',rfl,hA⟩:∃ A Y',Y=A++Y'∧A.length=20:=⟨Y.take 20,Y.drop 20,(List.take_append_drop _ _).symm,by simp;omega⟩
   obtain ⟨y1,y2,y3⟩:=a8t hY
   simp only [c8R] at hXY h0
   refine Wp.bind (b2t od hcmp hN (P:=X) (A:=A) (Q:=Y') (by simp only [c8R];omega) y1 (by rw [ho'];simp [-bind_some]) _ _ rfl (by omega)) ?_
   rintro ⟨d,g2⟩ ⟨C,q1,q2,q3,q4⟩
   have lC:C.length=20:=by rw [q1.length_eq,hA]
   have w1:IntKind.wrap .i64 (((X.length+20:Nat):Int)+20)=((X.length+20+20:Nat):Int):=by rw [wrap_i64 (by omega) (by omega)];omega
   simp only [a0p,w1,bs]
   have eX:(X++C).length=X.length+20:=by simp [-bind_some, lC]
   refine .some (.inl ⟨rfl,Y'.length,by simp only [c8R];omega,_,X++C,Y',by rw [eX],rfl,?_,y2,hc.step q1 lC q2 y3,q3,sm.trans q4⟩)
   refine List.Perm.trans ?_ hp
   rw [List.append_assoc]
   exact (q1.append_right Y').append_left X
  ·intro h0
   have h0:¬ 20≤Y.length:=by
    have:¬ ((X.length+20:Nat):Int)≤(N:Int):=by simpa using h0
    omega
   exact .some (.inr ⟨by simp,rfl,_,X,Y,rfl,by omega,hp,hY,hc,ho',sm⟩)
 rintro ⟨ex,ds,g1⟩ ⟨rfl,u,X,Y,rfl,hYl,hp,hY,hc,ho1,s1⟩
 have hXY:X.length+Y.length=N:=by rw [← hl,← hp.length_eq];simp [-bind_some]
 simp only [a0m,a0l,a0e,a0h,bs]
 refine Wp.bind (b2t od hcmp hN (P:=X) (A:=Y) (Q:=[]) (by simp only [c8R,c9e];omega) hY (by simpa using ho1) _ _ rfl (by omega)) ?_
 rintro ⟨d,g2⟩ ⟨C,q1,q2,q3,q4⟩
 have bl:Blk S Pre 20 (X++C):=hc.done q1 (by rw [q1.length_eq];omega) q2
 have hpZ:(X++C).Perm l:=(q1.append_left X).trans hp
 have q3:g2[o]?=some (.row a0d 3 ((X++C).map ctr)):=by simpa using q3
 have s2:Same o g g2:=s1.trans q4
 generalize X++C=Z at bl hpZ q3
 clear q1 q2 hc hY ho1 s1 q4
 simp only [bs,c8N]
 refine Wp.loop (fun n ds g'=>∃ u1 u2 u3 u4 u5 u6,∃ k:Nat,∃ Z:List Ct,ds=[.int .i64 (k:Int),u1,u2,u3,u4,u5,u6]∧n=N - k∧0<k∧k≤2000000000∧Z.Perm l∧Blk S Pre k Z∧g'[o]?=some (.row a0d 3 (Z.map ctr))∧Same o g g')
  (fun r=>r.1 = .ext 2∧∃ u1 u2 u3 u4 u5 u6 u7,r.2.1=[u1,u2,u3,u4,u5,u6,u7]∧∃ Z:List Ct,Z.Perm l∧Z.Pairwise S∧r.2.2[o]?=some (.row a0d 3 (Z.map ctr))∧Same o g r.2.2)
  (N - 20) ⟨_,_,_,_,_,_,20,Z,rfl,rfl,by omega,by omega,hpZ,bl,q3,s2⟩ ?_ ?_
 ·clear q3 s2 bl hpZ Z hXY hp
  rintro n ds g3 ⟨u1,u2,u3,u4,u5,u6,k,Z,rfl,rfl,k0,k1,hp,bl,ho3,s3⟩
  have lZ:Z.length=N:=by rw [hp.length_eq,hl]
  simp only [a6F,a0e,a0h,bs,c8N,a0n]
  refine Wp.dif ?_ ?_
  ·intro h0
   have h0:k<N:=by
    have:(k:Int)<(N:Int):=by simpa using h0
    omega
   have w1:IntKind.wrap .i64 ((2:Int)*(k:Int))=((2*k:Nat):Int):=by rw [wrap_i64 (by omega) (by omega)];omega
   simp only [a4H,w1,bs,c8N]
   refine Wp.loop (fun n ds g'=>∃ u,∃ X Y:List Ct,ds=[.int .i64 (X.length:Nat),.int .i64 ((X.length+2*k:Nat):Int),u]∧n=Y.length∧(X++Y).Perm l∧Blk S Pre k Y∧CtxB S Pre (2*k) X Y∧g'[o]?=some (.row a0d 3 ((X++Y).map ctr))∧Same o g g')
    (fun r=>r.1 = .ext 4∧∃ u v,∃ X Y:List Ct,r.2.1=[.int .i64 (X.length:Nat),u,v]∧Y.length<2*k∧(X++Y).Perm l∧Blk S Pre k Y∧CtxB S Pre (2*k) X Y∧r.2.2[o]?=some (.row a0d 3 ((X++Y).map ctr))∧Same o g r.2.2)
    N ⟨u5,[],Z,by simp,lZ.symm,by simpa using hp,bl,CtxB.nil,by simpa using ho3,s3⟩ ?_ ?_
   ·rintro n ds g4 ⟨u,X,Y,rfl,rfl,hp4,bl4,hc4,ho4,s4⟩
    have hXY:X.length+Y.length=N:=by rw [← hl,← hp4.length_eq];simp [-bind_some]
    simp only [a9J,a0e,a0h,bs,c8N,a2x]
    refine Wp.dif ?_ ?_
    ·intro h1
     have h1:2*k≤Y.length:=by
      have:((X.length+2*k:Nat):Int)≤(N:Int):=by simpa using h1
      omega
     obtain ⟨A,Y1,rfl,lA,sA,pA,bY1⟩:=bl4.fst (by omega)
     simp only [c8R] at hXY h1
     obtain ⟨B,Y2,rfl,lB,sB,pB,bY2⟩:=bY1.fst (by omega)
     simp only [c8R] at hXY h1
     have w2:IntKind.wrap .i64 ((X.length:Int)+(k:Int))=((X.length+A.length:Nat):Int):=by rw [wrap_i64 (by omega) (by omega)];omega
     simp only [a0p,w2,bs,c8N]
     refine Wp.bind (b8d od hcmp hN (A.length+B.length) g4 X A B Y2 _ _ _ (Nat.le_refl _) (by simp only [c8R];omega) (by omega) (by omega) sA sB (fun x hx y hy=>pA x hx y (by simp [-bind_some, hy])) (by rw [ho4];simp [-bind_some]) rfl rfl (by omega)) ?_
     rintro ⟨d,g5⟩ ⟨C,q1,q2,q3,q4⟩
     have lC:C.length=2*k:=by rw [q1.length_eq,c8R];omega
     have w3:IntKind.wrap .i64 (((X.length+2*k:Nat):Int)+((2*k:Nat):Int))=((X.length+2*k+2*k:Nat):Int):=by rw [wrap_i64 (by omega) (by omega)];omega
     simp only [a4H,a0p,w1,w3,bs]
     have eX:(X++C).length=X.length+2*k:=by simp [-bind_some, lC]
     refine .some (.inl ⟨rfl,Y2.length,by simp only [c8R];omega,_,X++C,Y2,by rw [eX],rfl,?_,bY2,CtxB.step (A:=A++B) (by rw [List.append_assoc];exact hc4) q1 lC q2 (fun x hx y hy=>?_),q3,s4.trans q4⟩)
     ·refine List.Perm.trans ?_ hp4
      rw [List.append_assoc,← List.append_assoc A B Y2]
      exact (q1.append_right Y2).append_left X
     ·rcases c9i.1 hx with hx | hx
      ·exact pA x hx y (by simp [-bind_some, hy])
      ·exact pB x hx y hy
    ·intro h1
     have h1:¬ 2*k≤Y.length:=by
      have:¬ ((X.length+2*k:Nat):Int)≤(N:Int):=by simpa using h1
      omega
     exact .some (.inr ⟨by simp,rfl,_,_,X,Y,rfl,by omega,hp4,bl4,hc4,ho4,s4⟩)
   rintro ⟨ex,ds,g4⟩ ⟨rfl,u,v,X,Y,rfl,hYl,hp4,bl4,hc4,ho4,s4⟩
   have hXY:X.length+Y.length=N:=by rw [← hl,← hp4.length_eq];simp [-bind_some]
   have w2:IntKind.wrap .i64 ((X.length:Int)+(k:Int))=((X.length+k:Nat):Int):=by rw [wrap_i64 (by omega) (by omega)];omega
   have w4:IntKind.wrap .i64 ((k:Int)*2)=((2*k:Nat):Int):=by rw [wrap_i64 (by omega) (by omega)];omega
   simp only [a0m,a0l,a0e,a0h,bs,a0p,w2,a0n,c8N]
   refine Wp.bind (P:=fun r=>r.1 = .nrm∧∃ Z:List Ct,Z.Perm l∧Blk S Pre (2*k) Z∧r.2.2[o]?=some (.row a0d 3 (Z.map ctr))∧Same o g r.2.2) ?_ ?_
   ·by_cases hm:X.length+k<N
    ·have d1:decide (((X.length+k:Nat):Int)<(N:Int))=true:=decide_eq_true (by omega)
     obtain ⟨A,B,rfl,lA,sA,pA,bB⟩:=bl4.fst (by omega)
     simp only [c8R] at hXY hYl
     have sB:B.Pairwise S:=bB.all (by omega)
     simp only [d1,a0f,if_true]
     refine Wp.bind (b8d od hcmp hN (A.length+B.length) g4 X A B [] _ _ _ (Nat.le_refl _) (by simp only [c8R,c9e];omega) (by omega) (by omega) sA sB pA (by rw [ho4];simp [-bind_some]) rfl (by omega) (by omega)) ?_
     rintro ⟨d,g5⟩ ⟨C,q1,q2,q3,q4⟩
     refine .some ⟨rfl,X++C,(q1.append_left X).trans hp4,hc4.done q1 (by rw [q1.length_eq,c8R];omega) q2,by simpa using q3,s4.trans q4⟩
    ·have d1:decide (((X.length+k:Nat):Int)<(N:Int))=false:=decide_eq_false (by omega)
     simp only [d1,a0f,c8O,if_false]
     exact .some ⟨rfl,X++Y,hp4,hc4.done (List.Perm.refl _) (by omega) (bl4.all (by omega)),ho4,s4⟩
   rintro ⟨ex,ds,g5⟩ ⟨rfl,Z2,hp5,bl5,ho5,s5⟩
   simp only [a0l,bs,w4]
   exact .some (.inl ⟨rfl,N - 2*k,by omega,_,_,_,_,_,_,2*k,Z2,rfl,rfl,by omega,by omega,hp5,bl5,ho5,s5⟩)
  ·intro h0
   have h0:¬ k<N:=by
    have:¬ (k:Int)<(N:Int):=by simpa using h0
    omega
   exact .some (.inr ⟨by simp,rfl,_,_,_,_,_,_,_,rfl,Z,hp,bl.all (by omega),ho3,s3⟩)
 rintro ⟨ex,ds,g3⟩ ⟨rfl,u1,u2,u3,u4,u5,u6,u7,rfl,Z3,hp3,sZ,ho3,s3⟩
 simp only [a0m,a1I,bs]
 exact .some ⟨Z3,hp3,sZ,ho3,s3⟩
def ctc (c:Ct):Cn:=(c.k,c.n,c.e)
theorem b5w (c:Ct):a0b tab a0d 0 (.fptr (ctr c))=some (.fptr (ctr c)):=id rfl
theorem b4k (c:Ct):a0b tab a0d 1 (.fptr (ctr c))=some (.fptr [.int .i64 c.n,.int .i64 c.e]):=id rfl
theorem c0Z (c:Ct):a0b tab a0d 2 (.fptr (ctr c))=some (.fptr [.int .i64 c.e]):=id rfl
theorem b5x (c:Ct) (h:Hp):a0c tab h a0D (.fptr (ctr c))=some c.kd:=by
 have h1:=a1L c.hk
 show a0c tab h a0D (.fptr [c.kd,.int .i64 c.n,.int .i64 c.e])=_
 generalize c.kd=a at h1
 cases a <;> first | rfl | (simp [-bind_some, D.one] at h1)
theorem b3A (n e:Int) (h:Hp):a0c tab h ty3 (.fptr [.int .i64 n,.int .i64 e])=some (.int .i64 n):=id rfl
theorem c1a (e:Int) (h:Hp):a0c tab h ty3 (.fptr [.int .i64 e])=some (.int .i64 e):=id rfl
theorem ctL (c:Ct) (h:Hp):a0c tab h a0d (.fptr (ctr c))=some (.agg (ctr c)):=id rfl
theorem b4j (c:Ct):a1J (.agg (ctr c))=some (.fptr (ctr c)):=a2s _
theorem a9V (c:Ct):a8G 3 (.agg (ctr c))=some (.fptr (ctr c)):=a6N 3 _ rfl
def RdCt (h:Hp) (l:List Ct) (d:D):Prop:=SlOf 3 ctr l d∨∃ ob tl,d = .msl 3 ob 0 l.length∧h[ob]?=some (.row a0d 3 (l.map ctr++tl))
theorem a2S {h:Hp} {l:List Ct} {d:D} (hd:RdCt h l d):a0w tab a0g d=some (.int .i64 l.length):=by
 rcases hd with hd | ⟨ob,tl,rfl,_⟩
 ·exact a2l hd
 ·exact a3Z _ _ _ _
theorem a6k {h:Hp} {l:List Ct} {d:D} (hd:RdCt h l d) (i:Nat) (p:Ct) (hp:l[i]?=some p):∃ q,a0a tab a0g d (.int .i64 i)=some q∧a0c tab h a0d q=some (.agg (ctr p)):=by
 have hi:=(c9c.1 hp).1
 rcases hd with hd | ⟨ob,tl,rfl,ho⟩
 ·exact ⟨.fptr (ctr p),by rw [a3B hd];simp [-bind_some, hp],ctL p h⟩
 ·have hr:(l.map ctr++tl)[i]?=some (ctr p):=by rw [c9l (by simpa using hi),c8Z,hp];rfl
  exact ⟨.ptr ob i 0,by rw [a2B,if_pos (by omega)];simp [-bind_some],by rw [a2O,a1g ho,hr];rfl⟩
theorem b4T {h:Hp} {l:List Ct} {d:D} (hd:RdCt h l d):a0G h 3 d=some (l.map ctr):=by
 rcases hd with hd | ⟨ob,tl,rfl,ho⟩
 ·exact a1v h hd
 ·simp [-bind_some, a0G,ho]
theorem c0A (x:Ct) (key:List Str) (dk:D) (h:Hp) (hk:SlOf 1 (fun s=>[D.str s]) key dk) (hl:key.length≤1000000):R a8e [.agg (ctr x),dk] h=some (.int .i64 (a0W x.k key),h):=by
 rw [c2K]
 simp only [b9e,b4j,bs,b5w,b5x,b3g x.k key x.kd dk h x.hk hk x.hkl hl,a0o]
def cM (x y:Ct):Int:=if a4z x.n y.n=0 then a0W x.k y.k else a4z x.n y.n
theorem c5n (a b:Int):orI [a,b]=if a=0 then b else a:=by
 unfold orI orI orI
 split
 ·split
  ·rename_i h2;exact h2.symm
  ·rfl
 ·rfl
theorem c4m (x y:Ct) (h:Hp):R a8f [.agg (ctr x),.agg (ctr y)] h=some (.int .i64 (cM x y),h):=by
 rw [c2M]
 have hs:SlOf 1 inr [a4z x.n y.n,a0W x.k y.k] (.sl 1 true [[.int .i64 (a4z x.n y.n)],[.int .i64 (a0W x.k y.k)]]) := .inr ⟨true,rfl⟩
 simp only [b9g,b4j,bs,b4k,b3A,s90,b5w,b5x,b3g x.k y.k x.kd y.kd h x.hk y.hk x.hkl y.hkl,b1u,s89 _ _ h hs (by simp),c5n,a1j,a0o]
 rfl
theorem c0B (x m:Ct) (h:Hp):R a5h [.agg (ctr x),.fptr (ctr m)] h=some (.bool (decide (a0W x.k m.k=0)),h):=by
 rw [c2O]
 simp only [b9i,b4j,bs,b5w,b5x,b3g x.k m.k x.kd m.kd h x.hk m.hk x.hkl m.hkl,a0S,a0o]
theorem c4k (S:List Ct) (d:D) (key:List Str) (dk:D) (h:Hp) (hS:RdCt h S d) (hk:SlOf 1 (fun s=>[D.str s]) key dk) (hkl:key.length≤1000000) (hl:S.length≤1000000) (asc:CAsc (S.map ctc)) :
  ∃ (i:Nat) (b:Bool),i≤S.length∧R b0m [d,dk,.fn (.func a8e) [] []] h=some (.tup [.int .i64 i,.bool b],h)∧(b=true↔∃ c,S[i]?=some c∧c.k=key)∧(∀ j c,j<i→S[j]?=some c→a0W c.k key<0)∧(∀ j c,i≤j→S[j]?=some c→¬ a0W c.k key<0):=by
 suffices Wp (R b0m [d,dk,.fn (.func a8e) [] []] h) (fun p=>∃ (i:Nat) (b:Bool),i≤S.length∧p=(.tup [.int .i64 i,.bool b],h)∧(b=true↔∃ c,S[i]?=some c∧c.k=key)∧(∀ j c,j<i→S[j]?=some c→a0W c.k key<0)∧(∀ j c,i≤j→S[j]?=some c→¬ a0W c.k key<0)) by
  obtain ⟨p,h1,i,b,h2,rfl,h3⟩:=this
  exact ⟨i,b,h2,h1,h3⟩
 have ord:∀ (i j:Nat) (x y:Ct),i<j→S[i]?=some x→S[j]?=some y→a0W x.k y.k<0:=fun i j x y hij hx hy=>by
  have hi:=(c9c.1 hx).1
  have hj:=(c9c.1 hy).1
  have:=List.pairwise_iff_getElem.1 asc i j (by simpa using hi) (by simpa using hj) hij
  simp only [List.getElem_map] at this
  rw [c9b hi] at hx
  rw [c9b hj] at hy
  injection hx with hx
  injection hy with hy
  rw [hx,hy] at this
  exact this
 rw [c2J]
 simp only [b9d,a2S hS,bs,c8N]
 refine Wp.loop (fun k ds g=>g=h∧∃ x y z,∃ lo hi:Nat,ds=[.int .i64 lo,.int .i64 hi,x,y,z]∧k+lo=hi∧hi≤S.length∧(∀ j c,j<lo→S[j]?=some c→a0W c.k key<0)∧(∀ j c,hi≤j→S[j]?=some c→¬ a0W c.k key<0))
  (fun r=>r.1 = .ext 0∧r.2.2=h∧∃ lo:Nat,nth 0 r.2.1 = .int .i64 lo∧lo≤S.length∧(∀ j c,j<lo→S[j]?=some c→a0W c.k key<0)∧(∀ j c,lo≤j→S[j]?=some c→¬ a0W c.k key<0)) S.length ⟨rfl,_,_,_,0,S.length,rfl,by omega,Nat.le_refl _,fun j c hj=>by omega,fun j c hj hc=>by have:=(c9c.1 hc).1;omega⟩ ?_ ?_
 ·rintro k ds g ⟨rfl,x,y,z,lo,hi,rfl,hk0,hhi,h1,h2⟩
  simp only [a9F,a0e,a0h,bs,c8N,a0n]
  refine Wp.dif ?_ ?_
  ·intro h0
   have h0:lo<hi:=by
    have:(lo:Int)<(hi:Int):=by simpa using h0
    omega
   obtain ⟨m,hm⟩:∃ m,m=(lo+hi) / 2:=⟨_,rfl⟩
   obtain ⟨u1,u2,u3,u4⟩:=@a4b lo hi (by omega) (by omega)
   rw [← hm] at u3 u4
   have u5:=wi_ m (by omega)
   obtain ⟨c,hc⟩:∃ c,S[m]?=some c:=⟨_,c9b (by omega)⟩
   obtain ⟨q,hq,lq⟩:=a6k hS m c hc
   simp only [a0p,u1,a2L,u2,a2k,show ¬ (1:Int)<0 by omega,if_false,u3,a2K,u4,hq,lq,bs,a1x,List.nil_append,List.append_nil,List.cons_append,c0A c key dk g hk hkl,a0n]
   by_cases hlt:a0W c.k key<0
   ·simp only [hlt,decide_true,a0f,if_true,u5,bs,a0F,a0e,a0h]
    refine .some (.inl ⟨rfl,hi - (m+1),by omega,rfl,_,_,_,m+1,hi,rfl,by omega,hhi,fun j x hj hx=>?_,h2⟩)
    rcases Nat.lt_or_ge j m with hjm | hjm
    ·exact a3C (ord j m x c hjm hx hc) hlt
    ·have:j=m:=by omega
     subst this
     rw [hc] at hx
     injection hx with hx
     rw [← hx];exact hlt
   ·simp only [hlt,decide_false,a0f,c8O,if_false,bs,a0F,a0e,a0h]
    refine .some (.inl ⟨rfl,m - lo,by omega,rfl,_,_,_,lo,m,rfl,by omega,by omega,h1,fun j x hj hx hh=>?_⟩)
    rcases Nat.lt_or_ge m j with hjm | hjm
    ·exact hlt (a3C (ord m j c x hjm hc hx) hh)
    ·have:j=m:=by omega
     subst this
     rw [hc] at hx
     injection hx with hx
     rw [← hx] at hh
     exact hlt hh
  ·intro h0
   have h0:¬ lo<hi:=by
    have:¬ (lo:Int)<(hi:Int):=by simpa using h0
    omega
   have:lo=hi:=by omega
   exact .some (.inr ⟨by simp,rfl,rfl,lo,rfl,by omega,h1,fun j c hj hc=>h2 j c (by omega) hc⟩)
 ·rintro ⟨ex,ds,g⟩ ⟨rfl,rfl,i,hi,hil,h1,h2⟩
  simp only at hi
  simp only [a0m,a0l,bs,a0e,a0h,hi,a0n]
  by_cases h0:i<S.length
  ·obtain ⟨c,hc⟩:=gx_ h0
   obtain ⟨q,hq,lq⟩:=a6k hS i c hc
   have d0:decide ((i:Int)<(S.length:Int))=true:=decide_eq_true (by omega)
   simp only [d0,a0N,a1d,if_true,bs,hq,lq,a1x,List.nil_append,List.append_nil,List.cons_append,c0A c key dk g hk hkl,a0S,a0B,a2r]
   refine .some ⟨i,decide (a0W c.k key=0),hil,rfl,?_,h1,h2⟩
   rw [decide_eq_true_iff,a1r]
   constructor
   ·intro e;exact ⟨c,hc,e⟩
   ·rintro ⟨c',hc',e⟩
    rw [hc] at hc'
    injection hc' with hc'
    rw [hc'];exact e
  ·have d0:decide ((i:Int)<(S.length:Int))=false:=decide_eq_false (by omega)
   simp only [d0,a0N,a1d,a6c,reduceCtorEq,c8O,if_false,bs,a0B,a2r]
   refine .some ⟨i,false,hil,rfl,?_,h1,h2⟩
   constructor
   ·intro e;cases e
   ·rintro ⟨c',hc',e⟩
    have:=(c9c.1 hc').1
    omega
theorem c0J (l:List Ct) (d:D) (h:Hp) (hd:SlOf 3 ctr l d) (hl:l.length≤1000000):∃ d' h',R a8c [d] h=some (d',h')∧h.length≤h'.length∧(∀ q,q<h.length→h'[q]?=h[q]?) ∧
  ((l=[]∧(d' = .nils∨d' = .sl 3 true []))∨∃ ob,h.length≤ob∧d' = .msl 3 ob 0 l.length∧h'[ob]?=some (.row a0d 3 (l.map ctr))):=by
 rw [c2E]
 have hrow:=a1v h hd
 by_cases hn:d = .nils
 ·subst hn
  have hl0:l=[]:=by
   rcases hd with ⟨_,h2⟩ | ⟨b,h2⟩
   ·simpa using h2
   ·cases h2
  subst hl0
  exact ⟨.nils,h,by
   have hne:a0k tab .eql a0g .nils .nils=some (.bool true):=id rfl
   simp [-bind_some, b6y,hne],Nat.le_refl _,fun _ _=>rfl,.inl ⟨rfl,.inl rfl⟩⟩
 ·obtain ⟨x',h',e,hl',hq,ho⟩:=a6M (T:=tab) (t:=a0g) (i:=ti1229) (j:=ti1237) (h:=h) (id rfl) (id rfl) (id rfl) (by decide) (y:=d) hrow (a2G (by have:ti1237.by_=40:=rfl;rw [this,c8S];omega) (by rw [c8S];omega))
  have e':a0q tab h a0g a0g (.sl 3 true []) d=some (x',h'):=e
  have hne:a0k tab .eql a0g d .nils=some (.bool false):=by
   rcases hd with ⟨h2,_⟩ | ⟨b,rfl⟩
   ·exact absurd h2 hn
   ·exact id rfl
  refine ⟨x',h',?_,hl',hq,?_⟩
  ·simp only [b6y,bs,hne,a0f,c8O,if_false,b3X,e',a0o]
  ·rcases ho with ⟨rfl,hn⟩ | ⟨rfl,hn⟩ | ⟨ob,h1,rfl,h2⟩
   ·have:l=[]:=by simpa using hn
    exact .inl ⟨this,.inr rfl⟩
   ·have:l=[]:=by simpa using hn
    exact .inl ⟨this,.inl rfl⟩
   ·exact .inr ⟨ob,h1,by rw [c8S];rfl,h2⟩
theorem c1S {x y:Ct} (h:a0W y.k x.k<0):cM x y<0↔x.n<y.n:=by
 have hk:¬ a0W x.k y.k<0:=by rw [a2g];omega
 unfold cM a4z
 by_cases h1:x.n<y.n
 ·simp [-bind_some, h1]
 ·by_cases h2:y.n<x.n
  ·simp [-bind_some, h1,h2]
  ·simp [-bind_some, h1,h2,hk]
theorem a4i {S:List Ct} (asc:CAsc (S.map ctc)) (i j:Nat) (x y:Ct) (hij:i<j) (hx:S[i]?=some x) (hy:S[j]?=some y):a0W x.k y.k<0:=by
 have hi:=(c9c.1 hx).1
 have hj:=(c9c.1 hy).1
 have:=List.pairwise_iff_getElem.1 asc i j (by simpa using hi) (by simpa using hj) hij
 simp only [List.getElem_map] at this
 rw [c9b hi] at hx
 rw [c9b hj] at hy
 injection hx with hx
 injection hy with hy
 rw [hx,hy] at this
 exact this
theorem a4V (n0:Nat) (h:Hp) (n:Nat) (c:Ct):∀ d∈ctr c,frz n0 h (n+1) d=d:=fun d hd=>by
 simp only [ctr,c9h,List.not_mem_nil,or_false] at hd
 rcases hd with rfl | rfl | rfl
 ·exact a7u _ _ _ c.hk
 ·exact a3c _ _ _ _ _
 ·exact a3c _ _ _ _ _
theorem a5N (n:Nat) (c:Ct):∀ d∈ctr c,Ok n d:=fun d hd=>by
 simp only [ctr,c9h,List.not_mem_nil,or_false] at hd
 rcases hd with rfl | rfl | rfl
 ·exact a6p _ c.hk
 ·exact .int _ _
 ·exact .int _ _
theorem b8q {S:List Ct} {i:Nat} {c:Ct} (h:S[i]?=some c):(((S.map ctc)[i]?).getD ([],0,0)).2.1=c.n:=by
 rw [c8Z,h];rfl
theorem c4l (S:List Ct) (d:D) (h:Hp) (hS:RdCt h S d) (hl:S.length≤1000000) (hne:0<S.length) (asc:CAsc (S.map ctc)) :
  ∃ m,S[lst (S.map ctc) S.length]?=some m∧R b0n [d,.fn (.func a8f) [] []] h=some (.agg (ctr m),h):=by
 suffices Wp (R b0n [d,.fn (.func a8f) [] []] h) (fun p=>∃ m,S[lst (S.map ctc) S.length]?=some m∧p=(.agg (ctr m),h)) by
  obtain ⟨p,h1,m,h2,rfl⟩:=this
  exact ⟨m,h2,h1⟩
 have r0:(a0Q h a0d 3 [[.nils,.int .i64 0,.int .i64 0]])[h.length]?=some (.row a0d 3 [[.nils,.int .i64 0,.int .i64 0]]):=a1P _ _ _ _
 have l0:(a0Q h a0d 3 [[.nils,.int .i64 0,.int .i64 0]]).length=h.length+1:=a3f _ _ _ _
 have k0:∀ q,q<h.length→(a0Q h a0d 3 [[.nils,.int .i64 0,.int .i64 0]])[q]?=h[q]?:=fun q hq=>a2f _ _ _ _ hq
 have hlss:decide ((S.length:Int)<1)=false:=decide_eq_false (by omega)
 obtain ⟨c0,hc0⟩:∃ c,S[0]?=some c:=⟨_,c9b hne⟩
 -- counters are read as well where more was laid
 have rdg:∀ {g:Hp},h.length≤g.length→(∀ q,q<h.length→g[q]?=h[q]?)→RdCt g S d:=fun {g} h1 h2=>by
  rcases hS with hS | ⟨ob,tl,rfl,ho⟩
  ·exact .inl hS
  ·exact .inr ⟨ob,tl,rfl,by rw [h2 ob (c9c.1 ho).1];exact ho⟩
 rw [c2L]
 simp only [b9f,a2S hS,bs,a0n,hlss,a0f,c8O,if_false,a0l,c8N]
 generalize a0Q h a0d 3 [[.nils,.int .i64 0,.int .i64 0]]=g0 at *
 have R0:=rdg (g:=g0) (by omega) k0
 obtain ⟨q0,hq0,lq0⟩:=a6k R0 0 c0 hc0
 have hq0:a0a tab a0g d (.int .i64 0)=some q0:=hq0
 have r1:(a0Q g0 a0d 3 [[.nils,.int .i64 0,.int .i64 0]])[h.length+1]?=some (.row a0d 3 [[.nils,.int .i64 0,.int .i64 0]]):=by rw [← l0];exact a1P _ _ _ _
 have ln1:(a0Q g0 a0d 3 [[.nils,.int .i64 0,.int .i64 0]]).length=h.length+2:=by rw [a3f,l0]
 have k1:∀ q,q<h.length+1→(a0Q g0 a0d 3 [[.nils,.int .i64 0,.int .i64 0]])[q]?=g0[q]?:=fun q hq=>a2f _ _ _ _ (by omega)
 simp only [hq0,lq0,bs,l0,c8N]
 generalize a0Q g0 a0d 3 [[.nils,.int .i64 0,.int .i64 0]]=g1 at *
 refine a2c (kk:=0) (off:=0) (row:=[.nils,.int .i64 0,.int .i64 0]) (v := .agg (ctr c0)) r1 (by rfl) (by rfl) (by exact Nat.le_refl _) (a2b c0) fun g2 p2 s2=>?_
 have p2:g2[h.length+1]?=some (.row a0d 3 [ctr c0]):=p2
 try simp only [bs]
 refine Wp.loop (fun k ds g=>∃ i:Nat,∃ x y c,ds=[.int .i64 i,x,y]∧k+i=S.length∧1≤i∧S[lst (S.map ctc) i]?=some c∧lst (S.map ctc) i<i∧g[h.length+1]?=some (.row a0d 3 [ctr c])∧Same (h.length+1) g1 g)
  (fun r=>r.1 = .ext 0∧∃ c,S[lst (S.map ctc) S.length]?=some c∧r.2.2[h.length+1]?=some (.row a0d 3 [ctr c])∧Same (h.length+1) g1 r.2.2) (S.length - 1) ⟨1,_,_,c0,rfl,by omega,Nat.le_refl _,?_,?_,p2,s2⟩ ?_ ?_
 ·have:lst (S.map ctc) 1=0:=by unfold lst lst;simp [-bind_some]
  rw [this];exact hc0
 ·have:lst (S.map ctc) 1=0:=by unfold lst lst;simp [-bind_some]
  rw [this];omega
 ·rintro k ds g ⟨i,x,y,c,rfl,hk,hi1,hc,hlt,pg,sg⟩
  have Rg:=rdg (g:=g) (by have:=sg.1;omega) fun q hq=>by rw [sg.2 q (by omega),k1 q (by omega),k0 q hq]
  simp only [a9G,a0e,a0h,bs,c8N,a2S Rg,a0n]
  refine Wp.dif ?_ ?_
  ·intro h0
   have h0:i<S.length:=by
    have:(i:Int)<(S.length:Int):=by simpa using h0
    omega
   have hw:=wi_ i (by omega)
   obtain ⟨u,hu⟩:=gx_ h0
   obtain ⟨q,hq,lq⟩:=a6k Rg i u hu
   have ldc:a0c tab g a0d (.ptr (h.length+1) 0 0)=some (.agg (ctr c)):=by rw [a2O,a1g pg];rfl
   have hcm:=c1S (a4i asc _ i c u hlt hc hu)
   have hst:lst (S.map ctc) (i+1)=if u.n<c.n then i else lst (S.map ctc) i:=by
    conv=>lhs;unfold lst
    rw [b8q hu,b8q hc]
   simp only [hq,lq,ldc,bs,a1x,List.nil_append,List.append_nil,c4m u c g,a0n]
   by_cases hn:u.n<c.n
   ·have hd1:decide (cM u c<0)=true:=decide_eq_true (hcm.2 hn)
    simp only [hd1,a0f,if_true,hq,lq,bs,c8N]
    refine a2c (kk:=0) (off:=0) (row:=ctr c) (v := .agg (ctr u)) pg (by rfl) (by rfl) (by exact Nat.le_refl _) (a2b u) fun g5 p5 s5=>?_
    have p5:g5[h.length+1]?=some (.row a0d 3 [ctr u]):=p5
    simp only [bs,a0F,a0l,a0p,hw]
    refine .some (.inl ⟨rfl,k - 1,by omega,i+1,_,_,u,rfl,by omega,by omega,by rw [hst,if_pos hn];exact hu,by rw [hst,if_pos hn];omega,p5,sg.trans s5⟩)
   ·have hd1:decide (cM u c<0)=false:=decide_eq_false fun hh=>hn (hcm.1 hh)
    simp only [hd1,a0f,c8O,if_false,bs,a0F,a0l,a0p,hw]
    exact .some (.inl ⟨rfl,k - 1,by omega,i+1,_,_,c,rfl,by omega,by omega,by rw [hst,if_neg hn];exact hc,by rw [hst,if_neg hn];omega,pg,sg⟩)
  ·intro h0
   have h0:i=S.length:=by
    have:¬ (i:Int)<(S.length:Int):=by simpa using h0
    omega
   subst h0
   exact .some (.inr ⟨by simp,rfl,c,hc,pg,sg⟩)
 ·rintro ⟨ex,ds,g⟩ ⟨rfl,c,hc,pg,sg⟩
  simp only at pg sg
  have ldc:a0c tab g a0d (.ptr (h.length+1) 0 0)=some (.agg (ctr c)):=by rw [a2O,a1g pg];rfl
  have r9:g[h.length]?=some (.row a0d 3 [[.nils,.int .i64 0,.int .i64 0]]):=by rw [sg.2 _ (by omega),k1 _ (by omega)];exact r0
  simp only [a0m,a0l,bs,ldc]
  refine a2c (kk:=0) (off:=0) (row:=[.nils,.int .i64 0,.int .i64 0]) (v := .agg (ctr c)) r9 (by rfl) (by rfl) (by exact Nat.le_refl _) (a2b c) fun g9 p9 s9=>?_
  have p9:g9[h.length]?=some (.row a0d 3 [ctr c]):=p9
  have ld9:a0c tab g9 a0d (.ptr h.length 0 0)=some (.agg (ctr c)):=by rw [a2O,a1g p9];rfl
  have fk:frz h.length g9 3 c.kd=c.kd:=a7u _ _ _ c.hk
  simp only [bs,ld9,a0o]
  rw [a1f (d' := .agg (ctr c)) (by
   show D.agg [frz h.length g9 3 c.kd,_,_]=_
   rw [fk];rfl) (.agg _ fun d hd=>a5N _ c d hd) (by have:=s9.1;have:=sg.1;omega) (fun q hq=>by rw [s9.2 q (by omega),sg.2 q (by omega),k1 q (by omega),k0 q hq])]
  exact .some ⟨c,hc,rfl⟩
theorem kne {S:List Ct} (asc:CAsc (S.map ctc)) {i j:Nat} {x y:Ct} (hij:i≠j) (hx:S[i]?=some x) (hy:S[j]?=some y):¬ a0W x.k y.k=0:=by
 rcases Nat.lt_or_gt_of_ne hij with h | h
 ·have:=a4i asc i j x y h hx hy;omega
 ·have:=a4i asc j i y x h hy hx;rw [a2g] at this;omega
theorem c4o (S:List Ct) (d:D) (m:Ct) (p:Nat) (h:Hp) (hS:RdCt h S d) (hl:S.length≤1000000) (asc:CAsc (S.map ctc)) (hp:S[p]?=some m) :
  R b0q [d,.fn (.func a5h) [] [.fptr (ctr m)]] h=some (.int .i64 p,h):=by
 suffices Wp (R b0q [d,.fn (.func a5h) [] [.fptr (ctr m)]] h) (fun q=>q=(.int .i64 p,h)) by
  obtain ⟨q,h1,rfl⟩:=this
  exact h1
 have hpl:=(c9c.1 hp).1
 rw [c2Q]
 simp only [b9k,a2S hS,bs,c8N]
 refine Wp.loop (fun k ds g=>g=h∧∃ i:Nat,∃ a b x y,ds=[a,b,.int .i64 i,x,y]∧k+i=S.length∧i≤p)
  (fun r=>r.1 = .ret∧r.2.2=h∧nth 0 r.2.1 = .int .i64 p) S.length ⟨rfl,0,_,_,_,_,rfl,rfl,by omega⟩ ?_ ?_
 ·rintro k ds g ⟨rfl,i,a,b,x,y,rfl,hk,hi⟩
  have hw:=wi_ i (by omega)
  obtain ⟨u,hu⟩:∃ u,S[i]?=some u:=⟨_,c9b (by omega)⟩
  obtain ⟨q,hq,lq⟩:=a6k hS i u hu
  have hlt:decide ((i:Int)<(S.length:Int))=true:=decide_eq_true (by omega)
  simp only [a9K,a0e,a0h,bs,c8N,a0n,hlt,a0f,if_true,hq,lq,a1x,List.nil_append,List.append_nil,List.cons_append,c0B u m g]
  by_cases he:i=p
  ·subst he
   rw [hp] at hu
   injection hu with hu
   subst hu
   have:decide (a0W m.k m.k=0)=true:=decide_eq_true (a2q _)
   simp only [this,a0f,if_true]
   exact .some (.inr ⟨by simp,rfl,rfl,rfl⟩)
  ·have:decide (a0W u.k m.k=0)=false:=decide_eq_false (kne asc he hu hp)
   simp only [this,a0f,c8O,if_false,a0p,hw,bs]
   exact .some (.inl ⟨rfl,k - 1,by omega,rfl,i+1,_,_,_,_,rfl,by omega,by omega⟩)
 ·rintro ⟨ex,ds,g⟩ ⟨rfl,rfl,hi⟩
  simp only at hi
  simp only [a2u,a2t,a2o,bs,a0e,hi,a0o]
  exact .some rfl
theorem c5w {h:Hp} {ob L:Nat} {rows:List (List D)} (ho:h[ob]?=some (.row a0d 3 rows)) (hr:rows.length=L+1):a4X tab h a0g (.msl 3 ob L 1)=some (.tup [],h.set ob (.row a0d 3 (rows.take L++[[.nils,.int .i64 0,.int .i64 0]]))):=by
 have t1:tab a0g=some ti1229:=id rfl
 have t2:ti1229.td = .sl a0d:=id rfl
 have t3:tab a0d=some ti1237:=id rfl
 have t4:ti1237.sz=3:=id rfl
 have t5:ti1237.zero=[.nils,.int .i64 0,.int .i64 0]:=id rfl
 have hd:rows.drop (L+1)=[]:=List.drop_of_length_le (by omega)
 have b:Nat.blt 0 ti1237.sz=true:=by decide
 have hd':∀ x,a4X tab h a0g x=(match Nat.blt 0 ti1237.sz,x with
       | true,.nils=>some (.tup [],h)
       | true,.sl _ _ []=>some (.tup [],h)
       | true,.msl _ _ _ 0=>some (.tup [],h)
       | true,.msl sz o r n=>match h[o]? with
        | some (.row U z rows)=>if sz=ti1237.sz∧z=sz then some (.tup [],h.set o (.row U z (rows.take r++List.replicate n ti1237.zero++rows.drop (r+n)))) else none
        | _=>none
       | _,_=>none):=fun x=>by
  simp only [a4X,t1,t2,t3]
  rfl
 have b3:Nat.blt 0 3=true:=by decide
 rw [hd']
 simp [-bind_some, b3,ho,t4,t5,hd]
theorem c4n (S:List Ct) (ob:Nat) (m:Ct) (p:Nat) (h:Hp) (ho:h[ob]?=some (.row a0d 3 (S.map ctr))) (hl:S.length≤1000000) (asc:CAsc (S.map ctc)) (hp:S[p]?=some m) :
  ∃ h' tl,R b0o [.msl 3 ob 0 S.length,.fn (.func a5h) [] [.fptr (ctr m)]] h=some (.msl 3 ob 0 (S.eraseIdx p).length,h')∧h'[ob]?=some (.row a0d 3 ((S.eraseIdx p).map ctr++[tl]))∧Same ob h h':=by
 suffices Wp (R b0o [.msl 3 ob 0 S.length,.fn (.func a5h) [] [.fptr (ctr m)]] h) (fun q=>q.1 = .msl 3 ob 0 (S.eraseIdx p).length∧∃ tl,q.2[ob]?=some (.row a0d 3 ((S.eraseIdx p).map ctr++[tl]))∧Same ob h q.2) by
  obtain ⟨⟨x,h'⟩,h1,rfl,tl,h2⟩:=this
  exact ⟨h',tl,h1,h2⟩
 have hpl:=(c9c.1 hp).1
 have hEl:(S.eraseIdx p).length+1=S.length:=by rw [List.length_eraseIdx,if_pos hpl];omega
 have hEp:∀ j,p<j→j<S.length→(S.eraseIdx p)[j - 1]?=S[j]?:=fun j h1 h2=>by
  rw [List.getElem?_eraseIdx,if_neg (by omega)]
  congr 1;omega
 have hEt:(S.eraseIdx p).take p=S.take p:=by
  apply List.ext_getElem?
  intro i
  rw [List.getElem?_take,List.getElem?_take]
  split
  ·rw [List.getElem?_eraseIdx,if_pos (by omega)]
  ·rfl
 generalize S.eraseIdx p=E at *
 have rdS:RdCt h S (.msl 3 ob 0 S.length) := .inr ⟨ob,[],rfl,by simpa using ho⟩
 have hne:¬ ((p:Int) = -1):=by omega
 have hw:=wi_ p (by omega)
 rw [c2N]
 simp only [b9h,c4o S _ m p h rdS hl asc hp,bs,a0S,hne,decide_false,a0f,c8O,if_false,a0p,hw,c8N]
 refine Wp.loop (fun k ds g=>∃ j:Nat,∃ a b c,ds=[.int .i64 (j:Nat),.int .i64 ((j+1:Nat):Int),a,b,c]∧k+(j+1)=S.length∧p≤j∧g[ob]?=some (.row a0d 3 ((E.take j++S.drop j).map ctr))∧Same ob h g)
  (fun r=>r.1 = .ext 0∧nth 0 r.2.1 = .int .i64 E.length∧r.2.2[ob]?=some (.row a0d 3 ((E++S.drop E.length).map ctr))∧Same ob h r.2.2) (S.length - (p+1)) ⟨p,_,_,_,rfl,by omega,Nat.le_refl _,by rw [hEt,List.take_append_drop];exact ho,.refl _ _⟩ ?_ ?_
 ·rintro k ds g ⟨j,a,b,c,rfl,hk,hj,hg,sg⟩
  simp only [a9H,a0e,a0h,bs,c8N,a3Z,a0n]
  refine Wp.dif ?_ ?_
  ·intro h0
   have h0:j+1<S.length:=by
    have:((j+1:Nat):Int)<(S.length:Int):=by simpa using h0
    omega
   obtain ⟨u,hu⟩:∃ u,S[j+1]?=some u:=⟨_,c9b h0⟩
   have w1:=wi_ j (by omega)
   have w2:IntKind.wrap .i64 (((j+1:Nat):Int)+1)=((j+1+1:Nat):Int):=by rw [wrap_i64 (by omega) (by omega)];omega
   have htl:(E.take j).length=j:=by rw [c9g];omega
   have hrow:(E.take j++S.drop j)[j+1]?=some u:=by
    rw [List.getElem?_append_right (by omega),htl,List.getElem?_drop,← hu]
    congr 1;omega
   have hrowj:((E.take j++S.drop j).map ctr)[j]?=some (((E.take j++S.drop j).map ctr)[j]'(by simp;omega)):=c9b _
   have hq:a0a tab a0g (.msl 3 ob 0 S.length) (.int .i64 ((j+1:Nat):Int))=some (.ptr ob (j+1) 0):=by rw [a2B,if_pos (by omega)];simp [-bind_some]
   have hq2:a0a tab a0g (.msl 3 ob 0 S.length) (.int .i64 (j:Int))=some (.ptr ob j 0):=by rw [a2B,if_pos (by omega)];simp [-bind_some]
   have lq:a0c tab g a0d (.ptr ob (j+1) 0)=some (.agg (ctr u)):=by rw [a2O,a1g hg,c8Z,hrow];rfl
   have hdec:decide (a0W u.k m.k=0)=false:=decide_eq_false (kne asc (by omega) hu hp)
   simp only [hq,lq,bs,a9V,ctL,a1x,List.nil_append,List.append_nil,List.cons_append,c0B u m g,hdec,a2M,c8X,a0f,if_true,hq2,c8N]
   refine a2c (kk:=j) (off:=0) (v := .agg (ctr u)) hg hrowj (by rfl) (by
    have:∀ r∈(E.take j++S.drop j).map ctr,r.length=3:=fun r hr=>by
     obtain ⟨x,_,rfl⟩:=c9j.1 hr;rfl
    rw [this _ (List.getElem_mem _)];exact Nat.le_refl _) (a2b u) fun g5 p5 s5=>?_
   have hset:((E.take j++S.drop j).map ctr).set j (spl (((E.take j++S.drop j).map ctr)[j]'(by simp;omega)) 0 (a0u (.agg (ctr u))))=(E.take (j+1)++S.drop (j+1)).map ctr:=by
    have e1:spl (((E.take j++S.drop j).map ctr)[j]'(by simp;omega)) 0 (a0u (.agg (ctr u)))=ctr u:=by
     rw [List.getElem_map]
     generalize (E.take j++S.drop j)[j]'(by simp;omega)=v
     rfl
    have hEj:E[j]?=some u:=by
     have:=hEp (j+1) (by omega) h0
     rw [Nat.add_sub_cancel] at this
     rw [this];exact hu
    rw [e1,← List.map_set]
    congr 1
    rw [c8Y,hEj]
    rw [List.set_append_right _ _ (by omega),htl,Nat.sub_self]
    have hdj:S.drop j=S[j]'(by omega)::S.drop (j+1):=List.drop_eq_getElem_cons (by omega)
    rw [hdj,List.set_cons_zero]
    simp [-bind_some]
   rw [hset] at p5
   simp only [bs,a0p,w1,a0F,a0l,a0e,w2]
   exact .some (.inl ⟨rfl,k - 1,by omega,j+1,_,_,_,rfl,by omega,by omega,p5,sg.trans s5⟩)
  ·intro h0
   have h0:j+1=S.length:=by
    have:¬ ((j+1:Nat):Int)<(S.length:Int):=by simpa using h0
    omega
   have hjE:j=E.length:=by omega
   subst hjE
   exact .some (.inr ⟨by simp,rfl,rfl,by rw [c9k] at hg;exact hg,sg⟩)
 ·rintro ⟨ex,ds,g⟩ ⟨rfl,hi,hg,sg⟩
  simp only at hi hg sg
  have hlo:a0s tab a0g true false false [.msl 3 ob 0 S.length,.int .i64 (E.length:Nat)]=some (.msl 3 ob (0+E.length) (S.length - E.length)):=b5Y (T:=tab) (t:=a0g) (i:=ti1229) (j:=ti1237) (id rfl) (id rfl) (id rfl) (id rfl) (by decide) (by omega) (Nat.zero_le _)
  have hhi:a0s tab a0g false true false [.msl 3 ob 0 S.length,.int .i64 (E.length:Nat)]=some (.msl 3 ob 0 E.length):=a5q (T:=tab) (t:=a0g) (i:=ti1229) (j:=ti1237) (id rfl) (id rfl) (id rfl) (id rfl) (by decide) (by omega)
  have e1:S.length - E.length=1:=by omega
  rw [Nat.zero_add,e1] at hlo
  have hcl:=c5w hg (L:=E.length) (by simp;omega)
  have hct:((E++S.drop E.length).map ctr).take E.length=E.map ctr:=by rw [← List.map_take,List.take_left' rfl]
  rw [hct] at hcl
  have hob:=(c9c.1 hg).1
  simp only [a0m,a0l,bs,a0e,hi,hlo,hcl,hhi,a0o]
  refine .some ⟨rfl,_,by simp [-bind_some, hob];rfl,sg.trans ⟨by simp,fun q hq=>?_⟩⟩
  rw [c9m (fun e=>hq e.symm)]
theorem a4Q:∀ (S:List Cn) (x:Cn) (i:Nat),(∀ j c,j<i→S[j]?=some c→a0W c.1 x.1<0)→(∀ j c,i≤j→S[j]?=some c→¬ a0W c.1 x.1<0)→a9S S x=S.take i++x::S.drop i
 | [],x,i,_,_=>by simp [-bind_some, a9S]
 | y::r,x,0,_,h2=>by
  have:=h2 0 y (Nat.le_refl _) rfl
  rw [a7H,if_neg this];rfl
 | y::r,x,i+1,h1,h2=>by
  have:=h1 0 y (by omega) rfl
  rw [a7H,if_pos this,a4Q r x i (fun j c hj hc=>h1 (j+1) c (by omega) hc) fun j c hj hc=>h2 (j+1) c (by omega) hc]
  rfl
theorem b7F {α:Type} {z:Nat} {f:α→List D} {l:List α} {d:D} (hd:SlOf z f l d):a1J d=some (.fptr [d]):=by
 rcases hd with ⟨rfl,_⟩ | ⟨b,rfl⟩
 ·exact b0Z
 ·exact b4S _ _ _
theorem c4K {e:Nat} {h:Hp} {x:D} (hx:x.one=true):b8y e 1 h x=some (.ptr h.length 0 0,a0Q h e 1 [[x]]):=by
 obtain ⟨h1,h2⟩:=a1U hx
 simp [-bind_some, b8y,h1,h2]
theorem c0y (l:List Str) (d:D) (h:Hp) (hd:SlOf 1 (fun s=>[D.str s]) l d) (hl:l.length≤1000000):∃ d',R b0k [d] h=some (d',h)∧SlOf 1 (fun s=>[D.str s]) l d':=by
 rw [c2G]
 have hrow:=a1v h hd
 by_cases hn:d = .nils
 ·subst hn
  have hl0:l=[]:=by
   rcases hd with ⟨_,h2⟩ | ⟨b,h2⟩
   ·simpa using h2
   ·cases h2
  subst hl0
  refine ⟨.nils,?_,.nils _ _⟩
  have hne:a0k tab .eql a0D .nils .nils=some (.bool true):=id rfl
  simp only [b6B,hne,bs,a0f,if_true,a0o]
  exact a1f rfl .nils (Nat.le_refl _) fun _ _=>rfl
 ·obtain ⟨x',h',e,hl',hq,ho⟩:=a6M (T:=tab) (t:=a0D) (i:=c0H) (j:=ti9) (h:=h) (id rfl) (id rfl) (id rfl) (by decide) (y:=d) hrow (a2G (by have:ti9.by_=16:=rfl;rw [this,c8S];omega) (by rw [c8S];omega))
  have e':a0q tab h a0D a0D (.sl 1 true []) d=some (x',h'):=e
  have hne:a0k tab .eql a0D d .nils=some (.bool false):=by
   rcases hd with ⟨h2,_⟩ | ⟨b,rfl⟩
   ·exact absurd h2 hn
   ·exact id rfl
  have hs4:SlOf 1 (fun s=>[D.str s]) l (frz h.length h' 4 x'):=by
   rcases ho with ⟨rfl,hn⟩ | ⟨rfl,hn⟩ | ⟨ob,h1,rfl,h2⟩
   ·have:l=[]:=by simpa using hn
    subst this
    exact .inr ⟨true,rfl⟩
   ·have:l=[]:=by simpa using hn
    subst this
    exact .nils _ _
   ·exact a2y (n:=3) (.inr ⟨ob,h1,by rw [c8S];rfl,h2⟩) (Nat.le_refl _) fun a _ y hy=>by simp at hy;subst hy;exact a3A _ _ _ _
  refine ⟨_,?_,hs4⟩
  simp only [b6B,bs,hne,a0f,c8O,if_false,b9u,e',a0o]
  exact a1f rfl (a6p _ hs4) hl' hq
theorem c0z (S:List Ct) (x:D) (o:Nat) (key:List Str) (dk:D) (g:Hp) (hg:g[o]?=some (.row a0g 1 [[x]])) (hS:RdCt g S x) (hk:SlOf 1 (fun s=>[D.str s]) key dk) (hkl:key.length≤1000000) (hl:S.length≤1000000) (asc:CAsc (S.map ctc)) :
  ∃ (i:Nat) (b:Bool),i≤S.length∧R b2g [.ptr o 0 0,.fptr [dk]] g=some (.tup [.int .i64 i,.bool b],g)∧(b=true↔∃ c,S[i]?=some c∧c.k=key)∧(∀ j c,j<i→S[j]?=some c→a0W c.k key<0)∧(∀ j c,i≤j→S[j]?=some c→¬ a0W c.k key<0):=by
 obtain ⟨i,b,h1,e,h2⟩:=c4k S x key dk g hS hk hkl hl asc
 refine ⟨i,b,h1,?_,h2⟩
 have ld:a0c tab g a0g (.ptr o 0 0)=some x:=by rw [a8Y,a1g hg];rfl
 rw [c2I]
 simp only [b9c,ld,c3E,bs,e,a1q,c8P,c8Q,a2r]
def LvC (g:Hp) (n0:Nat) (S:List Ct) (x:D):Prop:=(S=[]∧(x = .nils∨x = .sl 3 true []))∨∃ ob tl,n0≤ob∧x = .msl 3 ob 0 S.length∧g[ob]?=some (.row a0d 3 (S.map ctr++tl))
theorem LvC.rdc {g:Hp} {n0:Nat} {S:List Ct} {x:D} (h:LvC g n0 S x):RdCt g S x:=by
 rcases h with ⟨rfl,rfl | rfl⟩ | ⟨ob,tl,_,h1,h2⟩
 ·exact .inl (.nils _ _)
 ·exact .inl (.inr ⟨true,rfl⟩)
 ·exact .inr ⟨ob,tl,h1,h2⟩
theorem LvC.one {g:Hp} {n0:Nat} {S:List Ct} {x:D} (h:LvC g n0 S x):x.one=true:=by
 rcases h with ⟨_,rfl | rfl⟩ | ⟨ob,tl,_,rfl,_⟩ <;> rfl
theorem LvC.keep {g g':Hp} {n0:Nat} {S:List Ct} {x:D} (h:LvC g n0 S x) (hk:∀ q,n0≤q→q<g.length→g'[q]?=g[q]?):LvC g' n0 S x:=by
 rcases h with h | ⟨ob,tl,h0,h1,h2⟩
 ·exact .inl h
 ·exact .inr ⟨ob,tl,h0,h1,by rw [hk ob h0 (c9c.1 h2).1];exact h2⟩
theorem c5k {g:Hp} {n0:Nat} {S:List Ct} {x:D} (hx:LvC g n0 S x) (hn:n0≤g.length) (hl:S.length≤1000000) (i:Nat) (hi:i≤S.length) (c:Ct) :
  ∃ x' g',R a5i [x,.int .i64 i,.sl 3 true [ctr c]] g=some (x',g')∧Own g' n0 a0d 3 ((S.take i++c::S.drop i).map ctr) x'∧g.length≤g'.length∧∀ q,q<n0→g'[q]?=g[q]?:=by
 have hz:ti1237.sz=3:=id rfl
 have hby:ti1237.by_=40:=id rfl
 have hlim:lim (S.length+1) ti1237.by_=true:=a2G (by rw [hby];omega) (by omega)
 rcases hx with ⟨rfl,hx⟩ | ⟨ob,tl,hob,rfl,ho⟩
 ·have hi0:i=0:=by simpa using hi
  subst hi0
  have hlim1:lim 1 ti1237.by_=true:=hlim
  have e:R a5i [x,.int .i64 ((0:Nat):Int),.sl 3 true [ctr c]] g=some (.msl 3 g.length 0 1,a0Q g a0d 3 [ctr c]):=by
   rw [a7z]
   rcases hx with rfl | rfl <;> simp [-bind_some, a8K,b1G,hz,hlim1]
  exact ⟨_,_,e,.inr ⟨g.length,hn,rfl,a1P _ _ _ _⟩,by rw [a3f];omega,fun q hq=>a2f _ _ _ _ (by omega)⟩
 ·have hlt:=(c9c.1 ho).1
  have hkn:(i:Int)≤(S.length:Int):=by omega
  have hrows:(S.map ctr).take i++ctr c::(S.map ctr).drop i=(S.take i++c::S.drop i).map ctr:=by simp
  have hlen:(S.take i++c::S.drop i).length=S.length+1:=by simp;omega
  cases tl with
  | nil =>
   rw [List.append_nil] at ho
   have e:R a5i [.msl 3 ob 0 S.length,.int .i64 i,.sl 3 true [ctr c]] g=some (.msl 3 g.length 0 (S.length+1),a0Q (g.set ob .dead) a0d 3 ((S.map ctr).take i++ctr c::(S.map ctr).drop i)):=by
    rw [a7z]
    simp [-bind_some, a8K,b1G,ho,hz,hlim,hkn]
   rw [hrows] at e
   refine ⟨_,_,e,.inr ⟨g.length,hn,by rw [c8S,hlen],?_⟩,by rw [a3f];simp [-bind_some],fun q hq=>?_⟩
   ·have:=a1P (g.set ob .dead) a0d 3 ((S.take i++c::S.drop i).map ctr)
    rw [List.length_set] at this
    exact this
   ·rw [a2f _ _ _ _ (by simp;omega),c9m (by omega)]
  | cons t r =>
   have hn1:S.length<(S.map ctr++t::r).length:=by simp
   have htk:(S.map ctr++t::r).take S.length=S.map ctr:=by rw [List.take_left' (by simp)]
   have hg1:(a0Q (g.set ob .dead) a0d 3 (S.map ctr))[g.length]?=some (.row a0d 3 (S.map ctr)):=by
    have:=a1P (g.set ob .dead) a0d 3 (S.map ctr)
    rw [List.length_set] at this
    exact this
   have hl1:(a0Q (g.set ob .dead) a0d 3 (S.map ctr)).length=g.length+1:=by rw [a3f];simp [-bind_some]
   have hl9:∀ q,q<g.length→q≠ob→(a0Q (g.set ob .dead) a0d 3 (S.map ctr))[q]?=g[q]?:=fun q hq hne=>by
    rw [a2f _ _ _ _ (by simp;omega),c9m (fun e=>hne e.symm)]
   have e:R a5i [.msl 3 ob 0 S.length,.int .i64 i,.sl 3 true [ctr c]] g=b1G a0d ti1237 [.msl 3 g.length 0 S.length,.int .i64 i,.sl 3 true [ctr c]] (a0Q (g.set ob .dead) a0d 3 (S.map ctr)):=by
    rw [a7z]
    simp only [a8K,ho,hn1,and_self,if_true,htk]
   generalize a0Q (g.set ob .dead) a0d 3 (S.map ctr)=G at *
   have e2:b1G a0d ti1237 [.msl 3 g.length 0 S.length,.int .i64 i,.sl 3 true [ctr c]] G=some (.msl 3 G.length 0 (S.length+1),a0Q (G.set g.length .dead) a0d 3 ((S.map ctr).take i++ctr c::(S.map ctr).drop i)):=by
    simp [-bind_some, b1G,hg1,hz,hlim,hkn]
   rw [e2,hl1] at e
   rw [hrows] at e
   refine ⟨_,_,e,.inr ⟨g.length+1,by omega,by rw [c8S,hlen],?_⟩,by rw [a3f,List.length_set,hl1];omega,fun q hq=>?_⟩
   ·have:=a1P (G.set g.length .dead) a0d 3 ((S.take i++c::S.drop i).map ctr)
    rw [List.length_set,hl1] at this
    exact this
   ·rw [a2f _ _ _ _ (by rw [List.length_set,hl1];omega),c9m (by omega)]
    exact hl9 q (by omega) (by omega)
theorem b7s {S:List Ct} (asc:CAsc (S.map ctc)) {key:List Str} {i:Nat} {b:Bool} (hb:b=true↔∃ c,S[i]?=some c∧c.k=key) (h1:∀ j c,j<i→S[j]?=some c→a0W c.k key<0) (h2:∀ j c,i≤j→S[j]?=some c→¬ a0W c.k key<0):b=true↔key∈(S.map ctc).map (·.1):=by
 have hk:(S.map ctc).map (·.1)=S.map Ct.k:=by rw [List.map_map];rfl
 rw [hb,hk]
 constructor
 ·rintro ⟨c,hc,rfl⟩
  exact c9j.2 ⟨c,c9a hc,rfl⟩
 ·intro h
  obtain ⟨c,hc,e⟩:=c9j.1 h
  obtain ⟨j,hj⟩:=List.mem_iff_getElem?.1 hc
  refine ⟨c,?_,e⟩
  rcases Nat.lt_trichotomy j i with h3 | h3 | h3
  ·have:=h1 j c h3 hj
   rw [e,a2q] at this;omega
  ·rw [← h3];exact hj
  ·have hil:=(c9c.1 hj).1
   obtain ⟨u,hu⟩:∃ u,S[i]?=some u:=⟨_,c9b (by omega)⟩
   have h4:=a4i asc i j u c h3 hu hj
   rw [e] at h4
   exact absurd h4 (h2 i u (Nat.le_refl _) hu)
theorem b1v {S:List Ct} (asc:CAsc (S.map ctc)) {i:Nat} {c:Ct} (hc:S[i]?=some c) (c':Ct) (hk:c'.k=c.k) (w:Int) (hn:c'.n=c.n+w) (he:c'.e=c.e):(S.set i c').map ctc=a6P (S.map ctc) c.k w:=by
 apply List.ext_getElem?
 intro j
 unfold a6P
 rw [List.map_map,c8Z,c8Z,List.getElem?_set]
 by_cases h:i=j
 ·subst h
  have:=(c9c.1 hc).1
  rw [if_pos rfl,if_pos this,hc]
  show some (ctc c')=some (if (ctc c).1=c.k then _ else _)
  rw [if_pos (show (ctc c).1=c.k from rfl)]
  show some (c'.k,c'.n,c'.e)=some (c.k,c.n+w,c.e)
  rw [hk,hn,he]
 ·rw [if_neg h]
  cases hj:S[j]? with
  | none=>rfl
  | some u =>
   show some (ctc u)=some (if (ctc u).1=c.k then _ else _)
   rw [if_neg]
   intro e
   exact kne asc h hc hj ((a1r _ _).2 e.symm)
theorem a5p {α β:Type} (f:α→β):∀ (l:List α) (i:Nat),(l.eraseIdx i).map f=(l.map f).eraseIdx i
 | [],_=>rfl
 | x::r,0=>rfl
 | x::r,i+1=>by simp [-bind_some, a5p f r i]
theorem c0v (S:List Ct) (d:D) (size:Int) (key:List Str) (dk:D) (w:Int) (h:Hp) (hd:SlOf 3 ctr S d) (hk:SlOf 1 (fun s=>[D.str s]) key dk) (hkl:key.length≤1000000) (hl:S.length≤100000) (asc:CAsc (S.map ctc)) (hs:1≤size)
  (hw:∀ c∈S,IntKind.wrap .i64 (c.n+w)=c.n+w) :
  ∃ (S':List Ct) (d':D),R a5g [d,.int .i64 size,dk,.int .i64 w] h=some (d',h)∧SlOf 3 ctr S' d'∧S'.map ctc=obs size (S.map ctc) key w:=by
 suffices Wp (R a5g [d,.int .i64 size,dk,.int .i64 w] h) (fun p=>p.2=h∧∃ S':List Ct,SlOf 3 ctr S' p.1∧S'.map ctc=obs size (S.map ctc) key w) by
  obtain ⟨⟨x,h'⟩,h1,rfl,S',h2⟩:=this
  exact ⟨S',x,h1,h2⟩
 have r0:(a0Q h a0g 1 [[d]])[h.length]?=some (.row a0g 1 [[d]]):=a1P _ _ _ _
 have l0:(a0Q h a0g 1 [[d]]).length=h.length+1:=a3f _ _ _ _
 have k0:∀ q,q<h.length→(a0Q h a0g 1 [[d]])[q]?=h[q]?:=fun q hq=>a2f _ _ _ _ hq
 -- the end
 have fin:∀ (g:Hp) (x:D) (S':List Ct) {β:Type},Own g h.length a0d 3 (S'.map ctr) x→h.length≤g.length→(∀ q,q<h.length→g[q]?=h[q]?)→S'.map ctc=obs size (S.map ctc) key w→Wp (scope h g (a0i [x])) (fun p=>p.2=h∧∃ S':List Ct,SlOf 3 ctr S' p.1∧S'.map ctc=obs size (S.map ctc) key w):=fun g x S' β ow hl hb hc=>by
  have hso:=a2y (n0:=h.length) (n:=3) ow (Nat.le_refl _) (fun a _=>a4V _ g 2 a)
  rw [a0o,a1f (d':=frz h.length g 4 x) rfl (a1u hso fun a _=>a5N _ a) hl hb]
  exact .some ⟨rfl,S',hso,hc⟩
 rw [c2y]
 have ld0:a0c tab (a0Q h a0g 1 [[d]]) a0g (.ptr h.length 0 0)=some d:=by rw [a8Y,a1g r0];rfl
 simp only [b8U,c4K (a1L hd),b7F hk,bs,ld0,c8N]
 generalize a0Q h a0g 1 [[d]]=g0 at *
 obtain ⟨x,g1,e1,l1,k1,hx⟩:=c0J S d g0 hd (by omega)
 have lv1:LvC g1 (h.length+1) S x:=by
  rcases hx with hx | ⟨ob,q1,q2,q3⟩
  ·exact .inl hx
  ·exact .inr ⟨ob,[],by omega,q2,by simpa using q3⟩
 have ox:=a1U lv1.one
 simp only [e1,bs]
 refine b3y (kk:=0) (off:=0) (row:=[d]) (v:=x) (by rw [k1 _ (by omega)];exact r0) (by rfl) (by rw [ox.1];rfl) (by simp) ox.2 fun g2 p2 s2=>?_
 rw [ox.1] at p2
 have p2:g2[h.length]?=some (.row a0g 1 [[x]]):=p2
 have len2:h.length+1≤g2.length:=by have:=s2.1;omega
 have old2:∀ q,q<h.length→g2[q]?=h[q]?:=fun q hq=>by rw [s2.2 q (by omega),k1 q (by omega),k0 q hq]
 have lv2:LvC g2 (h.length+1) S x:=lv1.keep fun q h1 _=>s2.2 q (by omega)
 obtain ⟨i,b,hi,e3,hb,hlo,hhi⟩:=c0z S x h.length key dk g2 p2 lv2.rdc hk hkl (by omega) asc
 have hmem:=b7s asc hb hlo hhi
 have ldx:∀ {g:Hp} {y:D},g[h.length]?=some (.row a0g 1 [[y]])→a0c tab g a0g (.ptr h.length 0 0)=some y:=fun {g y} hg=>by rw [a8Y,a1g hg];rfl
 simp only [bs,a1x,List.nil_append,List.append_nil,List.cons_append,e3,a1q,c8P,c8Q,c8N]
 cases b with
 | true =>
  obtain ⟨c,hc,hck⟩:=hb.1 rfl
  have hiS:=(c9c.1 hc).1
  rcases hx with ⟨rfl,_⟩ | ⟨ob,hob,rfl,ho⟩
  ·simp at hiS
  have ho:g2[ob]?=some (.row a0d 3 (S.map ctr)):=by rw [s2.2 _ (by omega)];exact ho
  have hix:a0a tab a0g (.msl 3 ob 0 S.length) (.int .i64 i)=some (.ptr ob i 0):=by rw [a2B,if_pos (by omega)];simp [-bind_some]
  have hrow:(S.map ctr)[i]?=some (ctr c):=by rw [c8Z,hc];rfl
  have hld:a0c tab g2 ty3 (.ptr ob i (0+1))=some (.int .i64 c.n):=by rw [c3G,a1g ho,hrow];rfl
  simp only [a0f,if_true,ldx p2,bs,hix,a3U,hld,a0p,hw c (c9a hc),c8N]
  refine b8j (kk:=i) (off:=0+1) (row:=ctr c) (v := .int .i64 (c.n+w)) ho hrow (by rfl) (by simp [-bind_some, ctr]) (by rfl) fun g3 p3 s3=>?_
  obtain ⟨c',hc'⟩:∃ c':Ct,c'=⟨c.k,c.kd,c.hk,c.hkl,c.n+w,c.e⟩:=⟨_,rfl⟩
  have hset:(S.map ctr).set i (spl (ctr c) (0+1) (a0u (.int .i64 (c.n+w))))=(S.set i c').map ctr:=by
   have:spl (ctr c) (0+1) (a0u (.int .i64 (c.n+w)))=ctr c':=by rw [hc'];rfl
   rw [this,List.map_set]
  rw [hset] at p3
  have p3x:g3[h.length]?=some (.row a0g 1 [[.msl 3 ob 0 S.length]]):=by rw [s3.2 _ (by omega)];exact p2
  simp only [bs,ldx p3x]
  refine fin g3 _ (S.set i c') (β:=Unit) (.inr ⟨ob,by omega,by simp,p3⟩) (by have:=s3.1;omega) (fun q hq=>by rw [s3.2 q (by omega),old2 q hq]) ?_
  unfold obs
  rw [if_pos (hmem.1 rfl),← hck]
  exact b1v asc hc c' (by rw [hc']) w (by rw [hc']) (by rw [hc'])
 | false =>
  have hnk:key∉(S.map ctc).map (·.1):=fun hh=>by have:=hmem.2 hh;cases this
  obtain ⟨kd,e4,hkd⟩:=c0y key dk g2 hk hkl
  obtain ⟨c0,hc0⟩:∃ c0:Ct,c0=⟨key,kd,hkd,hkl,w,0⟩:=⟨_,rfl⟩
  have hb0:a0M tab a0d [0,1] [kd,.int .i64 w]=some (.agg (ctr c0)):=by rw [hc0];exact a5I kd w (a1L hkd)
  have r5:(a0Q g2 a0d 3 [[.nils,.int .i64 0,.int .i64 0]])[g2.length]?=some (.row a0d 3 [[.nils,.int .i64 0,.int .i64 0]]):=a1P _ _ _ _
  have l5:(a0Q g2 a0d 3 [[.nils,.int .i64 0,.int .i64 0]]).length=g2.length+1:=a3f _ _ _ _
  have k5:∀ q,q<g2.length→(a0Q g2 a0d 3 [[.nils,.int .i64 0,.int .i64 0]])[q]?=g2[q]?:=fun q hq=>a2f _ _ _ _ hq
  simp only [a0f,c8O,if_false,c3E,bs,e4,hb0,c8N]
  generalize a0Q g2 a0d 3 [[.nils,.int .i64 0,.int .i64 0]]=g5 at *
  refine a2c (kk:=0) (off:=0) (row:=[.nils,.int .i64 0,.int .i64 0]) (v := .agg (ctr c0)) r5 (by rfl) (by rfl) (by exact Nat.le_refl _) (a2b c0) fun g6 p6 s6=>?_
  have p6:g6[g2.length]?=some (.row a0d 3 [ctr c0]):=p6
  have p6x:g6[h.length]?=some (.row a0g 1 [[x]]):=by rw [s6.2 _ (by omega),k5 _ (by omega)];exact p2
  have lv6:LvC g6 (h.length+1) S x:=lv2.keep fun q h1 h2=>by rw [s6.2 q (by omega),k5 q h2]
  have old6:∀ q,q<h.length→g6[q]?=h[q]?:=fun q hq=>by rw [s6.2 q (by omega),k5 q (by omega),old2 q hq]
  have len6:g2.length+1≤g6.length:=by have:=s6.1;omega
  have hst:=a2q key
  try simp only [bs]
  simp only [ldx p6x,bs,a2S lv6.rdc,a9W]
  by_cases hroom:(S.length:Int)<size
  ·have hge:decide ((S.length:Int)≥size)=false:=decide_eq_false (by omega)
   have hc0l:a0c tab g6 a0d (.ptr g2.length 0 0)=some (.agg (ctr c0)):=by rw [a2O,a1g p6];rfl
   have hlit:a0A tab a0g 1 [0] [.agg (ctr c0)]=some (.sl 3 true [ctr c0]):=id rfl
   obtain ⟨x9,g9,e9,o9,l9,k9⟩:=c5k lv6 (by omega) (by omega) i hi c0
   simp only [hge,a0N,a6c,reduceCtorEq,c8O,Bool.true_eq_false,if_false,bs,a0B,a0f,a0l,ldx p6x,a0e,hc0l,hlit,e9]
   refine fin g9 x9 _ (β:=Unit) (o9.from (by omega)) (by omega) (fun q hq=>by rw [k9 q (by omega),old6 q hq]) ?_
   have hcc:ctc c0=(key,w,0):=by rw [hc0];rfl
   have hat:=a4Q (S.map ctc) (key,w,0) i (fun j c hj hcj=>?_) (fun j c hj hcj=>?_)
   ·unfold obs
    rw [if_neg hnk,if_pos (by rw [c8S];exact hroom),hat]
    simp [-bind_some, hcc]
   ·rw [c8Z] at hcj
    cases hu:S[j]? with
    | none=>rw [hu] at hcj;cases hcj
    | some u=>rw [hu] at hcj;cases hcj;exact hlo j u hj hu
   ·rw [c8Z] at hcj
    cases hu:S[j]? with
    | none=>rw [hu] at hcj;cases hcj
    | some u=>rw [hu] at hcj;cases hcj;exact hhi j u hj hu
  ·have hge:decide ((S.length:Int)≥size)=true:=decide_eq_true (by omega)
   have hgt:decide ((S.length:Int)>0)=true:=decide_eq_true (by omega)
   have hlp:0<S.length:=by omega
   rcases hx with ⟨rfl,_⟩ | ⟨ob,hob,rfl,ho⟩
   ·simp at hlp
   have ho6:g6[ob]?=some (.row a0d 3 (S.map ctr)):=by
    have:=s2.1
    have h9:=(c9c.1 ho).1
    rw [s6.2 _ (by omega),k5 _ (by omega),s2.2 _ (by omega)];exact ho
   obtain ⟨m,hm,e7⟩:=c4l S _ g6 lv6.rdc (by omega) hlp asc
   have hmn:a5E (S.map ctc)=m.n:=by
    unfold a5E
    rw [c8S]
    exact b8q hm
   have hwm:=hw m (c9a hm)
   simp only [hge,hgt,a0N,if_true,bs,ldx p6x,a3Z,a1c,a0B,a0f,e7,a9V,b4k,b3A,a0p,hwm,a3U,c8N]
   refine b8j (kk:=0) (off:=0+1) (row:=ctr c0) (v := .int .i64 (m.n+w)) p6 (by rfl) (by rfl) (by simp [-bind_some, ctr]) (by rfl) fun g7 p7 s7=>?_
   simp only [bs,b3A,a1j,a7U,c8N]
   refine b8j (kk:=0) (off:=0+2) (row:=[kd,.int .i64 (m.n+w),.int .i64 0]) (v := .int .i64 m.n) (by rw [hc0] at p7;exact p7) (by rfl) (by rfl) (by simp) (by rfl) fun g8 p8 s8=>?_
   obtain ⟨c1,hc1⟩:∃ c1:Ct,c1=⟨key,kd,hkd,hkl,m.n+w,m.n⟩:=⟨_,rfl⟩
   have p8:g8[g2.length]?=some (.row a0d 3 [ctr c1]):=by rw [hc1];exact p8
   have h9:=(c9c.1 ho).1
   have hs21:=s2.1
   have p8x:g8[h.length]?=some (.row a0g 1 [[.msl 3 ob 0 S.length]]):=by rw [s8.2 _ (by omega),s7.2 _ (by omega)];exact p6x
   have ho8:g8[ob]?=some (.row a0d 3 (S.map ctr)):=by rw [s8.2 _ (by omega),s7.2 _ (by omega)];exact ho6
   obtain ⟨g10,tl,e10,p10,s10⟩:=c4n S ob m _ g8 ho8 (by omega) asc hm
   have hmp:=(c9c.1 hm).1
   have hEc:(S.eraseIdx (lst (S.map ctc) S.length)).map ctc=(S.map ctc).eraseIdx (lst (S.map ctc) S.length):=a5p ctc S _
   have hEa:CAsc ((S.eraseIdx (lst (S.map ctc) S.length)).map ctc):=by rw [hEc];exact asc.sublist (List.eraseIdx_sublist _ _)
   have hEl:(S.eraseIdx (lst (S.map ctc) S.length)).length≤S.length:=(List.eraseIdx_sublist _ _).length_le
   simp only [bs,ldx p8x,e10]
   obtain ⟨E,hE⟩:∃ E,E=S.eraseIdx (lst (S.map ctc) S.length):=⟨_,rfl⟩
   rw [← hE] at p10 hEc hEa hEl ⊢
   have p10x:g10[h.length]?=some (.row a0g 1 [[.msl 3 ob 0 S.length]]):=by rw [s10.2 _ (by omega)];exact p8x
   refine b3y (kk:=0) (off:=0) (row:=[.msl 3 ob 0 S.length]) (v := .msl 3 ob 0 E.length) p10x (by rfl) (by rfl) (by simp) (by rfl) fun g11 p11 s11=>?_
   have p11:g11[h.length]?=some (.row a0g 1 [[.msl 3 ob 0 E.length]]):=p11
   have lv11:LvC g11 (h.length+1) E (.msl 3 ob 0 E.length) := .inr ⟨ob,[tl],by omega,rfl,by rw [s11.2 _ (by omega)];exact p10⟩
   obtain ⟨i2,b2,hi2,e12,hb2,hlo2,hhi2⟩:=c0z E _ h.length key dk g11 p11 lv11.rdc hk hkl (by omega) hEa
   have p11c:g11[g2.length]?=some (.row a0d 3 [ctr c1]):=by rw [s11.2 _ (by omega),s10.2 _ (by omega)];exact p8
   have hc1l:a0c tab g11 a0d (.ptr g2.length 0 0)=some (.agg (ctr c1)):=by rw [a2O,a1g p11c];rfl
   have hlit:a0A tab a0g 1 [0] [.agg (ctr c1)]=some (.sl 3 true [ctr c1]):=id rfl
   have l7:=s7.1
   have l8:=s8.1
   have l10:=s10.1
   have l11:=s11.1
   obtain ⟨x13,g13,e13,o13,l13,k13⟩:=c5k lv11 (by omega) (by omega) i2 hi2 c1
   simp only [bs,a1x,List.nil_append,List.append_nil,List.cons_append,e12,a1q,c8P,c8Q,a0l,a0e,ldx p11,hc1l,hlit,e13]
   refine fin g13 x13 _ (β:=Unit) (o13.from (by omega)) (by omega) (fun q hq=>by rw [k13 q (by omega),s11.2 q (by omega),s10.2 q (by omega),s8.2 q (by omega),s7.2 q (by omega),old6 q hq]) ?_
   have hcc:ctc c1=(key,a5E (S.map ctc)+w,a5E (S.map ctc)):=by rw [hc1,hmn];rfl
   have hat:=a4Q (E.map ctc) (key,a5E (S.map ctc)+w,a5E (S.map ctc)) i2 (fun j c hj hcj=>?_) (fun j c hj hcj=>?_)
   ·unfold obs
    rw [if_neg hnk,if_neg (by rw [c8S];exact hroom),c8S,← hEc,hat]
    simp [-bind_some, hcc]
   ·rw [c8Z] at hcj
    cases hu:E[j]? with
    | none=>rw [hu] at hcj;cases hcj
    | some u=>rw [hu] at hcj;cases hcj;exact hlo2 j u hj hu
   ·rw [c8Z] at hcj
    cases hu:E[j]? with
    | none=>rw [hu] at hcj;cases hcj
    | some u=>rw [hu] at hcj;cases hcj;exact hhi2 j u hj hu
def c0Y (h:Hp) (l:List Str) (d:D):Prop:=a0w tab a0D d=some (.int .i64 l.length)∧∀ (i:Nat) (s:Str),l[i]?=some s→∃ q,a0a tab a0D d (.int .i64 i)=some q∧a0c tab h ty9 q=some (.str s)
theorem b7R {h:Hp} {l:List Str} {d:D} (hd:SlOf 1 (fun s=>[D.str s]) l d):c0Y h l d:=⟨a1C hd,fun i s hs=>⟨.fptr [.str s],by rw [a5n hd];simp [-bind_some, hs],a4d s h⟩⟩
theorem b0E {h:Hp} {n0:Nat} {l:List Str} {d:D} (hd:Own h n0 ty9 1 (l.map fun s=>[D.str s]) d):c0Y h l d:=by
 rcases hd with ⟨rfl,hn⟩ | ⟨o,_,rfl,hg⟩
 ·have:l=[]:=by simpa using hn
  subst this
  exact ⟨rfl,fun i s hs=>by simp at hs⟩
 ·rw [c8S]
  refine ⟨c0e _ _ _ _,fun i s hs=>⟨.ptr o i 0,?_,?_⟩⟩
  ·have:=(c9c.1 hs).1
   rw [c3z,if_pos (by omega)];simp [-bind_some]
  ·have hr:(l.map fun s=>[D.str s])[i]?=some [.str s]:=by rw [c8Z,hs];rfl
   rw [c7S,a1g hg,hr];rfl
theorem b6j (x y:List Str) (dx dy:D) (h:Hp) (hx:SlOf 1 (fun s=>[D.str s]) x dx) (hy:c0Y h y dy) (hl:x.length≤1000000) (hl2:y.length≤1000000):R a5c [dx,dy] h=some (.int .i64 (a0W x y),h):=by
 apply Wp.val
 obtain ⟨hyl,hyx⟩:=hy
 rw [b9E]
 simp only [b6v,bs,c8N]
 generalize hV:a0W x y=V
 refine Wp.loop (fun k ds g=>g=h∧∃ a b c d,∃ i:Nat,ds=[a,.int .i64 i,b,c,d]∧k+i=x.length∧i≤y.length∧a0W (x.drop i) (y.drop i)=V)
  (fun r=>r.2.2=h∧((r.1 = .ret∧nth 0 r.2.1 = .int .i64 V)∨(r.1 = .ext 0∧V=if x.length<y.length then -1 else if x.length>y.length then 1 else 0))) x.length ⟨rfl,_,_,_,_,0,rfl,by omega,by omega,hV⟩ ?_ ?_
 ·rintro k ds g ⟨rfl,a,b,c,d,i,rfl,hk,hi,hV⟩
  simp only [a6v,a0e,a0h,bs,c8N,a1C hx,hyl,a0n]
  by_cases h0:i<x.length
  ·have d0:decide ((i:Int)<(x.length:Int))=true:=decide_eq_true (by omega)
   obtain ⟨u,hu⟩:=gx_ h0
   have hw:=wi_ i (by omega)
   rw [a1n hu] at hV
   by_cases h1:i<y.length
   ·obtain ⟨v,hv⟩:=gx_ h1
    obtain ⟨q,hq,lq⟩:=hyx i v hv
    have d1:decide ((i:Int)<(y.length:Int))=true:=decide_eq_true (by omega)
    rw [a1n hv] at hV
    unfold a0W at hV
    simp only [d0,a0N,if_true,bs,a1C hx,hyl,a0n,d1,a0B,a0f,a5n hx,hq,lq,Int.natCast_nonneg,c8V,hu,Option.map_some,a4d,a4W,a0n,c4r]
    by_cases h2:Op.bytesLess u v=true
    ·have hc:a3R u v = -1:=by simp [-bind_some, a3R,h2]
     rw [if_neg (by omega),hc] at hV
     simp only [h2,a0f,if_true]
     exact .some (.inr ⟨by simp,rfl,.inl ⟨rfl,by rw [← hV];rfl⟩⟩)
    ·have h2:Op.bytesLess u v=false:=by simpa using h2
     by_cases h3:u=v
     ·subst h3
      rw [if_pos ((a2E u u).2 rfl)] at hV
      simp only [h2,a0f,c8O,if_false,beq_self_eq_true,Bool.or_true,c8W,a0p,hw,bs]
      exact .some (.inl ⟨rfl,k - 1,by omega,rfl,_,_,_,_,i+1,rfl,by omega,by omega,hV⟩)
     ·have hb:(u==v)=false:=by simpa using h3
      have hc:a3R u v=1:=by simp [-bind_some, a3R,h2,h3]
      rw [if_neg (by omega),hc] at hV
      simp only [h2,hb,a0f,c8O,if_false,Bool.or_self,c8X,if_true]
      exact .some (.inr ⟨by simp,rfl,.inl ⟨rfl,by rw [← hV];rfl⟩⟩)
   ·have d1:decide ((i:Int)<(y.length:Int))=false:=decide_eq_false (by omega)
    rw [List.drop_of_length_le (show y.length≤i by omega)] at hV
    simp only [d0,a0N,if_true,bs,a1C hx,hyl,a0n,d1,a0B,a0f,c8O,if_false]
    refine .some (.inr ⟨by simp,rfl,.inr ⟨rfl,?_⟩⟩)
    rw [← hV,if_neg (by omega),if_pos (by omega)];rfl
  ·have h0:i=x.length:=by omega
   subst h0
   have d0:decide ((x.length:Int)<(x.length:Int))=false:=decide_eq_false (by omega)
   simp only [d0,a0N,reduceCtorEq,if_false,bs,a0B,a0f,c8O]
   refine .some (.inr ⟨by simp,rfl,.inr ⟨rfl,?_⟩⟩)
   rw [List.drop_length] at hV
   rw [← hV]
   by_cases h1:x.length<y.length
   ·obtain ⟨v,hv⟩:∃ v,y[x.length]?=some v:=⟨_,c9b h1⟩
    rw [a1n hv,if_pos h1];rfl
   ·rw [List.drop_of_length_le (by omega),if_neg h1,if_neg (by omega)];rfl
 ·rintro ⟨ex,ds,g⟩ ⟨h1,h2⟩
  simp only at h1 h2
  subst h1
  rcases h2 with ⟨rfl,hn⟩ | ⟨rfl,hv⟩
  ·simp only [a2u,a2t,a2o,a0e,a0h,bs,hn,a0o]
   exact .some rfl
  ·simp only [a0m,a0l,bs,a1C hx,hyl,a0n,a1c]
   subst hv
   by_cases h1:x.length<y.length
   ·have d1:decide ((x.length:Int)<(y.length:Int))=true:=decide_eq_true (by omega)
    simp only [d1,a0f,if_true,h1,a0o]
    exact .some rfl
   ·have d1:decide ((x.length:Int)<(y.length:Int))=false:=decide_eq_false (by omega)
    by_cases h2:x.length>y.length
    ·have d2:decide ((x.length:Int)>(y.length:Int))=true:=decide_eq_true (by omega)
     simp only [d1,d2,a0f,c8O,if_false,if_true,h1,h2,a0o]
     exact .some rfl
    ·have d2:decide ((x.length:Int)>(y.length:Int))=false:=decide_eq_false (by omega)
     simp only [d1,d2,a0f,c8O,if_false,h1,h2,a0o]
     exact .some rfl
theorem c0p {h:Hp} {l:List Ct} {d:D} (hd:RdCt h l d) (i:Nat) (hi:i≤l.length):∃ d',a0s tab a0g false true false [d,.int .i64 i]=some d'∧RdCt h (l.take i) d':=by
 have hlt:(l.take i).length=i:=by rw [c9g];omega
 rcases hd with hd | ⟨ob,tl,rfl,ho⟩
 ·obtain ⟨d',e,s⟩:=b3n hd (k := .i64) (n:=(i:Int)) (by omega) (by omega)
  exact ⟨d',e,.inl (by simpa using s)⟩
 ·refine ⟨.msl 3 ob 0 i,a5q (T:=tab) (t:=a0g) (i:=ti1229) (j:=ti1237) (id rfl) (id rfl) (id rfl) (id rfl) (by decide) hi,.inr ⟨ob,(l.drop i).map ctr++tl,by rw [hlt],?_⟩⟩
  rw [ho,← List.append_assoc,← c8T,List.take_append_drop]
theorem b2Z {h:Hp} {l:List Ct} {d:D} (hd:RdCt h l d) (i:Nat) (hi:i≤l.length):∃ d',a0s tab a0g true false false [d,.int .i64 i]=some d'∧a0G h 3 d'=some ((l.drop i).map ctr):=by
 rcases hd with hd | ⟨ob,tl,rfl,ho⟩
 ·obtain ⟨d',e,s⟩:=b3o hd (k := .i64) (n:=(i:Int)) (by omega) (by omega)
  rw [c8V] at s
  exact ⟨d',e,a1v h s⟩
 ·by_cases hl:i<l.length
  ·refine ⟨.msl 3 ob (0+i) (l.length - i),b5Y (T:=tab) (t:=a0g) (i:=ti1229) (j:=ti1237) (id rfl) (id rfl) (id rfl) (id rfl) (by decide) hl (Nat.zero_le _),?_⟩
   have:((l.map ctr++tl).drop i).take (l.length - i)=(l.drop i).map ctr:=by
    rw [List.drop_append_of_le_length (by simp;omega),← List.map_drop,List.take_left' (by simp)]
   simp [-bind_some, a0G,ho,this]
  ·have hil:i=l.length:=by omega
   subst hil
   have t1:tab a0g=some ti1229:=id rfl
   have t2:ti1229.td = .sl a0d:=id rfl
   have t3:tab a0d=some ti1237:=id rfl
   have t4:ti1237.sz=3:=id rfl
   by_cases h0:l.length=0
   ·have hl0:=List.eq_nil_of_length_eq_zero h0
    subst hl0
    refine ⟨.msl 3 ob 0 0,?_,by simp [-bind_some, a0G,ho]⟩
    simp [-bind_some, a0s,a1G,a0Z,t1,t2,t3,t4]
   ·refine ⟨.sl 3 false [],?_,by simp [-bind_some, a0G]⟩
    have h1:¬ l=[]:=fun e=>h0 (by rw [e];rfl)
    simp [-bind_some, a0s,a1G,a0Z,t1,t2,t3,t4,h1]
theorem b0D {h:Hp} {l:List Ct} {d:D} (hd:RdCt h l d) (i:Nat) (c:Ct) (hc:l[i]?=some c):∃ q q0 q1 q2,a0a tab a0g d (.int .i64 i)=some q∧a0b tab a0d 0 q=some q0∧a0b tab a0d 1 q=some q1∧a0b tab a0d 2 q=some q2∧a0c tab h a0D q0=some c.kd∧a0c tab h ty3 q1=some (.int .i64 c.n)∧a0c tab h ty3 q2=some (.int .i64 c.e):=by
 have hi:=(c9c.1 hc).1
 rcases hd with hd | ⟨ob,tl,rfl,ho⟩
 ·exact ⟨.fptr (ctr c),_,_,_,by rw [a3B hd];simp [-bind_some, hc],b5w c,b4k c,c0Z c,b5x c h,b3A _ _ h,c1a _ h⟩
 ·have hr:(l.map ctr++tl)[i]?=some (ctr c):=by rw [c9l (by simpa using hi),c8Z,hc];rfl
  exact ⟨.ptr ob i 0,.ptr ob i (0+0),.ptr ob i (0+1),.ptr ob i (0+2),by rw [a2B,if_pos (by omega)];simp [-bind_some],b1W _ _ _,a3U _ _ _,a7U _ _ _,by rw [c0d,a1g ho,hr];rfl,by rw [c3G,a1g ho,hr];rfl,by rw [c3G,a1g ho,hr];rfl⟩
theorem c0C (S:List Ct) (d:D) (key:List Str) (kd:D) (n e:Int) (h:Hp) (hd:RdCt h S d) (hk:c0Y h key kd) (hk1:kd.one=true) (hkf:∀ (g:Hp) (n:Nat),frz h.length g (n+1) kd=kd) (hko:∀ m:Nat,h.length≤m→Ok m kd) (hkl:key.length≤1000000) (hl:S.length≤1000000) :
  ∃ i:Nat,i≤S.length∧R a6b [d,.agg [kd,.int .i64 n,.int .i64 e]] h=some (.sl 3 false ((S.take i).map ctr++[kd,.int .i64 n,.int .i64 e]::(S.drop i).map ctr),h)∧(∀ j c,j<i→S[j]?=some c→a0W c.k key<0)∧(∀ c,S[i]?=some c→¬ a0W c.k key<0):=by
 suffices Wp (R a6b [d,.agg [kd,.int .i64 n,.int .i64 e]] h) (fun p=>∃ i:Nat,i≤S.length∧p=(.sl 3 false ((S.take i).map ctr++[kd,.int .i64 n,.int .i64 e]::(S.drop i).map ctr),h)∧(∀ j c,j<i→S[j]?=some c→a0W c.k key<0)∧(∀ c,S[i]?=some c→¬ a0W c.k key<0)) by
  obtain ⟨p,h1,i,h2,rfl,h3⟩:=this
  exact ⟨i,h2,h1,h3⟩
 have f0:a0b tab a0d 0 (.fptr [kd,.int .i64 n,.int .i64 e])=some (.fptr [kd,.int .i64 n,.int .i64 e]):=id rfl
 rw [c2P]
 simp only [b9j,a2s,bs,c8N]
 refine Wp.loop (fun k ds g=>g=h∧∃ i:Nat,∃ x,ds=[.int .i64 i,x]∧k+i=S.length∧(∀ j c,j<i→S[j]?=some c→a0W c.k key<0))
  (fun r=>r.1 = .ext 0∧r.2.2=h∧∃ i:Nat,nth 0 r.2.1 = .int .i64 i∧i≤S.length∧(∀ j c,j<i→S[j]?=some c→a0W c.k key<0)∧(∀ c,S[i]?=some c→¬ a0W c.k key<0)) S.length ⟨rfl,0,_,rfl,rfl,fun j c hj=>by omega⟩ ?_ ?_
 ·rintro k ds g ⟨rfl,i,x,rfl,hk0,hlo⟩
  simp only [a9I,a0e,a0h,bs,c8N,a2S hd,a0n]
  by_cases h0:i<S.length
  ·have d0:decide ((i:Int)<(S.length:Int))=true:=decide_eq_true (by omega)
   have hw:=wi_ i (by omega)
   obtain ⟨c,hc⟩:=gx_ h0
   obtain ⟨q,q0,q1,q2,r1,r2,_,_,r5,_,_⟩:=b0D hd i c hc
   simp only [d0,a0N,a1d,if_true,bs,r1,r2,r5,f0,c3E,b6j c.k key c.kd kd g c.hk hk c.hkl hkl,a0n,a0B]
   by_cases hlt:a0W c.k key<0
   ·simp only [hlt,decide_true,a0f,if_true,a0p,hw,bs]
    refine .some (.inl ⟨rfl,k - 1,by omega,rfl,i+1,_,rfl,by omega,fun j u hj hu=>?_⟩)
    rcases Nat.lt_or_ge j i with h1 | h1
    ·exact hlo j u h1 hu
    ·have:j=i:=by omega
     subst this
     rw [hc] at hu
     injection hu with hu
     rw [← hu];exact hlt
   ·simp only [hlt,decide_false,a0f,c8O,if_false]
    refine .some (.inr ⟨by simp,rfl,rfl,i,rfl,by omega,hlo,fun u hu=>?_⟩)
    rw [hc] at hu
    injection hu with hu
    rw [← hu];exact hlt
  ·have d0:decide ((i:Int)<(S.length:Int))=false:=decide_eq_false (by omega)
   simp only [d0,a0N,a1d,a6c,reduceCtorEq,c8O,if_false,bs,a0B,a0f]
   exact .some (.inr ⟨by simp,rfl,rfl,i,rfl,by omega,hlo,fun u hu=>by have:=(c9c.1 hu).1;omega⟩)
 ·rintro ⟨ex,ds,g⟩ ⟨rfl,rfl,i,hi,hil,hlo,hhi⟩
  simp only at hi
  obtain ⟨d1,e1,r1⟩:=c0p hd i hil
  obtain ⟨d2,e2,r2⟩:=b2Z hd i hil
  have hlt:(S.take i).length=i:=by rw [c9g];omega
  have hlit:a0A tab a0g 1 [0] [.agg [kd,.int .i64 n,.int .i64 e]]=some (.sl 3 true [[kd,.int .i64 n,.int .i64 e]]):=b3Y _ _ _
  have ldk:∀ g':Hp,a0c tab g' a0d (.fptr [kd,.int .i64 n,.int .i64 e])=some (.agg [kd,.int .i64 n,.int .i64 e]):=fun g'=>c0b _ _ _ _ _
  simp only [a0m,a0l,bs,a0e,hi,e1,e2,ldk,hlit]
  refine a7x (n0:=g.length) (rows:=[]) (Nat.le_refl _) (.nils _ _ _ _) (b4T r1) (by simp only [c8S,c9e,hlt];omega) fun x4 g4 o4 l4 k4 _ _=>?_
  rw [List.nil_append] at o4
  simp only [bs,ldk,hlit]
  refine a7x (n0:=g.length) (ys:=[[kd,.int .i64 n,.int .i64 e]]) l4 o4 (a1o _ _ _ _) (by simp only [c8S,c9d,c9e,hlt];omega) fun x5 g5 o5 l5 k5 _ _=>?_
  simp only [bs]
  have r2':a0G g5 3 d2=some ((S.drop i).map ctr):=by
   rcases hd with hd | ⟨ob,tl,rfl,ho⟩
   ·obtain ⟨d',e',s⟩:=b3o hd (k := .i64) (n:=(i:Int)) (by omega) (by omega)
    rw [e2] at e'
    injection e' with e'
    rw [c8V] at s
    rw [e']
    exact a1v g5 s
   ·have ho5:g5[ob]?=some (.row a0d 3 (S.map ctr++tl)):=by
      have:=(c9c.1 ho).1
      rw [k5 _ (by omega),k4 _ (by omega)];exact ho
    obtain ⟨d',e',s⟩:=b2Z (h:=g5) (l:=S) (d := .msl 3 ob 0 S.length) (.inr ⟨ob,tl,rfl,ho5⟩) i hil
    rw [e2] at e'
    injection e' with e'
    rw [e'];exact s
  refine a7x (n0:=g.length) (by omega) o5 r2' (by simp only [c8R,c8S,c9d,c9e,hlt,c9f];omega) fun x6 g6 o6 l6 k6 _ _=>?_
  have hrows:(S.take i).map ctr++[[kd,.int .i64 n,.int .i64 e]]++(S.drop i).map ctr=(S.take i).map ctr++[kd,.int .i64 n,.int .i64 e]::(S.drop i).map ctr:=by simp
  rw [hrows] at o6
  simp only [bs,a0o]
  have hfz:frz g.length g6 4 x6 = .sl 3 false ((S.take i).map ctr++[kd,.int .i64 n,.int .i64 e]::(S.drop i).map ctr):=by
   rcases b7E (n:=3) o6 (Nat.le_refl _) with ⟨hn,_⟩ | hf
   ·simp at hn
   ·rw [hf]
    congr 1
    refine a1s fun row hrow=>a1s fun d hd=>?_
    rcases c9i.1 hrow with hr | hr
    ·obtain ⟨c,_,rfl⟩:=c9j.1 hr
     exact a4V _ _ 2 c d hd
    ·rcases c9h.1 hr with rfl | hr
     ·simp only [c9h,List.not_mem_nil,or_false] at hd
      rcases hd with rfl | rfl | rfl
      ·exact hkf g6 2
      ·exact a3c _ _ _ _ _
      ·exact a3c _ _ _ _ _
     ·obtain ⟨c,_,rfl⟩:=c9j.1 hr
      exact a4V _ _ 2 c d hd
  rw [a1f hfz (.sl _ _ _ fun row hrow d hd=>by
   rcases c9i.1 hrow with hr | hr
   ·obtain ⟨c,_,rfl⟩:=c9j.1 hr
    exact a5N _ c d hd
   ·rcases c9h.1 hr with rfl | hr
    ·simp only [c9h,List.not_mem_nil,or_false] at hd
     rcases hd with rfl | rfl | rfl
     ·exact hko _ (Nat.le_refl _)
     ·exact .int _ _
     ·exact .int _ _
    ·obtain ⟨c,_,rfl⟩:=c9j.1 hr
     exact a5N _ c d hd) (by omega) (fun q hq=>by rw [k6 q hq,k5 q hq,k4 q hq])]
  exact .some ⟨i,hil,rfl,hlo,hhi⟩
theorem b2k {n0:Nat} {g:Hp} {n1 e z:Nat} {rows:List (List D)} {d:D} (hd:Own g n1 e z rows d) (hl:g.length≤n0) (h:Hp) (n:Nat):frz n0 h (n+1) d=d:=by
 rcases hd with ⟨rfl,_⟩ | ⟨o,_,rfl,hg⟩
 ·exact a7c _ _ _
 ·have:=(c9c.1 hg).1
  have hb:Nat.ble n0 o=false:=by
   cases hb:Nat.ble n0 o with
   | false=>rfl
   | true=>have:=Nat.le_of_ble_eq_true hb;omega
  simp only [frz,hb]
theorem b6b {m:Nat} {g:Hp} {n1 e z:Nat} {rows:List (List D)} {d:D} (hd:Own g n1 e z rows d) (hl:g.length≤m):Ok m d:=by
 rcases hd with ⟨rfl,_⟩ | ⟨o,_,rfl,hg⟩
 ·exact .nils
 ·have:=(c9c.1 hg).1
  exact .msl _ _ _ _ (by omega)
theorem b2Q {g:Hp} {n0:Nat} {S:List Ct} {x:D} (ow:Own g n0 a0d 3 (S.map ctr) x):RdCt g S x:=by
 rcases ow with ⟨rfl,hn⟩ | ⟨o,_,rfl,hg⟩
 ·have:S=[]:=by simpa using hn
  subst this
  exact .inl (.nils _ _)
 ·exact .inr ⟨o,[],by rw [c8S],by simpa using hg⟩
theorem c5t {S:List Ct} {ob p:Nat} {h:Hp} (ho:h[ob]?=some (.row a0d 3 (S.map ctr))) (hl:S.length≤1000000) (hp:p<S.length) {β:Type} {f:D × Hp→Option β} {Q:β→Prop}
  (k:∀ g tl,g[ob]?=some (.row a0d 3 ((S.eraseIdx p).map ctr++tl))→Same ob h g→Wp (f (.msl 3 ob 0 (S.eraseIdx p).length,g)) Q) :
  ∃ d1 d2,a0s tab a0g false true false [.msl 3 ob 0 S.length,.int .i64 (p:Int)]=some d1∧a0s tab a0g true false false [.msl 3 ob 0 S.length,.int .i64 ((p+1:Nat):Int)]=some d2∧Wp ((a0q tab h a0g a0g d1 d2).bind f) Q:=by
 have hd:RdCt h S (.msl 3 ob 0 S.length) := .inr ⟨ob,[],rfl,by simpa using ho⟩
 have hhi:a0s tab a0g false true false [.msl 3 ob 0 S.length,.int .i64 (p:Int)]=some (.msl 3 ob 0 p):=a5q (T:=tab) (t:=a0g) (i:=ti1229) (j:=ti1237) (id rfl) (id rfl) (id rfl) (id rfl) (by decide) (by omega)
 obtain ⟨d2,e2,r2⟩:=b2Z hd (p+1) (by omega)
 refine ⟨_,d2,hhi,e2,?_⟩
 have hE:(S.eraseIdx p).map ctr=(S.take p).map ctr++(S.drop (p+1)).map ctr:=by rw [List.eraseIdx_eq_take_drop_succ,c8T]
 have htl:((S.take p).map ctr).length=p:=by rw [c8S,c9g];omega
 have hEl:(S.eraseIdx p).length=p+(S.length - (p+1)):=by rw [List.length_eraseIdx,if_pos hp];omega
 have ho2:h[ob]?=some (.row a0d ti1237.sz ((S.take p).map ctr++(S.drop p).map ctr)):=by rw [← c8T,List.take_append_drop];exact ho
 obtain ⟨g,e1,p1,s1⟩:=b3R (T:=tab) (t:=a0g) (e:=a0d) (i:=ti1229) (j:=ti1237) (id rfl) (id rfl) (id rfl) (by decide) ho2 r2 (a2G (by
  have:ti1237.by_=40:=id rfl
  rw [this,htl,c8S,c9f];omega) (by rw [htl,c8S,c9f];omega)) (by simp;omega)
 have z1:ti1237.sz=3:=id rfl
 rw [z1,htl] at e1
 rw [z1] at p1
 rw [e1]
 have hlen:((S.take p).map ctr++(S.drop (p+1)).map ctr).length=(S.eraseIdx p).length:=by rw [← hE,c8S]
 rw [hlen]
 exact k g _ (by rw [hE];exact p1) s1
theorem c4f (S:List Ct) (d:D) (size:Int) (key:List Str) (dk:D) (w:Int) (h:Hp) (hd:SlOf 3 ctr S d) (hk:SlOf 1 (fun s=>[D.str s]) key dk) (hkl:key.length≤1000000) (hl:S.length≤100000) (asc:CAsc (S.map ctc)) (hs:1≤size)
  (hw:∀ c∈S,IntKind.wrap .i64 (c.n+w)=c.n+w) :
  ∃ (S':List Ct) (d':D),R a5X [d,.int .i64 size,dk,.int .i64 w] h=some (d',h)∧SlOf 3 ctr S' d'∧S'.map ctc=obs size (S.map ctc) key w:=by
 suffices Wp (R a5X [d,.int .i64 size,dk,.int .i64 w] h) (fun p=>p.2=h∧∃ S':List Ct,SlOf 3 ctr S' p.1∧S'.map ctc=obs size (S.map ctc) key w) by
  obtain ⟨⟨x,h'⟩,h1,rfl,S',h2⟩:=this
  exact ⟨S',x,h1,h2⟩
 have hkeys:(S.map ctc).map (·.1)=S.map Ct.k:=by rw [List.map_map];rfl
 rw [c2z]
 simp only [b8V]
 refine a7x (n0:=h.length) (rows:=[]) (Nat.le_refl _) (.nils _ _ _ _) (a1v _ hd) (by simp only [c8S,c9e];omega) fun x4 g4 o4 l4 k4 _ _=>?_
 rw [List.nil_append] at o4
 have R4:=b2Q o4
 simp only [bs,c8N]
 refine Wp.loop (fun k ds g=>g=g4∧∃ i:Nat,∃ a b c,ds=[.nils,.int .i64 (lst (S.map ctc) i:Nat),.int .i64 i,a,b,c]∧k+i=S.length∧∀ j u,j<i→S[j]?=some u→u.k≠key)
  (fun r=>(r.1 = .ext 0∧r.2.2=g4∧nth 1 r.2.1 = .int .i64 (lst (S.map ctc) S.length:Nat)∧∀ u∈S,u.k≠key)∨(r.1 = .ret∧nth 0 r.2.1=x4∧∃ S':List Ct,Own r.2.2 h.length a0d 3 (S'.map ctr) x4∧g4.length≤r.2.2.length∧(∀ q,q<h.length→r.2.2[q]?=g4[q]?)∧key∈(S.map ctc).map (·.1)∧S'.map ctc=a6P (S.map ctc) key w)) S.length ⟨rfl,0,_,_,_,rfl,rfl,fun j u hj=>by omega⟩ ?_ ?_
 ·rintro k ds g ⟨rfl,i,a,b,c,rfl,hk0,hne⟩
  simp only [a9z,a0e,a0h,bs,c8N,a2S R4,a0n]
  by_cases h0:i<S.length
  ·have d0:decide ((i:Int)<(S.length:Int))=true:=decide_eq_true (by omega)
   have hw1:=wi_ i (by omega)
   obtain ⟨c,hc⟩:=gx_ h0
   obtain ⟨q,q0,q1,q2,r1,r2,r3,_,r5,r6,_⟩:=b0D R4 i c hc
   simp only [d0,a0f,if_true,r1,r2,r5,bs,b6j c.k key c.kd dk g c.hk (b7R hk) c.hkl hkl,a0S,r3,r6,a0p,hw c (c9a hc),c8N]
   by_cases he:a0W c.k key=0
   ·simp only [he,decide_true,a0f,if_true,bs]
    obtain ⟨ob,hob,rfl,ho⟩:=b2P o4 (i:=0) (by simp;omega)
    rw [c8S,a2B,if_pos (by omega)] at r1
    injection r1 with r1
    subst r1
    rw [a3U] at r3
    injection r3 with r3
    subst r3
    have hrow:(S.map ctr)[i]?=some (ctr c):=by rw [c8Z,hc];rfl
    refine b8j (kk:=0+(i:Int).toNat) (off:=0+1) (row:=ctr c) (v := .int .i64 (c.n+w)) ho (by simpa using hrow) (by rfl) (by simp [-bind_some, ctr]) (by rfl) fun g5 p5 s5=>?_
    obtain ⟨c',hc'⟩:∃ c':Ct,c'=⟨c.k,c.kd,c.hk,c.hkl,c.n+w,c.e⟩:=⟨_,rfl⟩
    have hset:(S.map ctr).set (0+(i:Int).toNat) (spl (ctr c) (0+1) (a0u (.int .i64 (c.n+w))))=(S.set i c').map ctr:=by
     have:spl (ctr c) (0+1) (a0u (.int .i64 (c.n+w)))=ctr c':=by rw [hc'];rfl
     rw [this,List.map_set];simp [-bind_some]
    rw [hset] at p5
    have hck:c.k=key:=(a1r _ _).1 he
    try simp only [bs]
    refine .some (.inr ⟨by simp,.inr ⟨rfl,rfl,S.set i c',.inr ⟨ob,hob,by simp,p5⟩,by have:=s5.1;simp only;omega,fun q hq=>s5.2 q (by omega),by rw [hkeys];exact c9j.2 ⟨c,c9a hc,hck⟩,?_⟩⟩)
    rw [← hck]
    exact b1v asc hc c' (by rw [hc']) w (by rw [hc']) (by rw [hc'])
   ·have hlp:=b0t (S.map ctc) i (by rw [c8S];omega)
    obtain ⟨m,hm⟩:∃ m,S[lst (S.map ctc) i]?=some m:=⟨_,c9b (by
     rcases Nat.eq_zero_or_pos i with hi0 | hi0
     ·rw [hi0];unfold lst;omega
     ·have:=hlp hi0;omega)⟩
    obtain ⟨v,v0,v1,v2,t1,t2,t3,_,_,t6,_⟩:=b0D R4 _ m hm
    have hst:lst (S.map ctc) (i+1)=if c.n<m.n then i else lst (S.map ctc) i:=by
     conv=>lhs;unfold lst
     rw [b8q hc,b8q hm]
    have hnk:∀ j u,j<i+1→S[j]?=some u→u.k≠key:=fun j u hj hu=>by
     rcases Nat.lt_or_ge j i with h1 | h1
     ·exact hne j u h1 hu
     ·have:j=i:=by omega
      subst this
      rw [hc] at hu
      injection hu with hu
      rw [← hu]
      exact fun e=>he ((a1r _ _).2 e)
    simp only [he,decide_false,a0f,c8O,if_false,t1,t3,t6,bs,a0n]
    by_cases hn:c.n<m.n
    ·simp only [hn,decide_true,a0f,if_true,bs,a0F,a0l,a0e,a0p,hw1]
     exact .some (.inl ⟨rfl,k - 1,by omega,rfl,i+1,_,_,_,by rw [hst,if_pos hn],by omega,hnk⟩)
    ·simp only [hn,decide_false,a0f,c8O,if_false,bs,a0F,a0l,a0e,a0p,hw1]
     exact .some (.inl ⟨rfl,k - 1,by omega,rfl,i+1,_,_,_,by rw [hst,if_neg hn],by omega,hnk⟩)
  ·have d0:decide ((i:Int)<(S.length:Int))=false:=decide_eq_false (by omega)
   have hil:i=S.length:=by omega
   simp only [d0,a0f,c8O,if_false]
   refine .some (.inr ⟨by simp,.inl ⟨rfl,rfl,by rw [← hil];rfl,fun u hu=>?_⟩⟩)
   obtain ⟨j,hj⟩:=List.mem_iff_getElem?.1 hu
   exact hne j u (by have:=(c9c.1 hj).1;omega) hj
 ·rintro ⟨ex, ds,g⟩ (⟨r1,r2,r3,r4⟩ | ⟨r1,r2,S',o5,l5,k5,hmem,hS'⟩)
  ·simp only at r1 r2 r3
   subst r1;subst r2
   have hnk:key∉(S.map ctc).map (·.1):=fun hh=>by
    rw [hkeys] at hh
    obtain ⟨c,hc,e⟩:=c9j.1 hh
    exact r4 c hc e
   simp only [a0m,a0l,bs,a0e,a0h,r3]
   refine b5k (n0:=g.length) (rows:=[]) (Nat.le_refl _) (.nils _ _ _ _) (a1v _ hk) (by simp only [c8S,c9e];omega) fun x5 g5 o5 l5 k5 _ _=>?_
   rw [List.nil_append] at o5
   have o45:Own g5 h.length a0d 3 (S.map ctr) x4:=o4.keep fun q hq hin=>k5 q (o4.lt hin).2
   have R5:=b2Q o45
   have K5:=b0E o5
   have hkd:SlOf 1 (fun s=>[D.str s]) key (frz h.length g5 3 x5):=a2y (n0:=h.length) (n:=2) o5 (by omega) fun a _ y hy=>by simp at hy;subst hy;exact a3A _ _ _ _
   -- the end, for a counter that was put at a place
   have fin:∀ (g9:Hp) (E:List Ct) (n e:Int) (i:Nat),h.length≤g9.length→(∀ q,q<h.length→g9[q]?=h[q]?)→frz h.length g9 3 x5=frz h.length g5 3 x5→(E.take i++(⟨key,frz h.length g5 3 x5,hkd,hkl,n,e⟩:Ct)::E.drop i).map ctc=obs size (S.map ctc) key w →
     Wp (scope h g9 (a0i [.sl 3 false ((E.take i).map ctr++[x5,.int .i64 n,.int .i64 e]::(E.drop i).map ctr)])) (fun p=>p.2=h∧∃ S':List Ct,SlOf 3 ctr S' p.1∧S'.map ctc=obs size (S.map ctc) key w):=fun g9 E n e i hl9 hb9 hf9 hc9=>by
    have hrows:((E.take i).map ctr++[x5,.int .i64 n,.int .i64 e]::(E.drop i).map ctr).map (fun row=>row.map (frz h.length g9 3))=(E.take i++(⟨key,frz h.length g5 3 x5,hkd,hkl,n,e⟩:Ct)::E.drop i).map ctr:=by
     have hid:∀ L:List Ct,(L.map ctr).map (fun row=>row.map (frz h.length g9 3))=L.map ctr:=fun L=>by
      refine a1s fun row hrow=>a1s fun d hd=>?_
      obtain ⟨c,_,rfl⟩:=c9j.1 hrow
      exact a4V _ _ 2 c d hd
     rw [c8T,c8U,hid,hid,c8T,c8U]
     congr 2
     show [frz h.length g9 3 x5,frz h.length g9 3 (.int .i64 n),frz h.length g9 3 (.int .i64 e)]=_
     rw [hf9,a3c,a3c]
     rfl
    have hso:SlOf 3 ctr (E.take i++(⟨key,frz h.length g5 3 x5,hkd,hkl,n,e⟩:Ct)::E.drop i) (.sl 3 false ((E.take i++(⟨key,frz h.length g5 3 x5,hkd,hkl,n,e⟩:Ct)::E.drop i).map ctr)) := .mk _ _ _ _
    rw [a0o,a1f (d' := .sl 3 false ((E.take i++(⟨key,frz h.length g5 3 x5,hkd,hkl,n,e⟩:Ct)::E.drop i).map ctr)) (by rw [b5P,hrows]) (a1u hso fun a _=>a5N _ a) hl9 hb9]
    exact .some ⟨rfl,_,hso,hc9⟩
   simp only [bs,a2S R5,a0n]
   by_cases hroom:(S.length:Int)<size
   ·obtain ⟨i,hi,e6,hlo,hhi⟩:=c0C S x4 key x5 w 0 g5 R5 K5 (a3g o5) (fun g n=>b2k o5 (Nat.le_refl _) g n) (fun m hm=>b6b o5 hm) hkl (by omega)
    have hb6:a0M tab a0d [0,1] [x5,.int .i64 w]=some (.agg [x5,.int .i64 w,.int .i64 0]):=a5I x5 w (a3g o5)
    simp only [hroom,decide_true,a0f,if_true,hb6,bs,e6]
    refine fin g5 S w 0 i (by omega) (fun q hq=>by rw [k5 q (by omega),k4 q hq]) rfl ?_
    unfold obs
    rw [if_neg hnk,if_pos (by rw [c8S];exact hroom)]
    rw [a4Q (S.map ctc) (key,w,0) i (fun j c hj hcj=>?_) (fun j c hj hcj=>?_)]
    ·simp [-bind_some, ctc]
    ·rw [c8Z] at hcj
     cases hu:S[j]? with
     | none=>rw [hu] at hcj;cases hcj
     | some u=>rw [hu] at hcj;cases hcj;exact hlo j u hj hu
    ·rw [c8Z] at hcj
     cases hu:S[j]? with
     | none=>rw [hu] at hcj;cases hcj
     | some u =>
      rw [hu] at hcj;cases hcj
      intro hlt
      rcases Nat.eq_or_lt_of_le hj with rfl | hj
      ·exact hhi u hu hlt
      ·have hjl:=(c9c.1 hu).1
       obtain ⟨y,hy⟩:∃ y,S[i]?=some y:=⟨_,c9b (by omega)⟩
       exact hhi y hy (a3C (a4i asc i j y u hj hy hu) hlt)
   ·have hlp:0<S.length:=by omega
    obtain ⟨ob,hob,hx4,ho⟩:=b2P o45 (i:=0) (by simp;omega)
    rw [c8S] at hx4
    subst hx4
    have hob4:ob<g.length:=by
     have:=(o4.lt (q:=ob) ⟨3,_,rfl⟩).2
     exact this
    have hpl:=b0t (S.map ctc) S.length (by rw [c8S];exact Nat.le_refl _) hlp
    obtain ⟨p,hp⟩:∃ p,p=lst (S.map ctc) S.length:=⟨_,rfl⟩
    rw [← hp] at hpl ⊢
    obtain ⟨m,hm⟩:=gx_ hpl
    have hmn:a5E (S.map ctc)=m.n:=by
     unfold a5E
     rw [c8S,← hp]
     exact b8q hm
    obtain ⟨v,v0,v1,v2,t1,t2,t3,_,_,t6,_⟩:=b0D R5 p m hm
    have hwp:=wi_ p (by omega)
    have hwm:=hw m (c9a hm)
    have hb6:a0M tab a0d [0,1,2] [x5,.int .i64 (m.n+w),.int .i64 m.n]=some (.agg [x5,.int .i64 (m.n+w),.int .i64 m.n]):=a7G x5 _ _ (a3g o5)
    have hEc:(S.eraseIdx p).map ctc=(S.map ctc).eraseIdx p:=a5p ctc S p
    have hEa:CAsc ((S.eraseIdx p).map ctc):=by rw [hEc];exact asc.sublist (List.eraseIdx_sublist _ _)
    have hEl:(S.eraseIdx p).length≤S.length:=(List.eraseIdx_sublist _ _).length_le
    have cut:=fun (kk)=>c5t (S:=S) (p:=p) (β:=D × Hp) (f:=fun p74=>(a0k tab .add ty3 (.int .i64 m.n) (.int .i64 w)).bind fun t79=>(a0M tab a0d [0,1,2] [x5,t79,.int .i64 m.n]).bind fun t81=>(R a6b [p74.1,t81] p74.2).bind fun p82=>scope h p82.2 (a0i [p82.1])) (Q:=fun p=>p.2=h∧∃ S':List Ct,SlOf 3 ctr S' p.1∧S'.map ctc=obs size (S.map ctc) key w) ho (by omega) hpl kk
    obtain ⟨d1,d2,c1,c2,c3⟩:=cut fun g7 tl p7 s7=>by
     have o57:Own g7 g.length ty9 1 (key.map fun s=>[D.str s]) x5:=o5.keep fun q hq hin=>s7.2 q (by have:=(o5.lt hin).1;omega)
     have hl7:=s7.1
     have R7:RdCt g7 (S.eraseIdx p) (.msl 3 ob 0 (S.eraseIdx p).length) := .inr ⟨ob,tl,rfl,p7⟩
     obtain ⟨i,hi,e8,hlo,hhi⟩:=c0C (S.eraseIdx p) _ key x5 (m.n+w) m.n g7 R7 (b0E o57) (a3g o57) (fun g n=>b2k o57 (Nat.le_refl _) g n) (fun m hm=>b6b o57 hm) hkl (by omega)
     simp only [a0p,hwm,bs,hb6,e8]
     refine fin g7 (S.eraseIdx p) (m.n+w) m.n i (by omega) (fun q hq=>by rw [s7.2 q (by omega),k5 q (by omega),k4 q hq]) ?_ ?_
     ·rcases o5 with ⟨rfl,_⟩ | ⟨o,ho5,rfl,hg5⟩
      ·rw [a7c,a7c]
      ·rw [a5k (by omega) hg5,a5k (by omega) (show g7[o]?=_ by rw [s7.2 o (by omega)];exact hg5)]
       have hid:∀ (G:Hp),(fun row:List D=>row.map (frz h.length G 2))=(fun row:List D=>row.map (frz h.length G 2)):=fun G=>rfl
       congr 1
       refine List.map_congr_left fun row hrow=>?_
       have hrow:=List.mem_of_mem_drop (List.mem_of_mem_take hrow)
       obtain ⟨s,_,rfl⟩:=c9j.1 hrow
       simp [-bind_some]
     ·unfold obs
      rw [if_neg hnk,if_neg (by rw [c8S];exact hroom),c8S,← hp,← hEc,hmn]
      rw [a4Q ((S.eraseIdx p).map ctc) (key,m.n+w,m.n) i (fun j c hj hcj=>?_) (fun j c hj hcj=>?_)]
      ·simp [-bind_some, ctc]
      ·rw [c8Z] at hcj
       cases hu:(S.eraseIdx p)[j]? with
       | none=>rw [hu] at hcj;cases hcj
       | some u=>rw [hu] at hcj;cases hcj;exact hlo j u hj hu
      ·rw [c8Z] at hcj
       cases hu:(S.eraseIdx p)[j]? with
       | none=>rw [hu] at hcj;cases hcj
       | some u =>
        rw [hu] at hcj;cases hcj
        intro hlt
        rcases Nat.eq_or_lt_of_le hj with rfl | hj
        ·exact hhi u hu hlt
        ·have hjl:=(c9c.1 hu).1
         obtain ⟨y,hy⟩:∃ y,(S.eraseIdx p)[i]?=some y:=⟨_,c9b (by omega)⟩
         exact hhi y hy (a3C (a4i hEa i j y u hj hy hu) hlt)
    have hroom':decide ((S.length:Int)<size)=false:=decide_eq_false hroom
    simp only [hroom',a0f,c8O,if_false,t1,t3,t6,bs,c1,a0p,hwp,c2]
    exact c3
  ·simp only at r1 r2 o5 l5 k5
   subst r1
   simp only [a2u,a2t,a2o,bs,a0e,r2,a0o]
   have hso:=a2y (n0:=h.length) (n:=3) o5 (Nat.le_refl _) (fun a _=>a4V _ g 2 a)
   rw [a1f (d':=frz h.length g 4 x4) rfl (a1u hso fun a _=>a5N _ a) (by omega) (fun q hq=>by rw [k5 q hq,k4 q hq])]
   refine .some ⟨rfl,S',hso,?_⟩
   unfold obs
   rw [if_pos hmem];exact hS'
theorem c0w (S T:List Ct) (da db:D) (h:Hp) (ha:SlOf 3 ctr S da) (hb:SlOf 3 ctr T db) (hc:S.map ctc=T.map ctc) (hl:S.length≤1000000):R a5Y [da,db] h=some (.bool true,h):=by
 apply Wp.val
 have hlen:T.length=S.length:=by have:=congrArg List.length hc;simpa using this.symm
 rw [c2A]
 simp only [b8W,bs,a2l ha,a2l hb,hlen,a2d,ne_eq,not_true,decide_false,a0f,c8O,if_false,c8N]
 refine Wp.loop (fun k ds g=>g=h∧∃ i:Nat,∃ a b c,ds=[a,.int .i64 i,b,c]∧k+i=S.length) (fun r=>r.1 = .ext 0∧r.2.2=h) S.length ⟨rfl,0,_,_,_,rfl,rfl⟩ ?_ ?_
 ·rintro k ds g ⟨rfl,i,a,b,c,rfl,hk⟩
  simp only [a9A,a0e,a0h,bs,c8N,a2l ha,a0n]
  refine Wp.dif ?_ ?_
  ·intro h0
   have h0:i<S.length:=by
    have:(i:Int)<(S.length:Int):=by simpa using h0
    omega
   have hw:=wi_ i (by omega)
   obtain ⟨u,hu⟩:=gx_ h0
   obtain ⟨v,hv⟩:∃ v,T[i]?=some v:=⟨_,c9b (by omega)⟩
   have huv:ctc u=ctc v:=by
    have:=congrArg (fun l=>l[i]?) hc
    simp only [c8Z,hu,hv] at this
    injection this
   have e0:u.k=v.k:=congrArg (·.1) huv
   have e1:u.n=v.n:=congrArg (·.2.1) huv
   have e2:u.e=v.e:=congrArg (·.2.2) huv
   have hs:R a7V [u.kd,v.kd] g=some (.bool true,g):=by
    rw [c0t u.k v.k u.kd v.kd g u.hk v.hk u.hkl,e0];simp [-bind_some]
   simp only [a3B ha,a3B hb,Int.natCast_nonneg,if_true,c8V,hu,hv,Option.map_some,bs,b5w,b4k,c0Z,b5x,b3A,c1a,hs,a2M,c8W,a0N,e1,e2,a2d,ne_eq,not_true,decide_false,a0B,c8O,if_false,a0f,a0p,hw]
   exact .some (.inl ⟨rfl,k - 1,by omega,rfl,i+1,_,_,_,rfl,by omega⟩)
  ·intro _
   exact .some (.inr ⟨by simp,rfl,rfl⟩)
 ·rintro ⟨ex,ds,g⟩ ⟨rfl,rfl⟩
  simp only [a0m,a0l,bs,a0o]
  exact .some rfl
theorem a4S (S:List Cn) (c:Cn):a2v (S++[c])=a2v S+c.2.1:=by simp [-bind_some, a2v]
theorem a1N:∀ (S:List Cn) (i:Nat),(∀ c∈S,0≤c.2.1)→0≤a2v (S.take i)∧a2v (S.take i)≤a2v S
 | [],i,_=>by simp [-bind_some, a2v]
 | x::r,0,h=>by
  have h1:=(a1N r r.length fun c hc=>h c (by simp [-bind_some, hc])).1
  rw [c9k] at h1
  have h2:=h x (by simp)
  simp only [List.take_zero,a2v,List.map_nil,List.sum_nil,c8U,List.sum_cons] at h1 ⊢
  omega
 | x::r,i+1,h=>by
  obtain ⟨h1,h3⟩:=a1N r i fun c hc=>h c (by simp [-bind_some, hc])
  have h2:=h x (by simp)
  simp only [List.take_succ_cons,a2v,c8U,List.sum_cons] at h1 h3 ⊢
  omega
theorem b4a {S:List Cn} (h:∀ c∈S,0≤c.2.1) {c:Cn} (hc:c∈S):c.2.1≤a2v S:=by
 obtain ⟨i,hi⟩:=List.mem_iff_getElem?.1 hc
 have h1:=(a1N S i h).1
 have h2:=(a1N S (i+1) h).2
 rw [c8Y,hi] at h2
 have:a2v (S.take i++(some c).toList)=a2v (S.take i)+c.2.1:=a4S _ _
 omega
theorem c4g (S:List Ct) (d:D) (h:Hp) (hd:SlOf 3 ctr S d) (hn:∀ c∈S.map ctc,0≤c.2.1) (hs:a2v (S.map ctc)≤1000000000000) (hl:S.length≤1000000):R a8a [d] h=some (.int .i64 (a2v (S.map ctc)),h):=by
 apply Wp.val
 rw [c2B]
 simp only [b8X,bs,a2l hd,c8N]
 refine Wp.loop (fun k ds g=>g=h∧∃ i:Nat,∃ a b,ds=[.int .i64 (a2v ((S.map ctc).take i)),a,.int .i64 i,b]∧k+i=S.length) (fun r=>r.1 = .ext 0∧r.2.2=h∧nth 0 r.2.1 = .int .i64 (a2v (S.map ctc))) S.length ⟨rfl,0,_,_,rfl,rfl⟩ ?_ ?_
 ·rintro k ds g ⟨rfl,i,a,b,rfl,hk⟩
  simp only [a9B,a0e,a0h,bs,c8N,a0n]
  refine Wp.dif ?_ ?_
  ·intro h0
   have h0:i<S.length:=by
    have:(i:Int)<(S.length:Int):=by simpa using h0
    omega
   have hw:=wi_ i (by omega)
   obtain ⟨u,hu⟩:=gx_ h0
   have hum:(S.map ctc)[i]?=some (ctc u):=by rw [c8Z,hu];rfl
   have hsn:a2v ((S.map ctc).take (i+1))=a2v ((S.map ctc).take i)+u.n:=by
    rw [c8Y,hum];exact a4S _ _
   obtain ⟨b1,b2⟩:=a1N (S.map ctc) (i+1) hn
   have hwn:IntKind.wrap .i64 (a2v ((S.map ctc).take i)+u.n)=a2v ((S.map ctc).take (i+1)):=by rw [← hsn];exact wrap_i64 (by omega) (by omega)
   simp only [a3B hd,Int.natCast_nonneg,if_true,c8V,hu,Option.map_some,bs,ctL,a9V,b4k,b3A,a0p,hwn,hw]
   exact .some (.inl ⟨rfl,k - 1,by omega,rfl,i+1,_,_,rfl,by omega⟩)
  ·intro h0
   have h0:i=S.length:=by
    have:¬ (i:Int)<(S.length:Int):=by simpa using h0
    omega
   subst h0
   refine .some (.inr ⟨by simp,rfl,rfl,?_⟩)
   simp only [a0e]
   rw [List.take_of_length_le (by simp)]
 ·rintro ⟨ex,ds,g⟩ ⟨rfl,rfl,hi⟩
  simp only at hi
  simp only [a0m,a0l,bs,a0e,hi,a0o]
  exact .some rfl
theorem c4h (S:List Ct) (d:D) (h:Hp) (hd:SlOf 3 ctr S d) (hn:∀ c∈S.map ctc,0≤c.2.1) (hs:a2v (S.map ctc)≤1000000000000) (hl:S.length≤1000000):R a8b [d] h=some (.int .i64 (a2v (S.map ctc)),h):=by
 apply Wp.val
 rw [c2C]
 simp only [b8Y,bs,c8N]
 refine Wp.loop (fun k ds g=>g=h∧∃ i:Nat,∃ b,ds=[.int .i64 (a2v ((S.map ctc).take i)),.int .i64 i,b]∧k+i=S.length) (fun r=>r.1 = .ext 0∧r.2.2=h∧nth 0 r.2.1 = .int .i64 (a2v (S.map ctc))) S.length ⟨rfl,0,_,rfl,rfl⟩ ?_ ?_
 ·rintro k ds g ⟨rfl,i,b,rfl,hk⟩
  simp only [a9C,a0e,a0h,bs,c8N,a2l hd,a0n]
  refine Wp.dif ?_ ?_
  ·intro h0
   have h0:i<S.length:=by
    have:(i:Int)<(S.length:Int):=by simpa using h0
    omega
   have hw:=wi_ i (by omega)
   obtain ⟨u,hu⟩:=gx_ h0
   have hum:(S.map ctc)[i]?=some (ctc u):=by rw [c8Z,hu];rfl
   have hsn:a2v ((S.map ctc).take (i+1))=a2v ((S.map ctc).take i)+u.n:=by
    rw [c8Y,hum];exact a4S _ _
   obtain ⟨b1,b2⟩:=a1N (S.map ctc) (i+1) hn
   have hwn:IntKind.wrap .i64 (a2v ((S.map ctc).take i)+u.n)=a2v ((S.map ctc).take (i+1)):=by rw [← hsn];exact wrap_i64 (by omega) (by omega)
   simp only [a3B hd,Int.natCast_nonneg,if_true,c8V,hu,Option.map_some,bs,b4k,b3A,a0p,hwn,hw]
   exact .some (.inl ⟨rfl,k - 1,by omega,rfl,i+1,_,rfl,by omega⟩)
  ·intro h0
   have h0:i=S.length:=by
    have:¬ (i:Int)<(S.length:Int):=by simpa using h0
    omega
   subst h0
   refine .some (.inr ⟨by simp,rfl,rfl,?_⟩)
   simp only [a0e]
   rw [List.take_of_length_le (by simp)]
 ·rintro ⟨ex,ds,g⟩ ⟨rfl,rfl,hi⟩
  simp only at hi
  simp only [a0m,a0l,bs,a0e,hi,a0o]
  exact .some rfl
theorem c4T (e:Ev) (nm:Str) (h:Hp) (h0:0≤e.a0) (h9:e.a0≤9) (hn:b3C nm):R1 a8g [.agg (evr e),.str nm] h=some (.tup [.str (b5g e nm).1,.bool (b5g e nm).2],h):=by
 rw [c8J]
 have h1:=s75 nm e h
 unfold evr at h1 ⊢
 unfold b9A b5g dig
 simp only
 by_cases c1:nm=[64,104,111,115,116]
 ·rw [if_pos c1,if_pos c1,if_pos ⟨h0,h9⟩]
 ·rw [if_neg c1,if_neg c1,if_neg hn.1,if_neg hn.2.1,if_neg hn.2.2]
  by_cases c2:nm=[64,116,114,97,99,101]
  ·rw [if_pos c2,if_pos c2]
  ·rw [if_neg c2,if_neg c2]
   by_cases c3:nm=[64,115,116,114,101,97,109]
   ·rw [if_pos c3,if_pos c3]
   ·rw [if_neg c3,if_neg c3,h1]
    rfl
theorem c4S (ns:List Str) (dn:D) (e:Ev) (h:Hp) (hd:SlOf 1 (fun s=>[D.str s]) ns dn) (hl:ns.length≤1000) (h0:0≤e.a0) (h9:e.a0≤9) (hn:∀ n∈ns,b3C n):∃ d',R1 b0l [dn,.agg (evr e)] h=some (d',h)∧SlOf 1 (fun s=>[D.str s]) (a4f ns e) d':=by
 suffices Wp (R1 b0l [dn,.agg (evr e)] h) (fun p=>p.2=h∧SlOf 1 (fun s=>[D.str s]) (a4f ns e) p.1) by
  obtain ⟨⟨x,h'⟩,h1,rfl,h2⟩:=this
  exact ⟨x,h1,h2⟩
 rw [c2H]
 have hL:∀ g,a0c tab g a0P (.fptr (evr e))=some (.agg (evr e)):=fun g=>id rfl
 simp only [b9b,a2s,bs,a1C hd,c8N]
 refine Wp.loop (fun k ds g=>∃ x a b c,∃ i:Nat,ds=[x,a,b,.int .i64 (i:Int),c]∧k+i=ns.length∧Own g h.length ty9 1 ((a4f (ns.take i) e).map fun s=>[D.str s]) x∧h.length≤g.length∧(∀ q,q<h.length→g[q]?=h[q]?))
  (fun r=>r.1 = .ext 0∧∃ x,nth 0 r.2.1=x∧Own r.2.2 h.length ty9 1 ((a4f ns e).map fun s=>[D.str s]) x∧h.length≤r.2.2.length∧(∀ q,q<h.length→r.2.2[q]?=h[q]?)) ns.length
  ⟨_,_,_,_,0,rfl,rfl,Own.nils _ _ _ _,Nat.le_refl _,fun _ _=>rfl⟩ ?_ ?_
 ·rintro k ds g ⟨x,a,b,c,i,rfl,hk,ow,hlen,hq⟩
  simp only [a9E,a0e,a0h,bs,c8N,a0n]
  refine Wp.dif ?_ ?_
  ·intro hlt
   have hlt:i<ns.length:=dl_ hlt
   obtain ⟨u,hu⟩:=gx_ hlt
   have hw:=wi_ i (by omega)
   simp only [hL,a5n hd,Int.natCast_nonneg,if_true,c8V,hu,Option.map_some,bs,a4d,c4T e u g h0 h9 (hn u (c9a hu)),a1q,c8P,c8Q,a9P]
   refine b5k (n0:=h.length) hlen ow (a1o _ _ _ _) (by simp [-bind_some, a4f];omega) fun x9 g2 o2 l2 b2 _ _=>?_
   simp only [bs,a0p,hw]
   refine .some (.inl ⟨rfl,k - 1,by omega,_,_,_,_,i+1,rfl,by omega,?_,by show h.length≤g2.length;omega,fun q hq'=>by rw [b2 q hq'];exact hq q hq'⟩)
   have:(a4f (ns.take (i+1)) e).map (fun s=>[D.str s])=(a4f (ns.take i) e).map (fun s=>[D.str s])++[[D.str (b5g e u).1]]:=by
    rw [c8Y,hu];simp [-bind_some, a4f]
   rw [this];exact o2
  ·intro hge
   have hge:ns.length≤i:=by
    have:¬ (i:Int)<ns.length:=by simpa using hge
    omega
   rw [List.take_of_length_le hge] at ow
   exact .some (.inr ⟨by simp,rfl,_,rfl,ow,hlen,hq⟩)
 ·rintro ⟨ex,ds,g⟩ ⟨rfl,x,hx,ow,hlen,hq⟩
  simp only at hx ow hlen hq
  simp only [a0m,a0l,bs,a0e,hx,a0o]
  have hs:=a2y (n0:=h.length) (n:=3) ow (Nat.le_refl _) fun s _ y hy=>by simp at hy;subst hy;exact a3A _ _ _ _
  have hsc:scope h g x=some (frz h.length g 4 x,h):=a1f rfl (a6p _ hs) hlen hq
  rw [hsc]
  exact .some ⟨rfl,hs⟩
def obE (ns:List Str) (l:List Ev):List Ob1:=l.map fun e=>(a4f ns e,e.a6)
def EvW (l:List Ev):Prop:=∀ e∈l,0≤e.a0∧e.a0≤9∧b9n e.fs∧0≤e.a6∧e.a6≤5040
theorem EvW.wok {l:List Ev} (h:EvW l) (ns:List Str):WOK (obE ns l):=fun p hp=>by
 obtain ⟨e,he,rfl⟩:=c9j.1 hp
 exact (h e he).2.2.2
theorem b0H {size:Int} (hs:1≤size) {ps:List Ob1} (h:WOK ps) (hl:ps.length≤1000):CAsc (skO size ps)∧(∀ c∈skO size ps,0≤c.2.1∧c.2.1≤5040000)∧a2v (skO size ps)=b3F ps∧a2v (skO size ps)≤5040000∧((skO size ps).length:Int)≤size:=by
 have S:=c0D hs ps h
 have h1:=b3w h
 have hn:∀ c∈skO size ps,0≤c.2.1:=fun c hc=>by have:=(S.bd c hc).1;have:=b6G h c.1;omega
 refine ⟨S.asc,fun c hc=>⟨hn c hc,?_⟩,S.sum,by rw [S.sum];omega,S.len⟩
 have:=b4a hn hc
 rw [S.sum] at this
 omega
theorem a7t (size:Int) (ps:List Ob1) (p:Ob1):skO size (ps++[p])=obs size (skO size ps) p.1 p.2:=by simp [-bind_some, skO]
end Go.Proofs.YtehgglgadbmecaaGreatDoor

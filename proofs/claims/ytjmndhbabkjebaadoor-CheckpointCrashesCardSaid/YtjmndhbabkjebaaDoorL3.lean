/- Laws, on plain data, about functions that the statement reaches. -/
import Derived.Test.YtjmndhbabkjebaaDoorL2
set_option linter.unusedSimpArgs false
set_option linter.unusedVariables false
set_option linter.unnecessarySimpa false
set_option maxRecDepth 100000
namespace Go.Proofs.YtjmndhbabkjebaaDoor
open Go.Eng Go.Pi
open Option (bind_some)
theorem wL1 {g:Hp} {o N:Nat} {L:List (Str × Str)} (hN:N≤1000000000) (hlen:L.length=N) (ho:g[o]?=some (.row a0t 2 (L.map fld))) (cmp:D) (m a b:Nat) (q:Nat→Prop) (hmN:m<N) (hmb:a≤b) (hbN:b≤N) (x:Str × Str) (hx:L[m]?=some x)
  (hc:∀ t y,a≤t→t<b→L[t]?=some y→∃ v,a3G R cmp [.agg (fld x),.agg (fld y)] g=some (.int .i64 v,g)∧(¬ v<0↔q t)) (x1 x2 x3:D) {β:Type} {f:Out→Option β} {Q:β→Prop}
  (K:∀ (c:Nat) b1 b2 b3,a≤c→c≤b→(c=a∨q (c - 1))→(c=b∨¬ q c)→Wp (f (.ext 4,[.int .i64 (c:Int),.int .i64 (c:Int),b1,b2,b3],g)) Q):Wp ((a0K (a7K (.msl 2 o 0 N) (.int .i64 (m:Int)) cmp) [.int .i64 (a:Int),.int .i64 (b:Int),x1,x2,x3] g).bind f) Q:=by
 refine Wp.loop (fun kk ds g'=>g'=g∧∃ y1 y2 y3,∃ i j:Nat,ds=[.int .i64 (i:Int),.int .i64 (j:Int),y1,y2,y3]∧kk=j - i∧a≤i∧i≤j∧j≤b∧(i=a∨q (i - 1))∧(j=b∨¬ q j))
  (fun r=>r.1 = .ext 4∧r.2.2=g∧∃ b1 b2 b3,∃ c:Nat,r.2.1=[.int .i64 (c:Int),.int .i64 (c:Int),b1,b2,b3]∧a≤c∧c≤b∧(c=a∨q (c - 1))∧(c=b∨¬ q c)) (b - a) ⟨rfl,_,_,_,a,b,rfl,rfl,Nat.le_refl _,hmb,Nat.le_refl _,.inl rfl,.inl rfl⟩ ?_ ?_
 ·rintro kk ds g' ⟨rfl,y1,y2,y3,i,j,rfl,hk,h1,h2,h3,h4,h5⟩
  simp only [a7K,a0f,a0j,bs,d0B,a0o]
  refine Wp.dif ?_ ?_
  ·intro h0
   have h0:i<j:=by
    have:(i:Int)<(j:Int):=by simpa using h0
    omega
   obtain ⟨u1,u2,u3,u4⟩:=@b1Y i j (by omega) (by omega)
   obtain ⟨y,hy⟩:∃ y,L[(i+j) / 2]?=some y:=⟨_,d0Q (by omega)⟩
   obtain ⟨v,hv,hvc⟩:=hc ((i+j) / 2) y (by omega) (by omega) hy
   have ia:=@a7g o N ((i+j) / 2) (by omega)
   have ib:=@a7g o N m hmN
   have la:=b3p ho hy
   have lb:=b3p ho hx
   have w1:IntKind.wrap .i64 ((((i+j) / 2:Nat):Int)+1)=(((i+j) / 2+1:Nat):Int):=by rw [wrap_i64 (by omega) (by omega)];omega
   simp only [a0r,u1,a7W,u2,a4h,show ¬ (1:Int)<0 by omega,if_false,u3,a7V,u4,ia,ib,la,lb,hv,bs,a0o,a1D,d0B]
   by_cases hlt:v<0
   ·have:=fun h=>(hvc.2 h) hlt
    simp only [hlt,decide_true,d0L,a0c,d0C,if_false,bs,a1A,a0f,a0j]
    exact .some (.inl ⟨rfl,(i+j) / 2 - i,by omega,rfl,_,_,_,_,_,rfl,rfl,by omega,by omega,by omega,h4,.inr this⟩)
   ·have:=hvc.1 hlt
    simp only [hlt,decide_false,d0M,a0c,if_true,w1,bs,a1A,a0f,a0j]
    exact .some (.inl ⟨rfl,j - ((i+j) / 2+1),by omega,rfl,_,_,_,_,_,rfl,rfl,by omega,by omega,by omega,.inr (by simpa using this),h5⟩)
  ·intro h0
   have h0:¬ i<j:=by
    have:¬ (i:Int)<(j:Int):=by simpa using h0
    omega
   obtain rfl:j=i:=by omega
   exact .some (.inr ⟨by simp,rfl,rfl,_,_,_,j,rfl,h1,h3,h4,h5⟩)
 ·rintro ⟨ex,ds,g'⟩ ⟨rfl,q2,b1,b2,b3,c,rfl,k1,k2,k3,k4⟩
  simp only at q2
  subst q2
  exact K c b1 b2 b3 k1 k2 k3 k4
theorem wL0 {g:Hp} {o N:Nat} {L:List (Str × Str)} (hN:N≤1000000000) (hlen:L.length=N) (ho:g[o]?=some (.row a0t 2 (L.map fld))) (cmp:D) (p a b:Nat) (q:Nat→Prop) (hmb:a≤b) (hbp:b≤p+1) (hbN:b≤N) (hpN:p<a+N)
  (hc:∀ t y z,a≤t→t<b→L[t]?=some y→L[p - t]?=some z→∃ v,a3G R cmp [.agg (fld z),.agg (fld y)] g=some (.int .i64 v,g)∧(¬ v<0↔q t)) (x1 x2 x3:D) {β:Type} {f:Out→Option β} {Q:β→Prop}
  (K:∀ (c:Nat) b1 b2 b3,a≤c→c≤b→(c=a∨q (c - 1))→(c=b∨¬ q c)→Wp (f (.ext 8,[.int .i64 (c:Int),.int .i64 (c:Int),b1,b2,b3],g)) Q):Wp ((a0K (a5W (.msl 2 o 0 N) cmp (.int .i64 (p:Int))) [.int .i64 (a:Int),.int .i64 (b:Int),x1,x2,x3] g).bind f) Q:=by
 refine Wp.loop (fun kk ds g'=>g'=g∧∃ y1 y2 y3,∃ i j:Nat,ds=[.int .i64 (i:Int),.int .i64 (j:Int),y1,y2,y3]∧kk=j - i∧a≤i∧i≤j∧j≤b∧(i=a∨q (i - 1))∧(j=b∨¬ q j))
  (fun r=>r.1 = .ext 8∧r.2.2=g∧∃ b1 b2 b3,∃ c:Nat,r.2.1=[.int .i64 (c:Int),.int .i64 (c:Int),b1,b2,b3]∧a≤c∧c≤b∧(c=a∨q (c - 1))∧(c=b∨¬ q c)) (b - a) ⟨rfl,_,_,_,a,b,rfl,rfl,Nat.le_refl _,hmb,Nat.le_refl _,.inl rfl,.inl rfl⟩ ?_ ?_
 ·rintro kk ds g' ⟨rfl,y1,y2,y3,i,j,rfl,hk,h1,h2,h3,h4,h5⟩
  simp only [a5W,a0f,a0j,bs,d0B,a0o]
  refine Wp.dif ?_ ?_
  ·intro h0
   have h0:i<j:=by
    have:(i:Int)<(j:Int):=by simpa using h0
    omega
   obtain ⟨u1,u2,u3,u4⟩:=@b1Y i j (by omega) (by omega)
   obtain ⟨y,hy⟩:∃ y,L[(i+j) / 2]?=some y:=⟨_,d0Q (by omega)⟩
   obtain ⟨z,hz⟩:∃ z,L[p - (i+j) / 2]?=some z:=⟨_,d0Q (by omega)⟩
   obtain ⟨v,hv,hvc⟩:=hc ((i+j) / 2) y z (by omega) (by omega) hy hz
   have ia:=@a7g o N ((i+j) / 2) (by omega)
   have ib:=@a7g o N (p - (i+j) / 2) (by omega)
   have la:=b3p ho hy
   have lb:=b3p ho hz
   have wp':IntKind.wrap .i64 ((p:Int) - (((i+j) / 2:Nat):Int))=((p - (i+j) / 2:Nat):Int):=by rw [wrap_i64 (by omega) (by omega)];omega
   have w1:IntKind.wrap .i64 ((((i+j) / 2:Nat):Int)+1)=(((i+j) / 2+1:Nat):Int):=by rw [wrap_i64 (by omega) (by omega)];omega
   simp only [a0r,u1,a7W,u2,a4h,show ¬ (1:Int)<0 by omega,if_false,u3,a7V,u4,a0z,wp',ia,ib,la,lb,hv,bs,a0o,a1D,d0B]
   by_cases hlt:v<0
   ·have:=fun h=>(hvc.2 h) hlt
    simp only [hlt,decide_true,d0L,a0c,d0C,if_false,bs,a1A,a0f,a0j]
    exact .some (.inl ⟨rfl,(i+j) / 2 - i,by omega,rfl,_,_,_,_,_,rfl,rfl,by omega,by omega,by omega,h4,.inr this⟩)
   ·have:=hvc.1 hlt
    simp only [hlt,decide_false,d0M,a0c,if_true,w1,bs,a1A,a0f,a0j]
    exact .some (.inl ⟨rfl,j - ((i+j) / 2+1),by omega,rfl,_,_,_,_,_,rfl,rfl,by omega,by omega,by omega,.inr (by simpa using this),h5⟩)
  ·intro h0
   have h0:¬ i<j:=by
    have:¬ (i:Int)<(j:Int):=by simpa using h0
    omega
   obtain rfl:j=i:=by omega
   exact .some (.inr ⟨by simp,rfl,rfl,_,_,_,j,rfl,h1,h3,h4,h5⟩)
 ·rintro ⟨ex,ds,g'⟩ ⟨rfl,q2,b1,b2,b3,c,rfl,k1,k2,k3,k4⟩
  simp only at q2
  subst q2
  exact K c b1 b2 b3 k1 k2 k3 k4
def b7W (cmp:D) (c:Str × Str→Str × Str→Int):Prop:=∀ x y g,a3G R cmp [.agg (fld x),.agg (fld y)] g=some (.int .i64 (c x y),g)
theorem c4d {g:Hp} {o N:Nat} {P B Q:List (Str × Str)} {x:Str × Str} (hN:N≤1000000000) (hlen:(P++x::B++Q).length=N) (ho:g[o]?=some (.row a0t 2 ((P++x::B++Q).map fld))) (cmp:D) (c:Str × Str→Str × Str→Int) (hcmp:b7W cmp c) (a m b:Int) (ha:a=(P.length:Nat)) (hm:m=(P.length+1:Nat)) (hb:b=(P.length+1+B.length:Nat)) {β:Type} {f:D × Hp→Option β} {R1:β→Prop}
  (K:∀ g' B1 B2,B=B1++B2→(B1=[]∨∃ y r,B1=r++[y]∧c y x<0)→(B2=[]∨∃ y r,B2=y::r∧¬ c y x<0)→g'[o]?=some (.row a0t 2 ((P++(B1++x::B2)++Q).map fld))→Same o g g'→Wp (f (a0i [],g')) R1):Wp ((R a5K [.msl 2 o 0 N,.int .i64 a,.int .i64 m,.int .i64 b,cmp] g).bind f) R1:=by
 subst ha hm hb
 have hl:=hlen
 simp only [d0G,d0S] at hl
 have w1:IntKind.wrap .i64 (((P.length+1:Nat):Int) - (P.length:Int))=1:=by rw [wrap_i64 (by omega) (by omega)];omega
 have gx:(P++x::B++Q)[P.length]?=some x:=by
  rw [show P++x::B++Q=P++x::(B++Q) by simp]
  exact a1R _ _ x _ rfl
 have gB:∀ t,(P++x::B++Q)[P.length+1+t]?=(B++Q)[t]?:=fun t=>by
  rw [show P++x::B++Q=(P++[x])++(B++Q) by simp,List.getElem?_append_right (by simp)]
  simp [-bind_some]
 rw [b9F]
 simp only [b6u,bs,d0B,a0z,w1,a0L,decide_true,a0c,if_true]
 refine wL3 hN hlen ho cmp P.length (P.length+1) (P.length+1+B.length) (fun t=>∃ y,(P++x::B++Q)[t]?=some y∧c y x<0) (by omega) (by omega) (by omega) x gx (fun t y _ _ hy=>⟨c y x,hcmp y x g,fun h=>⟨y,hy,h⟩,fun ⟨y',h1,h2⟩=>by rw [hy] at h1;injection h1 with h1;rw [h1];exact h2⟩) _ _ _ fun k b1 b2 b3 k1 k2 k3 k4=>?_
 obtain ⟨t,rfl⟩:∃ t,k=P.length+1+t:=⟨k - (P.length+1),by omega⟩
 have htB:t≤B.length:=by omega
 simp only [a0p,a0n,bs,a0f,a0j,d0B]
 have eL:P++x::B++Q=P++x::B.take t++(B.drop t++Q):=by
  simp only [List.append_assoc,List.cons_append]
  rw [← List.append_assoc (B.take t),List.take_append_drop]
 have htl:(B.take t).length=t:=by simp;omega
 refine wL4 (P:=P) (A:=B.take t) (Q:=B.drop t++Q) (x:=x) hN (by rw [← eL];exact hlen) (by rw [← eL];exact ho) _ (by rw [htl];show D.int _ _=_;congr 1;omega) _ rfl _ fun g1 c1 c2 p1 s1'=>?_
 simp only [a0p,a0n,bs]
 refine K g1 (B.take t) (B.drop t) (List.take_append_drop _ _).symm ?_ ?_ (by rw [p1];simp [-bind_some]) s1'
 ·rcases Nat.eq_zero_or_pos t with rfl | hpos
  ·exact .inl (by simp)
  ·right
   rcases k3 with k3 | ⟨y,hy,hlt⟩
   ·omega
   ·rw [show P.length+1+t - 1=P.length+1+(t - 1) by omega,gB,d1a (by omega)] at hy
    refine ⟨y,B.take (t - 1),?_,hlt⟩
    conv=>lhs;rw [show t=(t - 1)+1 by omega,d0N,hy]
    simp [-bind_some]
 ·rcases Nat.lt_or_ge t B.length with hlt | hge
  ·right
   obtain ⟨y,hy⟩:=gx_ hlt
   rcases k4 with k4 | k4
   ·omega
   ·refine ⟨y,B.drop (t+1),?_,fun h=>k4 ⟨y,by rw [gB,d1a hlt];exact hy,h⟩⟩
    obtain ⟨hn,hh⟩:=d0R.1 hy
    rw [List.drop_eq_getElem_cons hn,hh]
  ·exact .inl (List.drop_eq_nil_of_le hge)
theorem c4e {g:Hp} {o N:Nat} {P A Q:List (Str × Str)} {x:Str × Str} (hN:N≤1000000000) (hlen:(P++A++x::Q).length=N) (hA1:A.length≠1) (ho:g[o]?=some (.row a0t 2 ((P++A++x::Q).map fld))) (cmp:D) (c:Str × Str→Str × Str→Int) (hcmp:b7W cmp c) (a m b:Int) (ha:a=(P.length:Nat)) (hm:m=(P.length+A.length:Nat)) (hb:b=(P.length+A.length+1:Nat)) {β:Type} {f:D × Hp→Option β} {R1:β→Prop}
  (K:∀ g' A1 A2,A=A1++A2→(A1=[]∨∃ y r,A1=r++[y]∧¬ c x y<0)→(A2=[]∨∃ y r,A2=y::r∧c x y<0)→g'[o]?=some (.row a0t 2 ((P++(A1++x::A2)++Q).map fld))→Same o g g'→Wp (f (a0i [],g')) R1):Wp ((R a5K [.msl 2 o 0 N,.int .i64 a,.int .i64 m,.int .i64 b,cmp] g).bind f) R1:=by
 subst ha hm hb
 have hl:=hlen
 simp only [d0G,d0S] at hl
 have w1:IntKind.wrap .i64 (((P.length+A.length:Nat):Int) - (P.length:Int))=A.length:=by rw [wrap_i64 (by omega) (by omega)];omega
 have w2:IntKind.wrap .i64 (((P.length+A.length+1:Nat):Int) - ((P.length+A.length:Nat):Int))=1:=by rw [wrap_i64 (by omega) (by omega)];omega
 have hd1:decide ((A.length:Int)=1)=false:=decide_eq_false (by omega)
 have gx:(P++A++x::Q)[P.length+A.length]?=some x:=a1R _ _ x _ (by simp)
 have gA:∀ t,t<A.length→(P++A++x::Q)[P.length+t]?=A[t]?:=fun t ht=>by
  rw [List.append_assoc,List.getElem?_append_right (by simp),d1a (by omega)]
  simp [-bind_some]
 rw [b9F]
 simp only [b6u,a4P,bs,d0B,a0z,w1,w2,a0L,hd1,decide_true,a0c,d0C,if_false,if_true]
 refine wL1 hN hlen ho cmp (P.length+A.length) P.length (P.length+A.length) (fun t=>∃ y,(P++A++x::Q)[t]?=some y∧¬ c x y<0) (by omega) (by omega) (by omega) x gx (fun t y _ _ hy=>⟨c x y,hcmp x y g,fun h=>⟨y,hy,h⟩,fun ⟨y',h1,h2⟩=>by rw [hy] at h1;injection h1 with h1;rw [h1];exact h2⟩) _ _ _ fun k b1 b2 b3 k1 k2 k3 k4=>?_
 obtain ⟨t,rfl⟩:∃ t,k=P.length+t:=⟨k - P.length,by omega⟩
 have htA:t≤A.length:=by omega
 simp only [a0p,a0n,bs,a0f,a0j,d0B]
 have htl:(A.take t).length=t:=by simp;omega
 have eL:P++A++x::Q=(P++A.take t)++A.drop t++x::Q:=by
  rw [List.append_assoc P (A.take t),List.take_append_drop]
 have hdl:(A.drop t).length=A.length - t:=d0U
 refine wL2 (P:=P++A.take t) (A:=A.drop t) (Q:=Q) (x:=x) hN (by rw [← eL];exact hlen) (by rw [← eL];exact ho) _ (by rw [d0G,htl];rfl) _ (by rw [d0G,htl,hdl];congr 1;omega) _ fun g1 c1 c2 p1 s1'=>?_
 simp only [a0p,a0n,bs]
 refine K g1 (A.take t) (A.drop t) (List.take_append_drop _ _).symm ?_ ?_ (by rw [p1];simp [-bind_some]) s1'
 ·rcases Nat.eq_zero_or_pos t with rfl | hpos
  ·exact .inl (by simp)
  ·right
   rcases k3 with k3 | ⟨y,hy,hlt⟩
   ·omega
   ·rw [show P.length+t - 1=P.length+(t - 1) by omega,gA _ (by omega)] at hy
    refine ⟨y,A.take (t - 1),?_,hlt⟩
    conv=>lhs;rw [show t=(t - 1)+1 by omega,d0N,hy]
    simp [-bind_some]
 ·rcases Nat.lt_or_ge t A.length with hlt | hge
  ·right
   obtain ⟨y,hy⟩:=gx_ hlt
   rcases k4 with k4 | k4
   ·omega
   ·refine ⟨y,A.drop (t+1),?_,Classical.byContradiction fun h=>k4 ⟨y,by rw [gA _ hlt];exact hy,h⟩⟩
    obtain ⟨hn,hh⟩:=d0R.1 hy
    rw [List.drop_eq_getElem_cons hn,hh]
  ·exact .inl (List.drop_eq_nil_of_le hge)
theorem c7Q {α:Type} (P A B:List α) (t:Nat) (h0:P.length≤t) (h1:t<P.length+A.length):(P++A++B)[t]?=A[t - P.length]?:=by
 rw [List.append_assoc,List.getElem?_append_right h0,d1a (by omega)]
theorem b5e {α:Type} {A:List α} {t:Nat} {y:α} (ht:0<t) (hy:A[t - 1]?=some y):∃ r,A.take t=r++[y]:=by
 refine ⟨A.take (t - 1),?_⟩
 conv=>lhs;rw [show t=(t - 1)+1 by omega,d0N,hy]
 simp [-bind_some]
theorem b1z {α:Type} {A:List α} {t:Nat} {y:α} (hy:A[t]?=some y):∃ r,A.drop t=y::r:=by
 obtain ⟨hn,hh⟩:=d0R.1 hy
 exact ⟨A.drop (t+1),by rw [List.drop_eq_getElem_cons hn,hh]⟩
theorem a9W (b1:Bool) (a c:Int) (t:Nat) {β:Type} (f:D→Option β):((gd (.bool b1) true (some (.int .i64 a))).bind fun t2=>(gd (.bool b1) true (some (.int .i64 c))).bind fun t3=>(gd (.bool b1) true (a0l tab .lss t t2 t3)).bind fun t4=>(a0T (.bool b1) t4 (.bool false)).bind f)=f (.bool (b1&&decide (a<c))):=by
 cases b1
 ·simp only [a0s,reduceCtorEq,if_false,bs,a0g,d0C,Bool.false_and]
 ·simp only [a0s,if_true,bs,a0g,a0o,Bool.true_and]
def b3t (c:Str × Str→Str × Str→Int) (S Pre:Str × Str→Str × Str→Prop) (cmp:D) (o N n:Nat):Prop :=
 ∀ (g:Hp) (P A B Q:List (Str × Str)) (a m b:Int),A.length+B.length≤n→(P++A++B++Q).length=N→0<A.length→0<B.length→A.Pairwise S→B.Pairwise S→(∀ x∈A,∀ y∈B,Pre x y) →
  g[o]?=some (.row a0t 2 ((P++A++B++Q).map fld))→a=(P.length:Nat)→m=(P.length+A.length:Nat)→b=(P.length+A.length+B.length:Nat) →
  Wp (R a5K [.msl 2 o 0 N,.int .i64 a,.int .i64 m,.int .i64 b,cmp] g) fun p=>∃ C:List (Str × Str),C.Perm (A++B)∧C.Pairwise S∧p.2[o]?=some (.row a0t 2 ((P++C++Q).map fld))∧Same o g p.2
theorem c2C {g:Hp} {o N:Nat} {P A B Q:List (Str × Str)} (hN:N≤1000000000) (hlen:(P++A++B++Q).length=N) (hA:0<A.length) (hB:0<B.length) (ho:g[o]?=some (.row a0t 2 ((P++A++B++Q).map fld))) (cmp:D) (c:Str × Str→Str × Str→Int) (hcmp:b7W cmp c)
  (mid s0 r0:Nat) (hmid:mid=(P.length+(P.length+A.length+B.length)) / 2) (hs:(P.length+A.length>mid∧s0+B.length=mid∧r0=mid)∨(P.length+A.length≤mid∧s0=P.length∧r0=P.length+A.length))
  (p:Int) (hp:p=(mid+(P.length+A.length) - 1:Nat)) (x1 x2 x3:D) {β:Type} {f:Out→Option β} {R1:β→Prop}
  (K:∀ (k:Nat) b1 b2 b3 A1 A2 B1 B2,A=A1++A2→B=B1++B2→k=P.length+A1.length→mid=P.length+A1.length+B1.length →
   (A1=[]∨B2=[]∨∃ x y r s,A1=r++[x]∧B2=y::s∧¬ c y x<0)→(A2=[]∨B1=[]∨∃ x y r s,B1=r++[y]∧A2=x::s∧c y x<0) →
   Wp (f (.ext 8,[.int .i64 (k:Int),.int .i64 (k:Int),b1,b2,b3],g)) R1):Wp ((a0K (a5W (.msl 2 o 0 N) cmp (.int .i64 p)) [.int .i64 (s0:Int),.int .i64 (r0:Int),x1,x2,x3] g).bind f) R1:=by
 subst hp
 have hl:=hlen
 simp only [d0G] at hl
 have gA:∀ t,P.length≤t→t<P.length+A.length→(P++A++B++Q)[t]?=A[t - P.length]?:=fun t h0 h1=>by
  rw [List.append_assoc (P++A)];exact c7Q P A _ t h0 h1
 have gB:∀ t,P.length+A.length≤t→t<P.length+A.length+B.length→(P++A++B++Q)[t]?=B[t - (P.length+A.length)]?:=fun t h0 h1=>by
  have:=c7Q (P++A) B Q t (by simpa using h0) (by simpa using h1)
  simpa using this
 obtain ⟨q,hq⟩:∃ q:Nat→Prop,∀ t,q t↔∃ y z,(P++A++B++Q)[t]?=some y∧(P++A++B++Q)[mid+(P.length+A.length) - 1 - t]?=some z∧¬ c z y<0:=⟨_,fun t=>Iff.rfl⟩
 refine wL0 hN hlen ho cmp (mid+(P.length+A.length) - 1) s0 r0 q (by omega) (by omega) (by omega) (by omega)
  (fun t y z _ _ hy hz=>⟨c z y,hcmp z y g,fun h=>(hq t).2 ⟨y,z,hy,hz,h⟩,fun hh=>by
   obtain ⟨y',z',h1,h2,h3⟩:=(hq t).1 hh
   rw [hy] at h1;rw [hz] at h2;injection h1 with h1;injection h2 with h2;rw [h1,h2];exact h3⟩) _ _ _ fun k b1 b2 b3 k1 k2 k3 k4=>?_
 have hkA:k - P.length≤A.length:=by omega
 have hkB:mid - k≤B.length:=by omega
 have la:(A.take (k - P.length)).length=k - P.length:=by simp;omega
 have lb:(B.take (mid - k)).length=mid - k:=by simp;omega
 refine K k b1 b2 b3 (A.take (k - P.length)) (A.drop (k - P.length)) (B.take (mid - k)) (B.drop (mid - k)) (List.take_append_drop _ _).symm (List.take_append_drop _ _).symm (by omega) (by omega) ?_ ?_
 ·rcases k3 with k3 | k3
  ·rcases hs with ⟨h1,h2,h3⟩ | ⟨h1,h2,h3⟩
   ·right;left
    exact List.drop_eq_nil_of_le (by omega)
   ·left
    apply List.eq_nil_of_length_eq_zero
    omega
  ·by_cases hk0:k=P.length
   ·left;apply List.eq_nil_of_length_eq_zero;omega
   ·right
    by_cases hk1:B.length≤mid - k
    ·left;exact List.drop_eq_nil_of_le hk1
    ·right
     obtain ⟨y,z,hy,hz,hlt⟩:=(hq _).1 k3
     rw [gA _ (by omega) (by omega)] at hy
     rw [gB _ (by omega) (by omega)] at hz
     obtain ⟨r,hr⟩:=b5e (A:=A) (t:=k - P.length) (y:=y) (by omega) (by rw [← hy];congr 1;omega)
     obtain ⟨s,hs'⟩:=b1z (A:=B) (t:=mid - k) (y:=z) (by rw [← hz];congr 1;omega)
     exact ⟨y,z,r,s,hr,hs',hlt⟩
 ·by_cases hk0:k=P.length+A.length
  ·left;exact List.drop_eq_nil_of_le (by omega)
  ·right
   by_cases hk1:mid - k=0
   ·left;rw [hk1];rfl
   ·right
    rcases k4 with k4 | k4
    ·omega
    ·obtain ⟨y,hy⟩:∃ y,A[k - P.length]?=some y:=⟨_,d0Q (by omega)⟩
     obtain ⟨z,hz⟩:∃ z,B[mid - k - 1]?=some z:=⟨_,d0Q (by omega)⟩
     obtain ⟨r,hr⟩:=b5e (A:=B) (t:=mid - k) (y:=z) (by omega) hz
     obtain ⟨s,hs'⟩:=b1z (A:=A) (t:=k - P.length) (y:=y) hy
     refine ⟨y,z,r,s,hr,hs',Classical.byContradiction fun h=>k4 ((hq _).2 ⟨y,z,?_,?_,h⟩)⟩
     ·rw [gA _ (by omega) (by omega)];exact hy
     ·rw [gB _ (by omega) (by omega),← hz];congr 1;omega
theorem c4f {c:Str × Str→Str × Str→Int} {S Pre:Str × Str→Str × Str→Prop} (od:SOrd c S Pre) {cmp:D} (hcmp:b7W cmp c) {o N n:Nat} (hN:N≤1000000000) (ih:b3t c S Pre cmp o N n)
  {g:Hp} {P A B Q:List (Str × Str)} {a m b:Int} (hn:A.length+B.length≤n+1) (hlen:(P++A++B++Q).length=N) (hA:0<A.length) (hB:0<B.length) (sA:A.Pairwise S) (sB:B.Pairwise S) (hp:∀ x∈A,∀ y∈B,Pre x y)
  (ho:g[o]?=some (.row a0t 2 ((P++A++B++Q).map fld))) (ha:a=(P.length:Nat)) (hm:m=(P.length+A.length:Nat)) (hb:b=(P.length+A.length+B.length:Nat)) :
  Wp (a4Q (.msl 2 o 0 N) (.int .i64 a) (.int .i64 m) (.int .i64 b) cmp g) fun p=>∃ C:List (Str × Str),C.Perm (A++B)∧C.Pairwise S∧p.2[o]?=some (.row a0t 2 ((P++C++Q).map fld))∧Same o g p.2:=by
 have hl:=hlen
 simp only [d0G] at hl
 obtain ⟨mid,hmid⟩:∃ mid:Nat,mid=(P.length+(P.length+A.length+B.length)) / 2:=⟨_,rfl⟩
 obtain ⟨mm,hmm⟩:∃ mm:Nat,mm=P.length+A.length:=⟨_,rfl⟩
 obtain ⟨bb,hbb⟩:∃ bb:Nat,bb=P.length+A.length+B.length:=⟨_,rfl⟩
 rw [← hmm] at hm
 rw [← hbb] at hb
 subst ha hm hb
 obtain ⟨u1,u2,u3,u4⟩:=@b1Y P.length bb (by omega) (by omega)
 rw [← show mid=(P.length+bb) / 2 by rw [hmid,hbb]] at u3 u4
 have w1:IntKind.wrap .i64 ((mid:Int)+(mm:Int))=((mid+mm:Nat):Int):=by rw [wrap_i64 (by omega) (by omega)];omega
 have w2:IntKind.wrap .i64 (((mid+mm:Nat):Int) - 1)=((mid+(P.length+A.length) - 1:Nat):Int):=by rw [wrap_i64 (by omega) (by omega)];omega
 simp only [a4Q,bs,d0B,a0r,u1,a7W,u2,a4h,show ¬ (1:Int)<0 by omega,if_false,u3,a7V,u4,w1,a0v]
 refine Wp.join (P:=fun r=>r.1 = .nrm∧r.2.2=g∧∃ s0 r0:Nat,r.2.1=[.int .i64 (s0:Int),.int .i64 (r0:Int)]∧((P.length+A.length>mid∧s0+B.length=mid∧r0=mid)∨(P.length+A.length≤mid∧s0=P.length∧r0=P.length+A.length))) ?_ ?_ ?_
 ·intro h0
  have h0:mid<mm:=by
   have:(mm:Int)>(mid:Int):=by simpa using h0
   omega
  have w3:IntKind.wrap .i64 (((mid+mm:Nat):Int) - (bb:Int))=((mid - B.length:Nat):Int):=by rw [wrap_i64 (by omega) (by omega)];omega
  simp only [a0z,w3,bs]
  exact .some ⟨rfl,rfl,mid - B.length,mid,rfl,.inl ⟨by omega,by omega,rfl⟩⟩
 ·intro h0
  have h0:¬ mid<mm:=by
   have:¬ (mm:Int)>(mid:Int):=by simpa using h0
   omega
  exact .some ⟨rfl,rfl,P.length,mm,rfl,.inr ⟨by omega,rfl,hmm⟩⟩
 rintro ⟨ex,ds,g'⟩ ⟨rfl,q2,s0,r0,rfl,hs⟩
 simp only at q2
 subst q2
 simp only [a0n,a0z,w2,bs,a0f,a0j,d0B]
 refine c2C hN hlen hA hB ho cmp c hcmp mid s0 r0 hmid hs _ rfl _ _ _ fun k b1 b2 b3 A1 A2 B1 B2 eA eB ek em h1 h2=>?_
 subst eA eB
 simp only [d0G] at *
 have w4:IntKind.wrap .i64 (((mid+mm:Nat):Int) - (k:Int))=((mm+B1.length:Nat):Int):=by rw [wrap_i64 (by omega) (by omega)];omega
 simp only [a0p,a0n,bs,a0f,a0j,d0B,a0z,w4,a0o,a9W]
 rw [List.pairwise_append] at sA sB
 -- the rotation
 refine Wp.bind (P:=fun r=>r.1 = .nrm∧r.2.2[o]?=some (.row a0t 2 ((P++A1++B1++A2++B2++Q).map fld))∧Same o g' r.2.2) ?_ ?_
 ·by_cases c1:0<A2.length
  ·have d1:decide ((k:Int)<(mm:Int))=true:=decide_eq_true (by omega)
   by_cases c2:0<B1.length
   ·have d2:decide ((mm:Int)<((mm+B1.length:Nat):Int))=true:=decide_eq_true (by omega)
    simp only [d1,d2,Bool.and_self,a0c,if_true]
    refine c7B (P:=P++A1) (U:=A2) (V:=B1) (Q:=B2++Q) hN (by simp only [d0G];omega) c1 c2 (by rw [ho];simp [-bind_some]) cmp _ _ _ (by simp only [d0G];omega) (by simp only [d0G];omega) (by simp only [d0G];omega) fun g1 p1 s1=>?_
    exact .some ⟨rfl,by simp only [p1];simp [-bind_some],s1⟩
   ·have e2:B1=[]:=List.eq_nil_of_length_eq_zero (by omega)
    subst e2
    have d2:decide ((mm:Int)<((mm+([]:List (Str × Str)).length:Nat):Int))=false:=decide_eq_false (by simp)
    simp only [d1,d2,Bool.and_false,a0c,d0C,if_false]
    exact .some ⟨rfl,by simp only [ho];simp [-bind_some],.refl _ _⟩
  ·have e2:A2=[]:=List.eq_nil_of_length_eq_zero (by omega)
   subst e2
   have d1:decide ((k:Int)<(mm:Int))=false:=decide_eq_false (by simp only [d0T] at *;omega)
   simp only [d1,Bool.false_and,a0c,d0C,if_false]
   exact .some ⟨rfl,by simp only [ho];simp [-bind_some],.refl _ _⟩
 rintro ⟨ex,ds,g1⟩ ⟨rfl,p1,s1⟩
 simp only [a0n,bs,d0B,a0o,a9W]
 -- the first half
 refine Wp.bind (P:=fun r=>r.1 = .nrm∧∃ C1:List (Str × Str),C1.Perm (A1++B1)∧C1.Pairwise S∧r.2.2[o]?=some (.row a0t 2 ((P++C1++(A2++B2++Q)).map fld))∧Same o g' r.2.2) ?_ ?_
 ·by_cases c1:0<A1.length
  ·have d1:decide (((P.length:Nat):Int)<(k:Int))=true:=decide_eq_true (by omega)
   by_cases c2:0<B1.length
   ·have d2:decide ((k:Int)<(mid:Int))=true:=decide_eq_true (by omega)
    simp only [d1,d2,Bool.and_self,a0c,if_true]
    refine Wp.bind (ih g1 P A1 B1 (A2++B2++Q) _ _ _ (by omega) (by simp only [d0G];omega) c1 c2 sA.1 sB.1 (fun x hx y hy=>hp x (by simp [-bind_some, hx]) y (by simp [-bind_some, hy])) (by rw [p1];simp [-bind_some]) rfl (by omega) (by omega)) ?_
    rintro ⟨d,g2⟩ ⟨C,q1,q2,q3,q4⟩
    exact .some ⟨rfl,C,q1,q2,q3,s1.trans q4⟩
   ·have e2:B1=[]:=List.eq_nil_of_length_eq_zero (by omega)
    subst e2
    have d2:decide ((k:Int)<(mid:Int))=false:=decide_eq_false (by simp only [d0T] at *;omega)
    simp only [d1,d2,Bool.and_false,a0c,d0C,if_false]
    exact .some ⟨rfl,A1,by simp,sA.1,by simp only [p1];simp [-bind_some],s1⟩
  ·have e2:A1=[]:=List.eq_nil_of_length_eq_zero (by omega)
   subst e2
   have d1:decide (((P.length:Nat):Int)<(k:Int))=false:=decide_eq_false (by simp only [d0T] at *;omega)
   simp only [d1,Bool.false_and,a0c,d0C,if_false]
   exact .some ⟨rfl,B1,by simp,sB.1,by simp only [p1];simp [-bind_some],s1⟩
 rintro ⟨ex,ds,g2⟩ ⟨rfl,C1,r1,r2,p2,s2⟩
 have lC1:C1.length=A1.length+B1.length:=by rw [r1.length_eq];simp [-bind_some]
 simp only [a0n,bs,d0B,a0o,a9W]
 -- the second half
 refine Wp.bind (P:=fun r=>r.1 = .nrm∧∃ C2:List (Str × Str),C2.Perm (A2++B2)∧C2.Pairwise S∧r.2.2[o]?=some (.row a0t 2 ((P++(C1++C2)++Q).map fld))∧Same o g' r.2.2) ?_ ?_
 ·by_cases c1:0<A2.length
  ·have d1:decide ((mid:Int)<((mm+B1.length:Nat):Int))=true:=decide_eq_true (by omega)
   by_cases c2:0<B2.length
   ·have d2:decide (((mm+B1.length:Nat):Int)<(bb:Int))=true:=decide_eq_true (by omega)
    simp only [d1,d2,Bool.and_self,a0c,if_true]
    refine Wp.bind (ih g2 (P++C1) A2 B2 Q _ _ _ (by omega) (by simp only [d0G];omega) c1 c2 sA.2.1 sB.2.1 (fun x hx y hy=>hp x (by simp [-bind_some, hx]) y (by simp [-bind_some, hy])) (by rw [p2];simp [-bind_some]) (by simp only [d0G];omega) (by simp only [d0G];omega) (by simp only [d0G];omega)) ?_
    rintro ⟨d,g3⟩ ⟨C,q1,q2,q3,q4⟩
    exact .some ⟨rfl,C,q1,q2,by rw [q3];simp [-bind_some],s2.trans q4⟩
   ·have e2:B2=[]:=List.eq_nil_of_length_eq_zero (by omega)
    subst e2
    have d2:decide (((mm+B1.length:Nat):Int)<(bb:Int))=false:=decide_eq_false (by simp only [d0T] at *;omega)
    simp only [d1,d2,Bool.and_false,a0c,d0C,if_false]
    exact .some ⟨rfl,A2,by simp,sA.2.1,by simp only [p2];simp [-bind_some],s2⟩
  ·have e2:A2=[]:=List.eq_nil_of_length_eq_zero (by omega)
   subst e2
   have d1:decide ((mid:Int)<((mm+B1.length:Nat):Int))=false:=decide_eq_false (by simp only [d0T] at *;omega)
   simp only [d1,Bool.false_and,a0c,d0C,if_false]
   exact .some ⟨rfl,B2,by simp,sB.2.1,by simp only [p2];simp [-bind_some],s2⟩
 rintro ⟨ex,ds,g3⟩ ⟨rfl,C2,r3,r4,p3,s3⟩
 simp only [a2q,bs]
 obtain ⟨v1,v2⟩:=c2Y od (List.pairwise_append.2 sA) (List.pairwise_append.2 sB) hp h1 h2 r1 r2 r3 r4
 exact .some ⟨C1++C2,v1,v2,p3,s3⟩
theorem c0S {c:Str × Str→Str × Str→Int} {S Pre:Str × Str→Str × Str→Prop} (od:SOrd c S Pre) {cmp:D} (hcmp:b7W cmp c) {o N:Nat} (hN:N≤1000000000):∀ n,b3t c S Pre cmp o N n
 | 0=>fun g P A B Q a m b h0 _ h1=>by omega
 | n + 1 => fun g P A B Q a m b h0 hlen hA hB sA sB hp ho ha hm hb=>by
  have ih:=c0S od hcmp (o:=o) hN n
  have hl:=hlen
  simp only [d0G] at hl
  by_cases c1:A.length=1
  ·obtain ⟨x,rfl⟩:=List.length_eq_one_iff.1 c1
   have := c4d (g:=g) (o:=o) (N:=N) (P:=P) (B:=B) (Q:=Q) (x:=x) hN (by simpa using hlen) (by simpa using ho) cmp c hcmp a m b ha (by rw [hm];rfl) (by rw [hb];rfl) (f:=some) (R1:=fun p=>∃ C:List (Str × Str),C.Perm ([x]++B)∧C.Pairwise S∧p.2[o]?=some (.row a0t 2 ((P++C++Q).map fld))∧Same o g p.2)
    (fun g' B1 B2 e h1 h2 p1 s1 => .some ⟨B1++x::B2,by rw [e];exact List.perm_middle,by
     subst e
     rw [List.pairwise_append] at sB ⊢
     refine ⟨sB.1,List.pairwise_cons.2 ⟨?_,sB.2.1⟩,?_⟩
     ·rcases h2 with rfl | ⟨y,r,rfl,hy⟩
      ·intro z hz;cases hz
      ·have hxy:=od.ge x y (hp x (by simp) y (by simp)) hy
       intro z hz
       rcases d0W.1 hz with rfl | hz
       ·exact hxy
       ·exact od.tr _ _ _ hxy ((List.pairwise_cons.1 sB.2.1).1 z hz)
     ·have hx1:∀ u∈B1,S u x:=by
        rcases h1 with rfl | ⟨y,r,rfl,hy⟩
        ·intro z hz;cases hz
        ·have hyx:=od.lt x y (hp x (by simp) y (by simp)) hy
         intro z hz
         rcases d0X.1 hz with hz | hz
         ·exact od.tr _ _ _ ((List.pairwise_append.1 sB.1).2.2 z hz y (by simp)) hyx
         ·simp at hz;subst hz;exact hyx
      intro u hu v hv
      rcases d0W.1 hv with rfl | hv
      ·exact hx1 u hu
      ·exact sB.2.2 u hu v hv,by rw [p1],s1⟩)
   rwa [show ∀ x:Option (D × Hp),x.bind some=x from fun x=>by cases x <;> rfl] at this
  ·by_cases c2:B.length=1
   ·obtain ⟨x,rfl⟩:=List.length_eq_one_iff.1 c2
    have:=c4e (g:=g) (o:=o) (N:=N) (P:=P) (A:=A) (Q:=Q) (x:=x) hN (by simpa using hlen) c1 (by simpa using ho) cmp c hcmp a m b ha (by rw [hm]) (by rw [hb];rfl) (f:=some) (R1:=fun p=>∃ C:List (Str × Str),C.Perm (A++[x])∧C.Pairwise S∧p.2[o]?=some (.row a0t 2 ((P++C++Q).map fld))∧Same o g p.2)
     (fun g' A1 A2 e h1 h2 p1 s1 => .some ⟨A1++x::A2,by rw [e];exact List.perm_middle.trans (by simpa using (List.perm_append_comm (l₁:=[x]) (l₂:=A1++A2))),b8G od (by rw [← e];exact sA) (fun y hy=>hp y (by rw [e];exact hy) x (by simp)) h2 h1,by rw [p1],s1⟩)
    rwa [show ∀ x:Option (D × Hp),x.bind some=x from fun x=>by cases x <;> rfl] at this
   ·have r:=c4f od hcmp hN ih h0 hlen hA hB sA sB hp ho ha hm hb
    rw [b9F]
    have v1:IntKind.wrap .i64 (m - a)=(A.length:Int):=by rw [hm,ha,wrap_i64 (by omega) (by omega)];omega
    have v2:IntKind.wrap .i64 (b - m)=(B.length:Int):=by rw [hm,hb,wrap_i64 (by omega) (by omega)];omega
    have d1:decide ((A.length:Int)=1)=false:=decide_eq_false (by omega)
    have d2:decide ((B.length:Int)=1)=false:=decide_eq_false (by omega)
    simp only [b6u,a4P,bs,a0z,v1,v2,a0L,d1,d2,a0c,d0C,if_false]
    exact r
theorem Blk.len {α:Type} {S Pre:α→α→Prop} {k:Nat} {l:List α} (h:Blk S Pre k l) (hl:l.length<k):l.Pairwise S:=h.all (by omega)
theorem b5J {α:Type} {Pre:α→α→Prop} {A B:List α} (h:(A++B).Pairwise Pre):A.Pairwise Pre∧B.Pairwise Pre∧∀ x∈A,∀ y∈B,Pre x y:=List.pairwise_append.1 h
theorem b8s {c:Str × Str→Str × Str→Int} {S Pre:Str × Str→Str × Str→Prop} (od:SOrd c S Pre) {cmp:D} (hcmp:b7W cmp c) {o N:Nat} (hN:N≤1000000000) {g:Hp} {P A Q:List (Str × Str)} (hlen:(P++A++Q).length=N) (hA:A.Pairwise Pre)
  (ho:g[o]?=some (.row a0t 2 ((P++A++Q).map fld))) (a b:Int) (ha:a=P.length) (hb:b=(P.length+A.length:Nat)) :
  Wp (R a6G [.msl 2 o 0 N,.int .i64 a,.int .i64 b,cmp] g) fun p=>∃ C:List (Str × Str),C.Perm A∧C.Pairwise S∧p.2[o]?=some (.row a0t 2 ((P++C++Q).map fld))∧Same o g p.2:=by
 subst ha hb
 have hl:=hlen
 simp only [d0G] at hl
 obtain ⟨d,h',e,p1,s1⟩:=c7a c cmp hcmp o N P.length (P.length+A.length) hN (by omega) (by omega) _ hlen g ho
 refine ⟨(d,h'),e,?_⟩
 cases A with
 | nil =>
  refine ⟨[],by simp,List.Pairwise.nil,?_,s1⟩
  rw [p1]
  simp [-bind_some, isr]
 | cons x A =>
  obtain ⟨C,q1,q2,q3⟩:=b4X od P Q A [x] (by simp) (fun u hu v hv=>by simp at hu;subst hu;exact (List.pairwise_cons.1 hA).1 v hv) (List.pairwise_cons.1 hA).2
  refine ⟨C,q2,q3,?_,s1⟩
  rw [p1]
  have e1:P.length+(x::A).length - (P.length+1)=A.length:=by simp;omega
  rw [e1]
  have e2:P++x::A++Q=P++[x]++A++Q:=by simp
  rw [e2]
  exact congrArg (fun z:List (Str × Str)=>some (Ob.row a0t 2 (z.map fld))) q1
theorem c7A {c:Str × Str→Str × Str→Int} {S Pre:Str × Str→Str × Str→Prop} (od:SOrd c S Pre) {cmp:D} (hcmp:b7W cmp c) {o N:Nat} (hN:N≤1000000000) {g:Hp} {l:List (Str × Str)} (hl:l.length=N) (hpre:l.Pairwise Pre)
  (ho:g[o]?=some (.row a0t 2 (l.map fld))):Wp (R b1D [.msl 2 o 0 N,.int .i64 N,cmp] g) fun p=>∃ C:List (Str × Str),C.Perm l∧C.Pairwise S∧p.2[o]?=some (.row a0t 2 (C.map fld))∧Same o g p.2:=by
 rw [c2K]
 simp only [b9g,bs,d0B]
 refine Wp.loop (fun n ds g'=>∃ u,∃ X Y:List (Str × Str),ds=[.int .i64 (X.length:Nat),.int .i64 ((X.length+20:Nat):Int),u]∧n=Y.length∧(X++Y).Perm l∧Y.Pairwise Pre∧CtxB S Pre 20 X Y∧g'[o]?=some (.row a0t 2 ((X++Y).map fld))∧Same o g g')
  (fun r=>r.1 = .ext 0∧∃ u,∃ X Y:List (Str × Str),r.2.1=[.int .i64 (X.length:Nat),.int .i64 ((X.length+20:Nat):Int),u]∧Y.length<20∧(X++Y).Perm l∧Y.Pairwise Pre∧CtxB S Pre 20 X Y∧r.2.2[o]?=some (.row a0t 2 ((X++Y).map fld))∧Same o g r.2.2)
  l.length ⟨_,[],l,rfl,rfl,by simp,hpre,CtxB.nil,by simpa using ho,.refl _ _⟩ ?_ ?_
 ·rintro n ds g' ⟨u,X,Y,rfl,rfl,hp,hY,hc,ho',sm⟩
  have hXY:X.length+Y.length=N:=by rw [← hl,← hp.length_eq];simp [-bind_some]
  simp only [a7G,a0f,a0j,bs,d0B,a3v]
  refine Wp.dif ?_ ?_
  ·intro h0
   have h0:20≤Y.length:=by
    have:((X.length+20:Nat):Int)≤(N:Int):=by simpa using h0
    omega
   obtain ⟨A,Y',rfl,hA⟩:∃ A Y',Y=A++Y'∧A.length=20:=⟨Y.take 20,Y.drop 20,(List.take_append_drop _ _).symm,by simp;omega⟩
   obtain ⟨y1,y2,y3⟩:=b5J hY
   simp only [d0G] at hXY h0
   refine Wp.bind (b8s od hcmp hN (P:=X) (A:=A) (Q:=Y') (by simp only [d0G];omega) y1 (by rw [ho'];simp [-bind_some]) _ _ rfl (by omega)) ?_
   rintro ⟨d,g2⟩ ⟨C,q1,q2,q3,q4⟩
   have lC:C.length=20:=by rw [q1.length_eq,hA]
   have w1:IntKind.wrap .i64 (((X.length+20:Nat):Int)+20)=((X.length+20+20:Nat):Int):=by rw [wrap_i64 (by omega) (by omega)];omega
   simp only [a0r,w1,bs]
   have eX:(X++C).length=X.length+20:=by simp [-bind_some, lC]
   refine .some (.inl ⟨rfl,Y'.length,by simp only [d0G];omega,_,X++C,Y',by rw [eX],rfl,?_,y2,hc.step q1 lC q2 y3,q3,sm.trans q4⟩)
   refine List.Perm.trans ?_ hp
   rw [List.append_assoc]
   exact (q1.append_right Y').append_left X
  ·intro h0
   have h0:¬ 20≤Y.length:=by
    have:¬ ((X.length+20:Nat):Int)≤(N:Int):=by simpa using h0
    omega
   exact .some (.inr ⟨by simp,rfl,_,X,Y,rfl,by omega,hp,hY,hc,ho',sm⟩)
 rintro ⟨ex,ds,g1⟩ ⟨rfl,u,X,Y,rfl,hYl,hp,hY,hc,ho1,s1⟩
 have hXY:X.length+Y.length=N:=by rw [← hl,← hp.length_eq];simp [-bind_some]
 simp only [a0p,a0n,a0f,a0j,bs]
 refine Wp.bind (b8s od hcmp hN (P:=X) (A:=Y) (Q:=[]) (by simp only [d0G,d0T];omega) hY (by simpa using ho1) _ _ rfl (by omega)) ?_
 rintro ⟨d,g2⟩ ⟨C,q1,q2,q3,q4⟩
 have bl:Blk S Pre 20 (X++C):=hc.done q1 (by rw [q1.length_eq];omega) q2
 have hpZ:(X++C).Perm l:=(q1.append_left X).trans hp
 have q3:g2[o]?=some (.row a0t 2 ((X++C).map fld)):=by simpa using q3
 have s2:Same o g g2:=s1.trans q4
 generalize X++C=Z at bl hpZ q3
 clear q1 q2 hc hY ho1 s1 q4
 simp only [bs,d0B]
 refine Wp.loop (fun n ds g'=>∃ u1 u2 u3 u4 u5 u6,∃ k:Nat,∃ Z:List (Str × Str),ds=[.int .i64 (k:Int),u1,u2,u3,u4,u5,u6]∧n=N - k∧0<k∧k≤2000000000∧Z.Perm l∧Blk S Pre k Z∧g'[o]?=some (.row a0t 2 (Z.map fld))∧Same o g g')
  (fun r=>r.1 = .ext 2∧∃ u1 u2 u3 u4 u5 u6 u7,r.2.1=[u1,u2,u3,u4,u5,u6,u7]∧∃ Z:List (Str × Str),Z.Perm l∧Z.Pairwise S∧r.2.2[o]?=some (.row a0t 2 (Z.map fld))∧Same o g r.2.2)
  (N - 20) ⟨_,_,_,_,_,_,20,Z,rfl,rfl,by omega,by omega,hpZ,bl,q3,s2⟩ ?_ ?_
 ·clear q3 s2 bl hpZ Z hXY hp
  rintro n ds g3 ⟨u1,u2,u3,u4,u5,u6,k,Z,rfl,rfl,k0,k1,hp,bl,ho3,s3⟩
  have lZ:Z.length=N:=by rw [hp.length_eq,hl]
  simp only [a7H,a0f,a0j,bs,d0B,a0o]
  refine Wp.dif ?_ ?_
  ·intro h0
   have h0:k<N:=by
    have:(k:Int)<(N:Int):=by simpa using h0
    omega
   have w1:IntKind.wrap .i64 ((2:Int)*(k:Int))=((2*k:Nat):Int):=by rw [wrap_i64 (by omega) (by omega)];omega
   simp only [a2o,w1,bs,d0B]
   refine Wp.loop (fun n ds g'=>∃ u,∃ X Y:List (Str × Str),ds=[.int .i64 (X.length:Nat),.int .i64 ((X.length+2*k:Nat):Int),u]∧n=Y.length∧(X++Y).Perm l∧Blk S Pre k Y∧CtxB S Pre (2*k) X Y∧g'[o]?=some (.row a0t 2 ((X++Y).map fld))∧Same o g g')
    (fun r=>r.1 = .ext 4∧∃ u v,∃ X Y:List (Str × Str),r.2.1=[.int .i64 (X.length:Nat),u,v]∧Y.length<2*k∧(X++Y).Perm l∧Blk S Pre k Y∧CtxB S Pre (2*k) X Y∧r.2.2[o]?=some (.row a0t 2 ((X++Y).map fld))∧Same o g r.2.2)
    N ⟨u5,[],Z,by simp,lZ.symm,by simpa using hp,bl,CtxB.nil,by simpa using ho3,s3⟩ ?_ ?_
   ·rintro n ds g4 ⟨u,X,Y,rfl,rfl,hp4,bl4,hc4,ho4,s4⟩
    have hXY:X.length+Y.length=N:=by rw [← hl,← hp4.length_eq];simp [-bind_some]
    simp only [b0O,a0f,a0j,bs,d0B,a3v]
    refine Wp.dif ?_ ?_
    ·intro h1
     have h1:2*k≤Y.length:=by
      have:((X.length+2*k:Nat):Int)≤(N:Int):=by simpa using h1
      omega
     obtain ⟨A,Y1,rfl,lA,sA,pA,bY1⟩:=bl4.fst (by omega)
     simp only [d0G] at hXY h1
     obtain ⟨B,Y2,rfl,lB,sB,pB,bY2⟩:=bY1.fst (by omega)
     simp only [d0G] at hXY h1
     have w2:IntKind.wrap .i64 ((X.length:Int)+(k:Int))=((X.length+A.length:Nat):Int):=by rw [wrap_i64 (by omega) (by omega)];omega
     simp only [a0r,w2,bs,d0B]
     refine Wp.bind (c0S od hcmp hN (A.length+B.length) g4 X A B Y2 _ _ _ (Nat.le_refl _) (by simp only [d0G];omega) (by omega) (by omega) sA sB (fun x hx y hy=>pA x hx y (by simp [-bind_some, hy])) (by rw [ho4];simp [-bind_some]) rfl rfl (by omega)) ?_
     rintro ⟨d,g5⟩ ⟨C,q1,q2,q3,q4⟩
     have lC:C.length=2*k:=by rw [q1.length_eq,d0G];omega
     have w3:IntKind.wrap .i64 (((X.length+2*k:Nat):Int)+((2*k:Nat):Int))=((X.length+2*k+2*k:Nat):Int):=by rw [wrap_i64 (by omega) (by omega)];omega
     simp only [a2o,a0r,w1,w3,bs]
     have eX:(X++C).length=X.length+2*k:=by simp [-bind_some, lC]
     refine .some (.inl ⟨rfl,Y2.length,by simp only [d0G];omega,_,X++C,Y2,by rw [eX],rfl,?_,bY2,CtxB.step (A:=A++B) (by rw [List.append_assoc];exact hc4) q1 lC q2 (fun x hx y hy=>?_),q3,s4.trans q4⟩)
     ·refine List.Perm.trans ?_ hp4
      rw [List.append_assoc,← List.append_assoc A B Y2]
      exact (q1.append_right Y2).append_left X
     ·rcases d0X.1 hx with hx | hx
      ·exact pA x hx y (by simp [-bind_some, hy])
      ·exact pB x hx y hy
    ·intro h1
     have h1:¬ 2*k≤Y.length:=by
      have:¬ ((X.length+2*k:Nat):Int)≤(N:Int):=by simpa using h1
      omega
     exact .some (.inr ⟨by simp,rfl,_,_,X,Y,rfl,by omega,hp4,bl4,hc4,ho4,s4⟩)
   rintro ⟨ex,ds,g4⟩ ⟨rfl,u,v,X,Y,rfl,hYl,hp4,bl4,hc4,ho4,s4⟩
   have hXY:X.length+Y.length=N:=by rw [← hl,← hp4.length_eq];simp [-bind_some]
   have w2:IntKind.wrap .i64 ((X.length:Int)+(k:Int))=((X.length+k:Nat):Int):=by rw [wrap_i64 (by omega) (by omega)];omega
   have w4:IntKind.wrap .i64 ((k:Int)*2)=((2*k:Nat):Int):=by rw [wrap_i64 (by omega) (by omega)];omega
   simp only [a0p,a0n,a0f,a0j,bs,a0r,w2,a0o,d0B]
   refine Wp.bind (P:=fun r=>r.1 = .nrm∧∃ Z:List (Str × Str),Z.Perm l∧Blk S Pre (2*k) Z∧r.2.2[o]?=some (.row a0t 2 (Z.map fld))∧Same o g r.2.2) ?_ ?_
   ·by_cases hm:X.length+k<N
    ·have d1:decide (((X.length+k:Nat):Int)<(N:Int))=true:=decide_eq_true (by omega)
     obtain ⟨A,B,rfl,lA,sA,pA,bB⟩:=bl4.fst (by omega)
     simp only [d0G] at hXY hYl
     have sB:B.Pairwise S:=bB.all (by omega)
     simp only [d1,a0c,if_true]
     refine Wp.bind (c0S od hcmp hN (A.length+B.length) g4 X A B [] _ _ _ (Nat.le_refl _) (by simp only [d0G,d0T];omega) (by omega) (by omega) sA sB pA (by rw [ho4];simp [-bind_some]) rfl (by omega) (by omega)) ?_
     rintro ⟨d,g5⟩ ⟨C,q1,q2,q3,q4⟩
     refine .some ⟨rfl,X++C,(q1.append_left X).trans hp4,hc4.done q1 (by rw [q1.length_eq,d0G];omega) q2,by simpa using q3,s4.trans q4⟩
    ·have d1:decide (((X.length+k:Nat):Int)<(N:Int))=false:=decide_eq_false (by omega)
     simp only [d1,a0c,d0C,if_false]
     exact .some ⟨rfl,X++Y,hp4,hc4.done (List.Perm.refl _) (by omega) (bl4.all (by omega)),ho4,s4⟩
   rintro ⟨ex,ds,g5⟩ ⟨rfl,Z2,hp5,bl5,ho5,s5⟩
   simp only [a0n,bs,w4]
   exact .some (.inl ⟨rfl,N - 2*k,by omega,_,_,_,_,_,_,2*k,Z2,rfl,rfl,by omega,by omega,hp5,bl5,ho5,s5⟩)
  ·intro h0
   have h0:¬ k<N:=by
    have:¬ (k:Int)<(N:Int):=by simpa using h0
    omega
   exact .some (.inr ⟨by simp,rfl,_,_,_,_,_,_,_,rfl,Z,hp,bl.all (by omega),ho3,s3⟩)
 rintro ⟨ex,ds,g3⟩ ⟨rfl,u1,u2,u3,u4,u5,u6,u7,rfl,Z3,hp3,sZ,ho3,s3⟩
 simp only [a0p,a2q,bs]
 exact .some ⟨Z3,hp3,sZ,ho3,s3⟩
def leS (x y:Str × Str):Prop:=¬ cF y x<0
theorem b0q (x y:Str × Str):leS x y↔Op.bytesLess y.1 x.1=false:=by
 unfold leS cF
 rw [a7U]
 simp [-bind_some]
theorem c3m {x y z:Str × Str} (h:leS x y) (k:leS y z):leS x z:=by
 rw [b0q] at *
 cases hh:Op.bytesLess z.1 x.1
 ·rfl
 ·by_cases he:y.1=x.1
  ·rw [he,hh] at k;cases k
  ·have:=b9o hh (b3w h he)
   rw [this] at k;cases k
theorem b8x:SOrd cF leS (fun _ _=>True) where
 tr:=fun x y z=>c3m
 lt:=fun x y _ h=>by
  unfold leS
  intro h2
  unfold cF at h h2
  rw [a7U] at h h2
  have:=b9o h h2
  rw [b8e] at this
  cases this
 ge:=fun x y _ h=>h
theorem b1S {x y:Str × Str} (h:leS x y) (k:leS y x):x.1=y.1:=by
 rw [b0q] at h k
 apply Classical.byContradiction
 intro hn
 have:=b3w k hn
 rw [this] at h;cases h
theorem a5G:∀ {C:List (Str × Str)},C.Pairwise leS→(a8F C=false↔(C.map Prod.fst).Nodup)
 | [],_=>by simp [-bind_some, a8F]
 | [x],_=>by simp [-bind_some, a8F]
 | x::y::r,h=>by
  have ih:=a5G (C:=y::r) (List.pairwise_cons.1 h).2
  have hx:=(List.pairwise_cons.1 h).1
  have hy:=(List.pairwise_cons.1 (List.pairwise_cons.1 h).2).1
  rw [d0J,List.nodup_cons]
  unfold a8F
  rw [Bool.or_eq_false_iff,ih]
  constructor
  ·rintro ⟨h1,h2⟩
   refine ⟨fun hm=>?_,h2⟩
   have h1:y.1≠x.1:=by simpa using h1
   obtain ⟨z,hz,hzx⟩:=d0Y.1 hm
   rcases d0W.1 hz with rfl | hz
   ·exact h1 hzx
   ·have h3:leS y x:=by
      have:=hy z hz
      rw [b0q] at this ⊢
      rw [← hzx];exact this
    exact h1 (b1S h3 (hx y (by simp)))
  ·rintro ⟨h1,h2⟩
   refine ⟨?_,h2⟩
   have:y.1≠x.1:=fun hh=>h1 (by rw [d0J,hh];simp [-bind_some])
   simpa using this
theorem a6U:∀ {C E:List (Str × Str)},C.Pairwise leS→E.Pairwise leS→C.Perm E→(C.map Prod.fst).Nodup→C=E
 | [],E,_,_,hp,_=>by rw [List.nil_perm.1 hp]
 | x::C,[],_,_,hp,_=>by cases List.perm_nil.1 hp
 | x::C,y::E,hC,hE,hp,hn=>by
  rw [List.pairwise_cons] at hC hE
  rw [d0J,List.nodup_cons] at hn
  have hxy:x=y:=by
   apply Classical.byContradiction
   intro hne
   have hx:x∈E:=by
    have:x∈y::E:=hp.mem_iff.1 (by simp)
    rcases d0W.1 this with h | h
    ·exact absurd h hne
    ·exact h
   have hy:y∈C:=by
    have:y∈x::C:=hp.mem_iff.2 (by simp)
    rcases d0W.1 this with h | h
    ·exact absurd h.symm hne
    ·exact h
   have:=b1S (hC.1 y hy) (hE.1 x hx)
   exact hn.1 (by rw [this];exact d0Y.2 ⟨y,hy,rfl⟩)
  subst hxy
  rw [a6U hC.2 hE.2 ((List.perm_cons x).1 hp) hn.2]
theorem c3Z (l:List (Str × Str)):(srt l).Perm l∧(srt l).Pairwise leS:=by
 cases l with
 | nil=>exact ⟨by simp [-bind_some, srt,isr],by simp [-bind_some, srt,isr]⟩
 | cons x B =>
  obtain ⟨C,q1,q2,q3⟩:=b4X b8x [] [] B [x] (by simp) (fun _ _ _ _=>trivial) (List.Pairwise.imp (fun _=>trivial) (List.pairwise_of_forall (l:=B) (R:=fun _ _=>True) (fun _ _=>trivial)))
  have e:srt (x::B)=C:=by
   unfold srt
   have:(x::B).length - 1=B.length:=by simp
   rw [this]
   simpa using q1
  rw [e]
  exact ⟨by simpa using q2,q3⟩
theorem b7N {C l:List (Str × Str)} (hp:C.Perm l) (hs:C.Pairwise leS):a8F C=a8F (srt l)∧(a8F C=false→C=srt l):=by
 obtain ⟨h1,h2⟩:=c3Z l
 have hq:C.Perm (srt l):=hp.trans h1.symm
 have hn:(C.map Prod.fst).Nodup↔((srt l).map Prod.fst).Nodup:=(hq.map Prod.fst).nodup_iff
 have a1:=a5G hs
 have a2:=a5G h2
 refine ⟨?_,fun h=>a6U hs h2 hq (a1.1 h)⟩
 cases hC:a8F C <;> cases hS:a8F (srt l)
 ·rfl
 ·have:=a2.2 (hn.1 (a1.1 hC));rw [this] at hS;cases hS
 ·have:=a1.2 (hn.2 (a2.1 hS));rw [this] at hC;cases hC
 ·rfl
theorem c7z {cmp:D} (hcmp:b7W cmp cF) {o N:Nat} (hN:N≤1000000000) {g:Hp} {l:List (Str × Str)} (hl:l.length=N) (ho:g[o]?=some (.row a0t 2 (l.map fld))) :
  ∃ d g',∃ C:List (Str × Str),R a9d [.msl 2 o 0 N,cmp] g=some (d,g')∧C.Perm l∧C.Pairwise leS∧g'[o]?=some (.row a0t 2 (C.map fld))∧Same o g g':=by
 obtain ⟨⟨d,g'⟩,e,C,q1,q2,q3,q4⟩:=c7A b8x hcmp hN hl (List.pairwise_of_forall fun _ _=>trivial) ho
 refine ⟨a0i [],g',C,?_,q1,q2,q3,q4⟩
 rw [c2J]
 simp only [b9f,bs,b8y,e]
theorem c3S (l:List (Str × Str)) (d:D) (h:Hp) (hd:SlOf 2 fld l d):∃ d' h',R a9b [d] h=some (.tup [d',.int .i64 (a2y l).1],h')∧h.length≤h'.length∧(∀ q,q<h.length→h'[q]?=h[q]?)∧((a2y l).1=0→RdF h' (a2y l).2 d'):=by
 suffices Wp (R a9b [d] h) (fun p=>∃ d',p.1 = .tup [d',.int .i64 (a2y l).1]∧h.length≤p.2.length∧(∀ q,q<h.length→p.2[q]?=h[q]?)∧((a2y l).1=0→RdF p.2 (a2y l).2 d')) by
  obtain ⟨⟨x,h'⟩,h1,d',rfl,h2⟩:=this
  exact ⟨d',h',h1,h2⟩
 rw [c5j]
 by_cases h32n:32<l.length
 ·have h32:(32:Int)<(l.length:Int):=by omega
  have hs:a2y l=(4,[]):=by simp only [a2y,h32n,if_true]
  rw [hs]
  simp only [b9e,bs,d0B,a3a hd,a0v,h32,decide_true,a0c,if_true,a2g]
  exact .some ⟨.nils,rfl,Nat.le_refl _,fun _ _=>rfl,fun hh=>by cases hh⟩
 have h32:¬ (32:Int)<(l.length:Int):=by omega
 simp only [b9e,bs,d0B,a3a hd,a0v,h32,decide_false,a0c,d0C,if_false]
 refine c3g l d h hd (by omega) _ _ _ _ _ (fun hv x y z w=>?_) (fun hv x y z w=>?_)
 ·simp only [a0p,a0n,a0f,a0j,bs]
  obtain ⟨d1,h1,e1,hl1,hb1,hd1⟩:=c7w l d h hd (by omega)
  simp only [e1,bs]
  have hsrt:∃ x h2,∃ C:List (Str × Str),R a9d [d1,.fn (.func a6F) [] []] h1=some (x,h2)∧h.length≤h2.length∧(∀ q,q<h.length→h2[q]?=h[q]?)∧C.Perm l∧C.Pairwise leS∧RdF h2 C d1:=by
   rcases hd1 with ⟨rfl,hd1⟩ | ⟨ob,hob,rfl,ho⟩
   ·obtain ⟨x,hx⟩:=c3T d1 (.fn (.func a6F) [] []) h1 hd1
    exact ⟨x,h1,[],hx,hl1,hb1,List.Perm.refl _,List.Pairwise.nil,.inl hd1⟩
   ·obtain ⟨x,h2,C,q1,q2,q3,q4,q5⟩:=c7z (cmp := .fn (.func a6F) [] []) (fun x y g=>c4M x y g) (o:=ob) (N:=l.length) (by omega) rfl ho
    refine ⟨x,h2,C,q1,by have:=q5.1;omega,fun q hq=>(q5.2 q (by omega)).trans (hb1 q hq),q2,q3,.inr ⟨ob,by rw [q2.length_eq],q4⟩⟩
  obtain ⟨u,h2,C,e2,hl2,hb2,hpC,hsC,hr⟩:=hsrt
  obtain ⟨ad,un⟩:=b7N hpC hsC
  simp only [e2,bs]
  refine c3h C d1 h2 hr (by rw [hpC.length_eq];omega) _ _ _ _ (fun ha x y z=>?_) (fun ha x y z=>?_)
  ·have hs:a2y l=(0,srt l):=by simp only [a2y,h32n,if_false,hv,if_true,← ad,ha,d0C]
   rw [hs]
   simp only [a0p,a0n,bs,a2g]
   exact .some ⟨d1,rfl,hl2,hb2,fun _=>by rw [← un ha];exact hr⟩
  ·have hs:a2y l=(7,[]):=by simp only [a2y,h32n,if_false,hv,if_true,← ad,ha]
   rw [hs]
   simp only [a2B,a2A,a2r,a0f,a0j,bs,a2g]
   exact .some ⟨.nils,rfl,hl2,hb2,fun hh=>by cases hh⟩
 ·have hs:a2y l=(6,[]):=by simp only [a2y,h32n,if_false,hv];rfl
  rw [hs]
  simp only [a2B,a2A,a2r,a0f,a0j,bs,a2g]
  exact .some ⟨.nils,rfl,Nat.le_refl _,fun _ _=>rfl,fun hh=>by cases hh⟩
theorem c3P (e:Ev) (h:Hp):R a8Z [.agg (evr e)] h=some (.int .i64 (evE e),h):=c3O e h fun p=>c3S e.fs e.fd p e.hfd
theorem b8Q (i:It) (h:Hp):R a4w [.agg (itr i)] h=some (.int .i64 (itE i),h):=c3N i h (c3P i.e h)
structure Rw where
 k:List Str
 kd:D
 hk:SlOf 1 (fun s=>[D.str s]) k kd
 hkl:k.length≤1000000
 n:List Int
 nd:D
 hn:SlOf 1 inr n nd
 hnl:n.length≤1000000
 er:Int
theorem b9l {T:Tab} {t e:Nat} {i j:TI} (ht:T t=Option.some i) (hi:i.td = .sl e) (he:T e=Option.some j) (hz:0<j.sz) {h:Hp} {rows ys:List (List D)} {y:D} (hy:a1h h j.sz y=Option.some ys) (hl:lim (rows.length+ys.length) j.by_=true) (hne:ys≠[]) :
  ∃ x' h',a0A T h t t (.sl j.sz true rows) y=Option.some (x',h')∧h.length≤h'.length∧(∀ q,q<h.length→h'[q]?=h[q]?)∧Own h' h.length e j.sz (rows++ys) x':=by
 have hz':Nat.blt 0 j.sz=true:=Nat.ble_eq_true_of_le hz
 have hs:b0a h i j y=Option.some ys:=by simp [-bind_some, b0a,hi,hy]
 unfold a0A
 simp only [ht,hi,he,hz',hs]
 cases ys with
 | nil=>exact absurd rfl hne
 | cons y1 yr =>
  simp only [hl,and_self,if_true,true_and]
  exact ⟨_,_,rfl,by simp [-bind_some, a0J],fun q hq=>by simp only [a0J];rw [d1a hq],.inr ⟨h.length,Nat.le_refl _,by simp,by simp [-bind_some, a0J]⟩⟩
def rwa:Rw:=⟨[],.nils,.nils _ _,by simp,[1],.sl 1 true [[.int .i64 1]],.inr ⟨true,rfl⟩,by simp,0⟩
theorem a8D {s:Cur} {n:Int} (h:(a0V s n).2.2=false):s.2=false∧0≤n∧((a0V s n).2.1.length:Int)+n=s.1.length:=by
 unfold a0V at h ⊢
 split
 ·rename_i hh;rw [if_pos hh] at h;cases h
 ·rename_i hh
  have h1:¬ s.2=true:=fun x=>hh (.inl x)
  have h2:¬ n<0:=fun x=>hh (.inr (.inl x))
  have h3:¬ (s.1.length:Int)<n:=fun x=>hh (.inr (.inr x))
  refine ⟨by simpa using h1,by omega,?_⟩
  simp only [d0U]
  omega
theorem a3U {s:Cur} (h:(a1d s).2.2=false):s.2=false∧(a1d s).2.1.length+8=s.1.length:=by
 obtain ⟨a,b,c⟩:=a8D (s:=s) (n:=8) h
 exact ⟨a,by
  have:((a1d s).2.1.length:Int)+8=s.1.length:=c
  omega⟩
theorem b5k {s:Cur} (h:(a2b s).2.2=false):s.2=false∧(a2b s).2.1.length+4=s.1.length:=by
 obtain ⟨a,b,c⟩:=a8D (s:=s) (n:=4) h
 exact ⟨a,by
  have:((a2b s).2.1.length:Int)+4=s.1.length:=c
  omega⟩
theorem a9O (s:Cur):(a0U s).2=(a0V (a2b s).2 (a2b s).1).2:=by unfold a0U;split <;> rfl
theorem b3L {s:Cur} (h:(a0C s).2.2=false):a0C s=a2b s:=by
 unfold a0C at h ⊢
 split
 ·rename_i hh;rw [if_pos hh] at h;cases h
 ·rfl
theorem a2R {s:Cur} (h:(a0U s).2.2=false):s.2=false∧(a0U s).2.1.length+4+((a0U s).1.getD []).length=s.1.length:=by
 have h':=h
 rw [a9O] at h'
 obtain ⟨a,b,c⟩:=a8D h'
 obtain ⟨d,e⟩:=b5k a
 have hl:((a0V (a2b s).2 (a2b s).1).1.length:Int)=(a2b s).1:=by
  unfold a0V at h' ⊢
  split
  ·rename_i hh;rw [if_pos hh] at h';cases h'
  ·rename_i hh
   simp only [d0V]
   omega
 have ht:(a0U s).1.getD []=bys (a0V (a2b s).2 (a2b s).1).1:=by
  unfold a0U
  rw [if_neg (by rw [h'];simp [-bind_some])];rfl
 rw [a9O,ht]
 refine ⟨d,?_⟩
 simp only [bys,d0H]
 omega
theorem a6v {s:Cur} (h:(a0C s).2.2=false):s.2=false∧(a0C s).2.1.length+4=s.1.length:=by
 have:=b3L h
 rw [this] at h ⊢
 exact b5k h
theorem a9v:∀ (n:Nat) (s:Cur),(a4m n s).2.2=false→s.2=false∧(a4m n s).2.1.length+((a4m n s).1.map lnB).flatten.length=s.1.length
 | 0,s,h=>⟨h,by simp [-bind_some, a4m]⟩
 | n+1,s,h=>by
  obtain ⟨a,b⟩:=a9v n (a9T s).2 h
  have a':(a0U (a1d (a1d s).2).2).2.2=false:=a
  obtain ⟨c,d⟩:=a2R a'
  obtain ⟨e,f⟩:=a3U c
  obtain ⟨g,i⟩:=a3U e
  refine ⟨g,?_⟩
  have hb:(lnB (a9T s).1).length=20+((a0U (a1d (a1d s).2).2).1.getD []).length:=by
   simp only [lnB,a9T,pS,a5E,d0G,a1X,a2L];omega
  have b':(a4m n (a9T s).2).2.1.length+((a4m n (a9T s).2).1.map lnB).flatten.length=(a0U (a1d (a1d s).2).2).2.1.length:=b
  simp only [a4m,d0J,List.flatten_cons,d0G,hb]
  omega
theorem a8Y:∀ (n:Nat) (s:Cur),(a4s n s).2.2=false→s.2=false∧(a4s n s).2.1.length+((a4s n s).1.map fdB).flatten.length=s.1.length
 | 0,s,h=>⟨h,by simp [-bind_some, a4s]⟩
 | n+1,s,h=>by
  obtain ⟨a,b⟩:=a8Y n (fdS s).2 h
  have a':(a0U (a0U s).2).2.2=false:=a
  obtain ⟨c,d⟩:=a2R a'
  obtain ⟨e,f⟩:=a2R c
  refine ⟨e,?_⟩
  have hb:(fdB (fdS s).1).length=8+((a0U s).1.getD []).length+((a0U (a0U s).2).1.getD []).length:=by
   simp only [fdB,fdS,pS,a5E,d0G,a2L];omega
  have b':(a4s n (fdS s).2).2.1.length+((a4s n (fdS s).2).1.map fdB).flatten.length=(a0U (a0U s).2).2.1.length:=b
  simp only [a4s,d0J,List.flatten_cons,d0G,hb]
  omega
theorem c0Q {s:Cur} {j:It} (hj:a2c j=a1s s) (h:(a7C s).2=false):(a1r j).length+(a7C s).1.length=s.1.length:=by
 obtain ⟨a1,b1⟩:=a8Y _ _ (show (a4s (a0C (a5Q s)).1.toNat (a0C (a5Q s)).2).2.2=false from h)
 obtain ⟨a2,b2⟩:=a6v a1
 obtain ⟨a3,b3⟩:=a2R (show (a0U (a0U (a1d (a1d (a6W s)).2).2).2).2.2=false from a2)
 obtain ⟨a4,b4⟩:=a2R a3
 obtain ⟨a5,b5⟩:=a3U a4
 obtain ⟨a6,b6⟩:=a3U a5
 obtain ⟨a7,b7⟩:=a9v _ _ (show (a4m (a0C (a4L s)).1.toNat (a0C (a4L s)).2).2.2=false from a6)
 obtain ⟨a8,b8⟩:=a6v a7
 obtain ⟨a9,b9⟩:=a3U (show (a1d (a1d (a1d (a1d (a0U s).2).2).2).2).2.2=false from a8)
 obtain ⟨c1,d1⟩:=a3U a9
 obtain ⟨c2,d2⟩:=a3U c1
 obtain ⟨c3,d3⟩:=a3U c2
 obtain ⟨c4,d4⟩:=a2R c3
 have e1:(a7C s).1.length=(a4s (a0C (a5Q s)).1.toNat (a0C (a5Q s)).2).2.1.length:=rfl
 have e2:(a5Q s).1.length=(a0U (a0U (a1d (a1d (a6W s)).2).2).2).2.1.length:=rfl
 have e3:(a6W s).1.length=(a4m (a0C (a4L s)).1.toNat (a0C (a4L s)).2).2.1.length:=rfl
 have e4:(a4L s).1.length=(a1d (a1d (a1d (a1d (a0U s).2).2).2).2).2.1.length:=rfl
 have hr:j.r=(a0U s).1.getD []:=congrArg RI.r hj
 have h7:j.e.s7=(a0U (a1d (a1d (a6W s)).2).2).1.getD []:=congrArg RI.t7 hj
 have h8:j.e.s8=(a0U (a0U (a1d (a1d (a6W s)).2).2).2).1.getD []:=congrArg RI.t8 hj
 have hl:j.e.ls=(a4m (a0C (a4L s)).1.toNat (a0C (a4L s)).2).1:=congrArg RI.ls hj
 have hf:j.e.fs=(a4s (a0C (a5Q s)).1.toNat (a0C (a5Q s)).2).1:=congrArg RI.fs hj
 simp only [a1r,a6t,a4B,d0G,a1X,a2L,pS,a5E]
 rw [← hl] at b7
 rw [← hf] at b1
 rw [← h7] at b4
 rw [← h8] at b3
 rw [← hr] at d4
 omega
noncomputable def ckR (x:RI):Int:=@dite _ (∃ j:It,a2c j=x) (Classical.propDecidable _) (fun h=>itE (Classical.choose h)) fun _=>0
theorem b8i (j:It):ckR (a2c j)=itE j:=by
 have h:∃ i:It,a2c i=a2c j:=⟨j,rfl⟩
 unfold ckR
 rw [dif_pos h]
 exact (b5U (Classical.choose_spec h)).2.1
noncomputable def a6e (l:List Int):Int × Int × RI:=a5v (ckR (a1s ((l.take (num (l.take 4)).toNat).drop 4,false))) l
theorem b9z {l:List Int} (h:(a6e l).1=0):8≤(a6e l).2.1∧(a6e l).2.1≤l.length∧∀ j:It,a2c j=(a6e l).2.2→((a3d j).length:Int)=(a6e l).2.1:=by
 unfold a6e a5v at h ⊢
 by_cases h1:l.length<4
 ·rw [if_pos h1] at h;cases h
 by_cases h2:num (l.take 4)<4∨(l.length:Int) - 4<num (l.take 4)
 ·rw [if_neg h1,if_pos h2] at h;cases h
 by_cases h3:a2T (l.take (num (l.take 4)).toNat)≠num ((l.drop (num (l.take 4)).toNat).take 4)
 ·rw [if_neg h1,if_neg h2,if_pos h3] at h;cases h
 by_cases h4:(a7C ((l.take (num (l.take 4)).toNat).drop 4,false)).2=true∨0<(a7C ((l.take (num (l.take 4)).toNat).drop 4,false)).1.length∨ckR (a1s ((l.take (num (l.take 4)).toNat).drop 4,false))≠0
 ·rw [if_neg h1,if_neg h2,if_neg h3,if_pos h4] at h;cases h
 rw [if_neg h1,if_neg h2,if_neg h3,if_neg h4]
 refine ⟨by simp only;omega,by simp only;omega,fun j hj=>?_⟩
 have hv:=c0Q hj (by
  cases hh:(a7C ((l.take (num (l.take 4)).toNat).drop 4,false)).2
  ·rfl
  ·exact absurd (.inl hh) h4)
 have h0:(a7C ((l.take (num (l.take 4)).toNat).drop 4,false)).1.length=0:=by
  apply Classical.byContradiction
  intro hh
  exact h4 (.inr (.inl (by omega)))
 rw [h0] at hv
 simp only [d0U,d0V] at hv
 rw [a4X]
 simp only
 omega
theorem b0G:∀ (l:List Int),(∀ z∈l,U8 z)→sby (bys l)=l
 | [],_=>rfl
 | z::l,h=>by
  have ih:=b0G l fun x hx=>h x (by simp [-bind_some, hx])
  have hz:=h z (by simp)
  unfold U8 at hz
  unfold bys sby at ih ⊢
  rw [d0J,d0J,ih]
  congr 1
  have:(UInt8.ofNat z.toNat).toNat=z.toNat:=by simp;omega
  rw [this]
  omega
theorem c6y (v:Int) (n0:Nat):∀ (k:Nat),k≤8→∀ (h:Hp) (l:List Int) (d a:D),n0≤h.length→Own h n0 ty5 1 (l.map byr) d→l.length+k≤1000000000→∃ d' h' b,a0K (a6b (.int .i64 v)) [d,.int .i64 (8*((k:Int) - 1)),a] h=some (.ext 0,[d',b,.bool false],h')∧Bw n0 h d h' (l++a4o k v) d':=by
 intro k
 induction k with
 | zero =>
  intro _ h l d a hn ow hr
  rw [a1S]
  refine ⟨d,h,_,by simp [-bind_some, a6b];rfl,?_⟩
  simpa [-bind_some, a4o] using Bw.refl ow
 | succ k ih =>
  intro hk h l d a hn ow hr
  have hg:(0:Int)≤8*(((k+1:Nat):Int) - 1):=by omega
  have hw1:8*(((k+1:Nat):Int) - 1)=8*(k:Int):=by omega
  have hw2:IntKind.wrap .i64 (8*(k:Int) - 8)=8*((k:Int) - 1):=by rw [wrap_i64 (by omega) (by omega)];omega
  have h8:¬ (8*(k:Int))<0:=by omega
  have hmn:min (8*(k:Int)).toNat IntKind.i64.bits=8*k:=by
   have:IntKind.i64.bits=64:=rfl
   rw [this];omega
  obtain ⟨x',g,e1,B1⟩:=b6w (y := .sl 1 true [byr (IntKind.wrap .u8 (v.fdiv (2 ^ (8*k))))]) (m:=[IntKind.wrap .u8 (v.fdiv (2 ^ (8*k)))]) hn ow (a1e _ _ _ _) (by simp;omega)
  obtain ⟨d',h',b,e2,B2⟩:=ih (by omega) g _ x' (.bool true) (Nat.le_trans hn B1.len) B1.ow (by simp;omega)
  refine ⟨d',h',b,?_,?_⟩
  ·rw [a1S]
   rw [hw1] at hg ⊢
   simp only [a6b,a0f,a0j,bs,a4g,decide_eq_true hg,a0c,if_true,a4h,h8,if_false,hmn,c4T,b8f,show ∀ z,([[D.int .u8 z]]:List (List D))=[byr z] from fun _=>rfl,e1,a0z,hw2]
   exact e2
  ·have:=B1.trans B2
   simpa [-bind_some, a4o] using this
theorem b7I (v:Int) (k:Nat) (hk:k≤8) (n0:Nat) (h:Hp) (l:List Int) (d:D) (hn:n0≤h.length) (ow:Own h n0 ty5 1 (l.map byr) d) (hr:l.length≤999999000):∃ d' h',R a3p [d,.int .i64 v,.int .i64 k] h=some (d',h')∧Bw n0 h d h' (l++a4o k v) d':=by
 obtain ⟨d',h',b,e1,B⟩:=c6y v n0 k hk h l d .any hn ow (by omega)
 refine ⟨d',h',?_,B⟩
 rw [c5U]
 have hw:IntKind.wrap .i64 ((k:Int) - 1)=(k:Int) - 1:=by rw [wrap_i64 (by omega) (by omega)]
 have hw2:IntKind.wrap .i64 (8*((k:Int) - 1))=8*((k:Int) - 1):=by rw [wrap_i64 (by omega) (by omega)]
 simp only [c2g,bs,a0z,hw,a2o,hw2,d0B,e1,a0p,a0n,a0f,a0h]
theorem c3X (l:List Int) (d:D) (h:Hp) (hd:RdB h l d) (hl:l.length≤9223372036854775806) (hu:∀ z∈l,U8 z):R b1N [d] h=some (.int .i64 (a2T l),h):=by
 apply Wp.val
 rw [c5V]
 simp only [c2h,bs,d0B,b0D hd]
 refine Wp.loop (fun k ds g=>g=h∧∃ x y,∃ n:Nat,ds=[.int .u64 (a2T (l.take n)),x,.int .i64 n,y]∧k+n=l.length) (fun r=>r.1 = .ext 0∧r.2.2=h∧∃ a b c,r.2.1=[.int .u64 (a2T l),a,b,c]) l.length ⟨rfl,_,_,0,rfl,rfl⟩ ?_ ?_
 ·rintro k ds g ⟨rfl,x,y,n,rfl,hk⟩
  simp only [b1b,a0f,a0j,bs,d0B,a0o]
  refine Wp.dif ?_ ?_
  ·intro h0
   have h0:n<l.length:=dl_ h0
   obtain ⟨z,hz⟩:=gx_ h0
   have hzu:=hu z (d0P hz)
   obtain ⟨q,q1,q2⟩:=b8H hd n z hz
   have hr:=a3m (l.take n)
   have hw:=wi_ n (by omega)
   unfold U8 at hzu
   have w1:IntKind.wrap .u64 (a2T (l.take n)*31)=a2T (l.take n)*31:=a2l (by omega) (by omega)
   have w2:IntKind.wrap .u64 z=z:=a2l (by omega) (by omega)
   have w3:IntKind.wrap .u64 (a2T (l.take n)*31+z)=a2T (l.take n)*31+z:=a2l (by omega) (by omega)
   have w4:(a2T (l.take n)*31+z).tmod 4294967291=a2T (l.take (n+1)):=by
    rw [a8M hz,Int.tmod_eq_emod_of_nonneg (by omega)]
   simp only [a2o,w1,q1,q2,a7X,w2,a0r,w3,bs,a3w,show ¬ ((4294967291:Int)=0) by omega,if_false,w4,hw]
   exact .some (.inl ⟨rfl,k - 1,by omega,rfl,_,_,n+1,rfl,by omega⟩)
  ·intro h0
   have h0:n=l.length:=by
    have:¬ (n:Int)<l.length:=by simpa using h0
    omega
   subst h0
   rw [d0Z]
   exact .some (.inr ⟨by simp,rfl,rfl,_,_,_,rfl⟩)
 ·rintro ⟨ex,ds,g⟩ ⟨rfl,q2,a,b,c,rfl⟩
  simp only at q2
  subst q2
  have hr:=a3m l
  simp only [a0p,a0n,bs,a0f,a4U,wrap_i64 (n:=a2T l) (by omega) (by omega),a0h]
  exact .some rfl
theorem c2u (x:Int):BitVec.ofInt 64 (IntKind.wrap .i64 x)=BitVec.ofInt 64 x:=by
 apply BitVec.eq_of_toInt_eq
 rw [BitVec.toInt_ofInt,BitVec.toInt_ofInt]
 unfold IntKind.wrap
 simp [-bind_some, IntKind.signed,IntKind.bits,IntKind.min,IntKind.max,Int.bmod]
 omega
theorem c3E {x b:Int} (h0:0≤x) (hb0:0≤b) (hb:b<256) (hx:x*256+b<18446744073709551616):IntKind.wrap .i64 (BitVec.ofInt IntKind.i64.bits (IntKind.wrap .i64 (x*256)) ||| BitVec.ofInt IntKind.i64.bits b).toNat=IntKind.wrap .i64 (x*256+b):=by
 have h1:=b8E (x:=x) (b:=b) 8 h0 hb0 (by omega) (by omega)
 rw [a9Q] at h1
 have h3:(2:Int) ^ 8=256:=by decide
 rw [h3] at h1
 have h2:((BitVec.ofInt 64 (IntKind.wrap .i64 (x*256)) ||| BitVec.ofInt 64 b).toNat:Int)=x*256+b:=by rw [c2u];exact h1
 exact congrArg (IntKind.wrap .i64) h2
theorem c0B (l:List Int) (d:D) (h:Hp) (hd:SlOf 1 byr l d) (hl:l.length≤8) (hu:∀ z∈l,U8 z):R a9j [d] h=some (.int .i64 (IntKind.wrap .i64 (num l)),h):=by
 apply Wp.val
 rw [c5Y]
 simp only [c2k,bs,d0B,a1H hd]
 have h00:IntKind.wrap .i64 (num (l.take 0))=0:=by simp [-bind_some, num];rfl
 refine Wp.loop (fun k ds g=>g=h∧∃ x y,∃ n:Nat,ds=[.int .i64 (IntKind.wrap .i64 (num (l.take n))),x,.int .i64 n,y]∧k+n=l.length) (fun r=>r.1 = .ext 0∧r.2.2=h∧∃ a b c,r.2.1=[.int .i64 (IntKind.wrap .i64 (num l)),a,b,c]) l.length ⟨rfl,_,_,0,by rw [h00];rfl,rfl⟩ ?_ ?_
 ·rintro k ds g ⟨rfl,x,y,n,rfl,hk⟩
  simp only [b1c,a0f,a0j,bs,d0B,a0o]
  refine Wp.dif ?_ ?_
  ·intro h0
   have h0:n<l.length:=dl_ h0
   obtain ⟨z,hz⟩:=gx_ h0
   have hzu:=hu z (d0P hz)
   have hw:=wi_ n (by omega)
   unfold U8 at hzu
   obtain ⟨hn0,hn1⟩:=a2K n (l.take n) (by simp;omega) fun z hz=>hu z (List.mem_of_mem_take hz)
   have hb:num (l.take n)<72057594037927936:=by
    have:n=0∨n=1∨n=2∨n=3∨n=4∨n=5∨n=6∨n=7:=by omega
    rcases this with rfl | rfl | rfl | rfl | rfl | rfl | rfl | rfl <;> omega
   have m3:min ((8:Int).toNat) IntKind.i64.bits=8:=by decide
   have p3:(2:Int) ^ 8=256:=by decide
   have w0:IntKind.wrap .i64 (num (l.take n))=num (l.take n):=wrap_i64 (by omega) (by omega)
   have w2:IntKind.wrap .i64 z=z:=wrap_i64 (by omega) (by omega)
   have w3:=c3E (x:=num (l.take n)) (b:=z) hn0 (by omega) (by omega) (by omega)
   have hii:a0b tab a0G d (.int .i64 (n:Int))=some (.fptr (byr z)):=by rw [b9Z hd];simp [-bind_some, hz]
   rw [← a8t hz] at w3
   simp only [w0,hii,b3D,bs,b1n,show ¬ (8:Int)<0 by omega,if_false,m3,p3,c2D,w2,b3O,w3,a0r,hw]
   exact .some (.inl ⟨rfl,k - 1,by omega,rfl,_,_,n+1,rfl,by omega⟩)
  ·intro h0
   have h0:n=l.length:=by
    have:¬ (n:Int)<l.length:=by simpa using h0
    omega
   subst h0
   rw [d0Z]
   exact .some (.inr ⟨by simp,rfl,rfl,_,_,_,rfl⟩)
 ·rintro ⟨ex,ds,g⟩ ⟨rfl,q2,a,b,c,rfl⟩
  simp only at q2
  subst q2
  simp only [a0p,a0n,bs,a0f,a0h]
  exact .some rfl
abbrev FM:=Int × Int
def mkr (m:FM):List D:=[.int .i64 m.1,.int .i64 m.2]
theorem b8C (m:FM) (h:Hp):a0d tab h a1f (.fptr (mkr m))=some (.agg (mkr m)):=id rfl
theorem b5w (m:FM):a0a tab a1f 0 (.fptr (mkr m))=some (.fptr (mkr m)):=id rfl
theorem b1Z (m:FM):a0a tab a1f 1 (.fptr (mkr m))=some (.fptr [.int .i64 m.2]):=id rfl
theorem b5x (m:FM) (h:Hp):a0d tab h ty3 (.fptr (mkr m))=some (.int .i64 m.1):=id rfl
theorem b2a (n:Int) (h:Hp):a0d tab h ty3 (.fptr [.int .i64 n])=some (.int .i64 n):=id rfl
theorem b5v (m:FM):a5x 2 (.agg (mkr m))=some (.fptr (mkr m)):=a2E 2 _ rfl
def svr (n:Int) (dm dq:D):List D:=[.int .i64 n,dm,dq]
theorem sv0 (n:Int) (dm dq:D):a0a tab a0m 0 (.fptr (svr n dm dq))=some (.fptr (svr n dm dq)):=id rfl
theorem sv1 (n:Int) (dm dq:D):a0a tab a0m 1 (.fptr (svr n dm dq))=some (.fptr [dm,dq]):=id rfl
theorem sv2 (n:Int) (dm dq:D):a0a tab a0m 2 (.fptr (svr n dm dq))=some (.fptr [dq]):=id rfl
theorem c4D (n:Int) (dm dq:D) (g:Hp):a0d tab g ty3 (.fptr (svr n dm dq))=some (.int .i64 n):=id rfl
theorem svl (n:Int) (dm dq:D) (g:Hp):a0d tab g a0m (.fptr (svr n dm dq))=some (.agg (svr n dm dq)):=id rfl
def a9X:List FM→Bool
 | a::b::r=>decide (a.1<b.1)&&a9X (b::r)
 | _=>true
def a9U (ms:List FM):Bool:=ms.any fun m=>decide (m.1<0)||decide (m.2<0)
def stC (n:Int) (ms:List FM) (k:Nat):Int:=if n<0 then 2 else if a9X ms=false then 19 else if a9U ms=true then 2 else if 1000<ms.length∨1000<k then 4 else 0
theorem c3W (n:Int) (ms:List FM) (k:Nat) (dm dq:D) (h:Hp) (hm:SlOf 2 mkr ms dm) (hq:a0y tab a1N dq=some (.int .i64 k)) (hl:ms.length≤9000000000000000000):R a9i [.agg (svr n dm dq)] h=some (.int .i64 (stC n ms k),h):=by
 apply Wp.val
 rw [c5T]
 simp only [c2f,bs,a2h,sv0,sv1,c4D,a6L,d0B,a0o]
 by_cases hn:n<0
 ·simp only [hn,decide_true,a0c,if_true,a0h]
  exact .some (by simp [-bind_some, stC,hn])
 simp only [hn,decide_false,a0c,d0C,if_false]
 refine Wp.loop (fun j ds g=>g=h∧∃ a b,∃ i:Nat,ds=[.int .i64 0,.int .i64 (i+1:Nat),a,b]∧j+i=ms.length∧a9X (ms.drop i)=a9X ms) (fun r=>r.2.2=h∧((r.1 = .ext 0∧a9X ms=true∧∃ a b c,r.2.1=[.int .i64 0,a,b,c])∨(r.1 = .ret∧a9X ms=false∧nth 0 r.2.1 = .int .i64 19))) ms.length ⟨rfl,_,_,0,rfl,rfl,rfl⟩ ?_ ?_
 ·rintro j ds g ⟨rfl,a,b,i,rfl,hj,has⟩
  simp only [b0Z,a0f,a0j,bs,d0B,sv1,a6L,a3g hm,a0o]
  refine Wp.dif ?_ ?_
  ·intro h0
   have h0:i+1<ms.length:=by
    have:((i+1:Nat):Int)<ms.length:=by simpa using h0
    omega
   have hx:ms[i]?=some ms[i]:=d0Q (by omega)
   have hy:ms[i+1]?=some ms[i+1]:=d0Q h0
   rw [List.drop_eq_getElem_cons (by omega),List.drop_eq_getElem_cons h0] at has
   have hd1:ms.drop (i+1)=ms[i+1]::ms.drop (i+1+1):=List.drop_eq_getElem_cons h0
   generalize ms[i]=x at *
   generalize ms[i+1]=y at *
   have hw:IntKind.wrap .i64 (((i+1:Nat):Int)+1)=((i+1+1:Nat):Int):=by rw [wrap_i64 (by omega) (by omega)];omega
   have hw2:IntKind.wrap .i64 (((i+1:Nat):Int) - 1)=(i:Int):=by rw [wrap_i64 (by omega) (by omega)];omega
   simp only [a6K hm,Int.natCast_nonneg,if_true,d0K,hx,hy,Option.map_some,bs,b5w,b5x,a0z,hw2,a3v]
   by_cases hxy:y.1≤x.1
   ·have:a9X ms=false:=by rw [← has];simp [-bind_some, a9X,show ¬ x.1<y.1 by omega]
    simp only [hxy,decide_true,a0c,if_true]
    exact .some (.inr ⟨by simp,rfl,.inr ⟨rfl,this,rfl⟩⟩)
   ·have:a9X (y::ms.drop (i+1+1))=a9X ms:=by rw [← has];simp [-bind_some, a9X,show x.1<y.1 by omega]
    simp only [hxy,decide_false,a0c,d0C,if_false,a0r,hw]
    exact .some (.inl ⟨rfl,j - 1,by omega,rfl,_,_,i+1,rfl,by omega,by rw [hd1];exact this⟩)
  ·intro h0
   have h0:¬ i+1<ms.length:=by
    have:¬ ((i+1:Nat):Int)<ms.length:=by simpa using h0
    omega
   have:a9X ms=true:=by
    rw [← has]
    cases hdr:ms.drop i with
    | nil=>rfl
    | cons x r =>
     have:(ms.drop i).length=(x::r).length:=by rw [hdr]
     simp at this
     have hr:r=[]:=List.eq_nil_of_length_eq_zero (by omega)
     subst hr;rfl
   exact .some (.inr ⟨by simp,rfl,.inl ⟨rfl,this,_,_,_,rfl⟩⟩)
 ·rintro ⟨ex,ds,g⟩ ⟨rfl,hc⟩
  rcases hc with ⟨rfl,has,a,b,c,rfl⟩ | ⟨rfl,has,h0⟩
  case inr =>
   simp only [a2B,a2A,a2r,a0f,h0,bs,a0h]
   exact .some (by simp [-bind_some, stC,hn,has])
  simp only [a0p,a0n,bs,a0f,a0j,a3g hm,sv1,a6L,d0B]
  refine Wp.loop (fun j ds g'=>g'=g∧∃ a b c,∃ i:Nat,ds=[.int .i64 0,a,.int .i64 i,b,c]∧j+i=ms.length∧a9U (ms.drop i)=a9U ms) (fun r=>r.2.2=g∧((r.1 = .ext 2∧a9U ms=false∧∃ a b c e,r.2.1=[.int .i64 0,a,b,c,e])∨(r.1 = .ret∧a9U ms=true∧nth 0 r.2.1 = .int .i64 2))) ms.length ⟨rfl,_,_,_,0,rfl,rfl,rfl⟩ ?_ ?_
  ·rintro j ds g' ⟨rfl,a,b,c,i,rfl,hj,hne⟩
   simp only [b1a,a0f,a0j,bs,d0B,a0o]
   refine Wp.dif ?_ ?_
   ·intro h0
    have h0:i<ms.length:=dl_ h0
    have hx:ms[i]?=some ms[i]:=d0Q h0
    rw [List.drop_eq_getElem_cons h0] at hne
    generalize ms[i]=x at *
    have hw:=wi_ i (by omega)
    simp only [a6K hm,Int.natCast_nonneg,if_true,d0K,hx,Option.map_some,bs,b8C,b5v,b5w,b1Z,b5x,b2a,a0o]
    by_cases h1:x.1<0
    ·have:a9U ms=true:=by rw [← hne];simp [-bind_some, a9U,h1]
     simp only [h1,decide_true,a0s,reduceCtorEq,d0D,if_false,bs,a0g,if_true,a0c]
     exact .some (.inr ⟨by simp,rfl,.inr ⟨rfl,this,rfl⟩⟩)
    ·by_cases h2:x.2<0
     ·have:a9U ms=true:=by rw [← hne];simp [-bind_some, a9U,h2]
      simp only [h1,h2,b1Z,b2a,decide_true,decide_false,a0s,reduceCtorEq,d0C,if_false,bs,a0g,if_true,a0c,a0o]
      exact .some (.inr ⟨by simp,rfl,.inr ⟨rfl,this,rfl⟩⟩)
     ·have:a9U (ms.drop (i+1))=a9U ms:=by rw [← hne];simp [-bind_some, a9U,h1,h2]
      simp only [h1,h2,b1Z,b2a,decide_true,decide_false,a0s,reduceCtorEq,d0C,if_false,bs,a0g,if_true,a0c,a0o,a0r,hw]
      exact .some (.inl ⟨rfl,j - 1,by omega,rfl,_,_,_,i+1,rfl,by omega,this⟩)
   ·intro h0
    have h0:¬ i<ms.length:=by
     have:¬ (i:Int)<ms.length:=by simpa using h0
     omega
    have:a9U ms=false:=by rw [← hne,List.drop_of_length_le (by omega)];rfl
    exact .some (.inr ⟨by simp,rfl,.inl ⟨rfl,this,_,_,_,_,rfl⟩⟩)
  ·rintro ⟨ex,ds,g'⟩ ⟨rfl,hc⟩
   rcases hc with ⟨rfl,hne,a,b,c,e,rfl⟩ | ⟨rfl,hne,h0⟩
   case inr =>
    simp only [a2B,a2A,a2r,a0f,h0,bs,a0h]
    exact .some (by simp [-bind_some, stC,hn,has,hne])
   simp only [a0p,a0n,bs,a0f,a0j,a3g hm,sv1,a6L,a0v]
   by_cases h1:1000<ms.length
   ·have h1':(1000:Int)<ms.length:=by omega
    simp only [h1',decide_true,a0s,reduceCtorEq,d0D,if_false,bs,a0g,if_true,a0c,a0h]
    exact .some (by simp [-bind_some, stC,hn,has,hne,h1])
   ·have h1':¬ (1000:Int)<ms.length:=by omega
    have h2':(decide ((1000:Int)<k))=decide (1000<k):=by
     by_cases hk:1000<k
     ·have:(1000:Int)<k:=by omega
      simp [-bind_some, hk,this]
     ·have:¬ (1000:Int)<k:=by omega
      simp [-bind_some, hk,this]
    simp only [h1',decide_false,a0s,d0C,reduceCtorEq,if_false,if_true,bs,a0g,sv2,c0f,hq,a0v,h2']
    refine Wp.dif (fun hk=>?_) (fun hk=>?_)
    ·have hk:1000<k:=by simpa using hk
     simp only [a0h]
     exact .some (by simp [-bind_some, stC,hn,has,hne,h1,hk])
    ·have hk:¬ 1000<k:=by simpa using hk
     simp only [a0h]
     exact .some (by simp [-bind_some, stC,hn,has,hne,h1,hk])
theorem c6L (n:Int):pI n=a4o 8 n:=by
 unfold pI
 rw [a5u]
 simp only [a4o,a6p,Int.fdiv_eq_ediv_of_nonneg _ (Int.le_of_lt (Int.pow_pos (show (0:Int)<2 by omega))),List.cons.injEq,and_true]
 simp only [show (2:Int) ^ (8*0)=1 by decide,
  show (2:Int) ^ (8*1)=256 by decide,
  show (2:Int) ^ (8*2)=65536 by decide,
  show (2:Int) ^ (8*3)=16777216 by decide,
  show (2:Int) ^ (8*4)=4294967296 by decide,
  show (2:Int) ^ (8*5)=1099511627776 by decide,
  show (2:Int) ^ (8*6)=281474976710656 by decide,
  show (2:Int) ^ (8*7)=72057594037927936 by decide]
 omega
theorem c0s (n:Nat):pN n=a4o 4 (n:Int):=by
 unfold pN
 rw [a5u]
 simp only [a4o,a6p,Int.fdiv_eq_ediv_of_nonneg _ (Int.le_of_lt (Int.pow_pos (show (0:Int)<2 by omega))),List.cons.injEq,and_true]
 simp only [show (2:Int) ^ (8*0)=1 by decide,
  show (2:Int) ^ (8*1)=256 by decide,
  show (2:Int) ^ (8*2)=65536 by decide,
  show (2:Int) ^ (8*3)=16777216 by decide]
 omega
theorem b0C {n0:Nat} {h0 h:Hp} {d0 d:D} {l:List Int} (B:Bw n0 h0 d0 h l d) (hn:n0≤h.length) (n:Int) (hr:l.length≤999999000) {β:Type} {f:D × Hp→Option β} {Q:β→Prop}
  (k:∀ d' h',Bw n0 h0 d0 h' (l++pI n) d'→n0≤h'.length→Wp (f (d',h')) Q):Wp ((R a3p [d,.int .i64 n,.int .i64 8] h).bind f) Q:=by
 obtain ⟨d',h',e,B1⟩:=b7I n 8 (by omega) n0 h l d hn B.ow hr
 rw [← c6L] at B1
 exact Wp.step e (k d' h' (B.trans B1) (Nat.le_trans hn B1.len))
theorem b5K {n0:Nat} {h0 h:Hp} {d0 d:D} {l:List Int} (B:Bw n0 h0 d0 h l d) (hn:n0≤h.length) (n:Int) (hr:l.length≤999999000) {β:Type} {f:D × Hp→Option β} {Q:β→Prop}
  (k:∀ d' h',Bw n0 h0 d0 h' (l++a4o 4 n) d'→n0≤h'.length→Wp (f (d',h')) Q):Wp ((R a3p [d,.int .i64 n,.int .i64 4] h).bind f) Q:=by
 obtain ⟨d',h',e,B1⟩:=b7I n 4 (by omega) n0 h l d hn B.ow hr
 exact Wp.step e (k d' h' (B.trans B1) (Nat.le_trans hn B1.len))
def mkB (m:FM):List Int:=pI m.1++pI m.2
def a1l (n:Int) (ms:List FM) (its:List It):List Int:=pI n++pN ms.length++(ms.map mkB).flatten++pN its.length++(its.map a3d).flatten
def magS:List Int:=[76,84,49,10]
def a3j (b:List Int):List Int:=magS++pN b.length++b
def b2D (n:Int) (ms:List FM) (its:List It):List Int:=a3j (a1l n ms its)++a4o 4 (a2T (a3j (a1l n ms its)))
def a9o:List It→Int
 | []=>0
 | i::r=>if itE i=0 then a9o r else itE i
def stE (n:Int) (ms:List FM) (its:List It):Int:=if stC n ms its.length=0 then a9o its else stC n ms its.length
theorem c0o (m:FM):(mkB m).length=16:=by simp [-bind_some, mkB,a1X]
theorem a6O (ms:List FM):(ms.map mkB).flatten.length=16*ms.length:=by
 induction ms with
 | nil=>rfl
 | cons m r ih=>rw [d0J,List.flatten_cons,d0G,ih,c0o,d0S];omega
theorem a6u (n:Int) (ms:List FM) (its:List It):(a1l n ms its).length=16+16*ms.length+(its.map a3d).flatten.length:=by
 simp only [a1l,d0G,a1X,a2L,a6O];omega
theorem a5i (b:List Int):(a3j b).length=8+b.length:=by simp [-bind_some, a3j,magS,a2L];omega
theorem a4Y (n:Int) (ms:List FM) (its:List It):(b2D n ms its).length=28+16*ms.length+(its.map a3d).flatten.length:=by
 simp only [b2D,d0G,a5i,a6u,a1Z];omega
theorem c3J (n:Int):∀ z∈pI n,U8 z:=a3V _ _
theorem c0t (n:Nat):∀ z∈pN n,U8 z:=a3V _ _
theorem b0h {α:Type} (f:α→List Int) (l:List α) (hf:∀ a,∀ z∈f a,U8 z):∀ z∈(l.map f).flatten,U8 z:=fun z hz=>by
 obtain ⟨m,hm,hz⟩:=List.mem_flatten.1 hz
 obtain ⟨a,_,rfl⟩:=d0Y.1 hm
 exact hf a z hz
theorem b1e (n:Int) (ms:List FM) (its:List It):∀ z∈a1l n ms its,U8 z:=fun z hz=>by
 simp only [a1l,d0X] at hz
 rcases hz with (((hz | hz) | hz) | hz) | hz
 ·exact c3J _ z hz
 ·exact c0t _ z hz
 ·exact b0h mkB ms (fun a z hz=>by
    simp only [mkB,d0X] at hz
    rcases hz with hz | hz <;> exact c3J _ z hz) z hz
 ·exact c0t _ z hz
 ·exact b0h a3d its b9H z hz
theorem b1P {b:List Int} (hb:∀ z∈b,U8 z):∀ z∈a3j b,U8 z:=fun z hz=>by
 simp only [a3j,d0X] at hz
 rcases hz with (hz | hz) | hz
 ·exact (show ∀ z∈magS,U8 z by unfold magS U8;decide) z hz
 ·exact c0t _ z hz
 ·exact hb z hz
theorem b9I (n:Int) (ms:List FM) (its:List It):∀ z∈b2D n ms its,U8 z:=fun z hz=>by
 simp only [b2D,d0X] at hz
 rcases hz with hz | hz
 ·exact b1P (b1e _ _ _) z hz
 ·exact a3V _ _ z hz
theorem a9p:∀ (l:List It) (n:Nat) (i:It),a9o (l.take n)=0→l[n]?=some i→(itE i≠0→a9o l=itE i)∧(itE i=0→a9o (l.take (n+1))=0)
 | [],n,i,_,hi=>by cases hi
 | x::r,0,i,_,hi=>by
  have hx:x=i:=by simpa using hi
  subst hx
  constructor
  ·intro h;simp [-bind_some, a9o,h]
  ·intro h;simp [-bind_some, a9o,h]
 | x::r,n+1,i,h,hi=>by
  simp only [List.take_succ_cons,a9o] at h
  split at h
  ·rename_i h0
   obtain ⟨a,b⟩:=a9p r n i h (by simpa using hi)
   exact ⟨fun hh=>by simp [-bind_some, a9o,h0,a hh],fun hh=>by simp [-bind_some, a9o,h0,b hh]⟩
  ·rename_i h0;exact absurd h h0
theorem c3v {g:Hp} {o n:Nat} {rows:List (List D)} (ho:g[o]?=some (.row ty5 1 rows)):b2w tab g a0G a0G (.msl 1 o 0 n)=some (.msl 1 o 0 n,g):=by
 have h1:tab a0G=some ti22:=id rfl
 have h2:ti22.td = .sl ty5:=id rfl
 have h3:tab ty5=some ti5:=id rfl
 have h4:ti5.td = .int .u8:=id rfl
 simp only [b2w,h1,h2,h3,ho,h4,if_true]
theorem b7z:lt22_50.map (fun n=>[D.int .u8 n])=magS.map byr:=id rfl
theorem b7V:lt22_51.map (fun n=>[D.int .u8 n])=[0,0,0,0].map byr:=id rfl
theorem c4R {g:Hp} {o:Nat} {p q m r:List Int} {y:D} (ho:g[o]?=some (.row ty5 1 ((p++q++r).map byr))) (hy:a1h g 1 y=some (m.map byr)) (hl:m.length=q.length):∃ g' c,a6y tab g a0G a0G (.msl 1 o p.length (q++r).length) y=some (c,g')∧g'[o]?=some (.row ty5 1 ((p++m++r).map byr))∧Same o g g':=by
 have h1:tab a0G=some ti22:=id rfl
 have h2:ti22.td = .sl ty5:=id rfl
 have h3:tab ty5=some ti5:=id rfl
 have h4:ti5.sz=1:=id rfl
 have hs:b0a g ti22 ti5 y=some (m.map byr):=by simp only [b0a,h2,h4,hy]
 have hn:b2e ti22=true:=rfl
 have hb:Nat.blt 0 1=true:=rfl
 have holt:=(d0R.1 ho).1
 have hmin:min (m.map byr).length (q++r).length=m.length:=by simp;omega
 have e1:(m.map byr).take (q++r).length=m.map byr:=List.take_of_length_le (by simp;omega)
 have e2:((p++q++r).map byr).take p.length=p.map byr:=by rw [List.append_assoc,d0I,List.take_left' (by simp)]
 have e3:((p++q++r).map byr).drop (p.length+m.length)=r.map byr:=by rw [d0I,List.drop_left' (by simp;omega)]
 have e4:a6y tab g a0G a0G (.msl 1 o p.length (q++r).length) y=some (.int .i64 (m.length:Nat),g.set o (.row ty5 1 ((p++m++r).map byr))):=by
  simp only [a6y,h1,h2,hn,h3,h4,hb,hs,ho,and_self,if_true,hmin,e1,e2,e3]
  simp only [d0I]
 exact ⟨_,_,e4,by rw [List.getElem?_set_self holt],⟨by simp,fun q hq=>d1b (Ne.symm hq)⟩⟩
theorem c7g (n:Int) (ms:List FM) (its:List It) (dm dq:D) (h:Hp) (hm:SlOf 2 mkr ms dm) (hq:SlOf 11 itr its dq) (hl:ms.length≤1000000) (hT:(its.map a3d).flatten.length≤700000000) (hb:∀ i∈its,(a1r i).length≤800000000) (hck:∀ i∈its,∀ g,R a4w [.agg (itr i)] g=some (.int .i64 (itE i),g)) :
  ∃ d',R b1M [.agg (svr n dm dq)] h=some (.tup [d',.int .i64 (stE n ms its)],h)∧SlOf 1 byr (if stE n ms its=0 then b2D n ms its else []) d':=by
 suffices Wp (R b1M [.agg (svr n dm dq)] h) (fun p=>p.2=h∧∃ d',p.1 = .tup [d',.int .i64 (stE n ms its)]∧SlOf 1 byr (if stE n ms its=0 then b2D n ms its else []) d') by
  obtain ⟨⟨x,h'⟩,h1,rfl,d',rfl,h2⟩:=this
  exact ⟨d',h1,h2⟩
 have hlq:=a6M hq
 have hil:=a6g a3d 8 its fun a _=>by rw [a4X];omega
 have hchk:=c3W n ms its.length dm dq h hm hlq (by omega)
 have nils:∀ (g:Hp) (e:Int),h.length≤g.length→(∀ q,q<h.length→g[q]?=h[q]?)→scope h g (.tup [.nils,.int .i64 e])=some (.tup [.nils,.int .i64 e],h):=fun g e hg hk =>
  a1y (by simp) (.tup _ fun d hd=>by simp at hd;rcases hd with rfl | rfl <;> constructor) hg hk
 rw [c5Q]
 simp only [c2c,a2h,svl,bs,hchk,a0x,d0B,a2g]
 by_cases hc:stC n ms its.length=0
 case neg =>
  have hE:stE n ms its=stC n ms its.length:=by unfold stE;rw [if_neg hc]
  have hcc:decide (stC n ms its.length≠0)=true:=decide_eq_true hc
  simp only [hcc,a0c,if_true,nils h _ (Nat.le_refl _) (fun _ _=>rfl)]
  exact .some ⟨rfl,.nils,by rw [hE],by rw [if_neg (by rw [hE];exact hc)];exact .nils _ _⟩
 have hE:stE n ms its=a9o its:=by unfold stE;rw [if_pos hc]
 have hcc:decide (stC n ms its.length≠0)=false:=decide_eq_false (by rw [hc];simp [-bind_some])
 have h1000:ms.length≤1000:=by
  unfold stC at hc
  split at hc
  ·cases hc
  split at hc
  ·cases hc
  split at hc
  ·cases hc
  split at hc
  ·cases hc
  ·omega
 have g0:(a0J h ty5 1 (magS.map byr))[h.length]?=some (.row ty5 1 (magS.map byr)):=a1I _ _ _ _
 have o0:Own (a0J h ty5 1 (magS.map byr)) h.length ty5 1 (magS.map byr) (.msl 1 h.length 0 4) := .inr ⟨h.length,Nat.le_refl _,rfl,g0⟩
 have l0:h.length≤(a0J h ty5 1 (magS.map byr)).length:=by simp [-bind_some, a0J]
 have k0:∀ q,q<h.length→(a0J h ty5 1 (magS.map byr))[q]?=h[q]?:=fun q hq=>a1c _ _ _ _ hq
 simp only [hcc,a0c,d0C,if_false,b0v,b2M,b7z,b7V,bs,c3v g0,sv0,sv1,c4D,a6L,a3g hm]
 generalize a0J h ty5 1 (magS.map byr)=G0 at *
 have B0:Bw h.length h .nils G0 magS (.msl 1 h.length 0 4):=⟨o0,l0,fun q hq _=>k0 q hq,fun q hq => .inr (o0.lt hq).1⟩
 refine b8d B0 l0 (a1e _ _ _ _) (by simp [-bind_some, magS]) fun d1 g1 B1 n1=>?_
 simp only [bs]
 refine b0C B1 n1 n (by simp [-bind_some, magS]) fun d2 g2 B2 n2=>?_
 simp only [bs]
 refine b5K B2 n2 _ (by simp [-bind_some, magS,a1X]) fun d3 g3 B3 n3=>?_
 rw [← c0s] at B3
 simp only [a2j,bs,d0B]
 generalize hA:magS++[0,0,0,0]++pI n++pN ms.length=A at B3
 have hAl:A.length=20:=by rw [← hA];simp [-bind_some, magS,a1X,a2L]
 -- the marks
 refine Wp.loop (fun k ds g=>h.length≤g.length∧∃ d' a b,∃ i:Nat,ds=[d',a,.int .i64 i,b]∧k+i=ms.length∧Bw h.length h .nils g (A++((ms.take i).map mkB).flatten) d')
  (fun r=>r.1 = .ext 0∧h.length≤r.2.2.length∧∃ d' a b c,r.2.1=[d',a,b,c]∧Bw h.length h .nils r.2.2 (A++(ms.map mkB).flatten) d') ms.length ⟨n3,_,_,_,0,rfl,rfl,by simpa using B3⟩ ?_ ?_
 ·rintro k ds g ⟨hg,d',a,b,i,rfl,hk,B⟩
  simp only [b0V,a0f,a0j,bs,d0B,a0o]
  refine Wp.dif ?_ ?_
  ·intro h0
   have h0:i<ms.length:=dl_ h0
   obtain ⟨x,hx⟩:=gx_ h0
   have hw:=wi_ i (by omega)
   have hml:=a6O (ms.take i)
   have hml2:(ms.take i).length≤1000:=by simp;omega
   simp only [a6K hm,Int.natCast_nonneg,if_true,d0K,hx,Option.map_some,bs,b8C,b5v,b5w,b1Z,b5x,b2a]
   refine b0C B hg _ (by rw [d0G,hml];omega) fun d4 g4 B4 n4=>?_
   simp only [bs]
   refine b0C B4 n4 _ (by simp only [d0G,hml,a1X];omega) fun d5 g5 B5 n5=>?_
   simp only [a2j,bs,a0r,hw]
   refine .some (.inl ⟨rfl,k - 1,by omega,n5,_,_,_,i+1,rfl,by omega,?_⟩)
   rw [a1w mkB hx]
   simpa [-bind_some, mkB] using B5
  ·intro h0
   have h0:i=ms.length:=by
    have:¬ (i:Int)<ms.length:=by simpa using h0
    omega
   subst h0
   rw [d0Z] at B
   exact .some (.inr ⟨by simp,rfl,hg,_,_,_,_,rfl,B⟩)
 rintro ⟨ex,ds,g4⟩ ⟨rfl,n4,d4,a,b,c,rfl,B4⟩
 simp only at n4 B4
 have hml:=a6O ms
 simp only [a0p,a0n,bs,a0f,a0j,sv2,c0f,hlq,d0B]
 refine b5K B4 n4 _ (by rw [d0G,hml];omega) fun d5 g5 B5 n5=>?_
 rw [← c0s] at B5
 simp only [bs,d0B]
 generalize hA2:A++(ms.map mkB).flatten++pN its.length=A2 at B5
 have hA2l:A2.length≤16024:=by rw [← hA2];simp only [d0G,hml,a2L];omega
 refine Wp.loop (fun k ds g=>h.length≤g.length∧∃ d' a3 a4 a5 a7 a8,∃ i:Nat,ds=[.nils,.int .i64 0,d',a3,a4,a5,.int .i64 i,a7,a8]∧k+i=its.length∧a9o (its.take i)=0∧Bw h.length h .nils g (A2++((its.take i).map a3d).flatten) d')
  (fun r=>h.length≤r.2.2.length∧(∀ q,q<h.length→r.2.2[q]?=h[q]?)∧((r.1 = .ext 2∧a9o its=0∧∃ d' a0 a1 a3 a4 a5 a6 a7 a8,r.2.1=[a0,a1,d',a3,a4,a5,a6,a7,a8]∧Bw h.length h .nils r.2.2 (A2++(its.map a3d).flatten) d')∨(r.1 = .ret∧a9o its≠0∧nth 0 r.2.1 = .nils∧nth 1 r.2.1 = .int .i64 (a9o its)))) its.length ⟨n5,_,_,_,_,_,_,0,rfl,rfl,rfl,by simpa using B5⟩ ?_ ?_
 ·rintro k ds g ⟨hg,d',a3,a4,a5,a7,a8,i,rfl,hk,hz,B⟩
  simp only [b0W,a0f,a0j,bs,d0B,a0o]
  refine Wp.dif ?_ ?_
  ·intro h0
   have h0:i<its.length:=dl_ h0
   obtain ⟨x,hx⟩:=gx_ h0
   have hxm:=d0P hx
   have hw:=wi_ i (by omega)
   obtain ⟨e1,e2⟩:=a9p its i x hz hx
   obtain ⟨de,ee,he⟩:=c7b x (itE x) g (hck x hxm) (hb x hxm)
   simp only [b5b hq,Int.natCast_nonneg,if_true,d0K,hx,Option.map_some,bs,c7W,c2r,ee,a1G,d0E,d0F,a0x]
   by_cases hxe:itE x=0
   ·have hdd:decide (itE x≠0)=false:=decide_eq_false (by rw [hxe];simp [-bind_some])
    rw [if_pos hxe] at he
    have hle:=a8i a3d its (i+1)
    rw [a1w a3d hx,d0G] at hle
    simp only [hdd,a0c,d0C,if_false]
    refine b8d B hg (a6l (.inl he)) (by simp only [d0G];omega) fun d6 g6 B6 n6=>?_
    simp only [bs,a0r,hw]
    refine .some (.inl ⟨rfl,k - 1,by omega,n6,_,_,_,_,_,_,i+1,rfl,by omega,e2 hxe,?_⟩)
    rw [a1w a3d hx]
    simpa using B6
   ·have hdd:decide (itE x≠0)=true:=decide_eq_true hxe
    simp only [hdd,a0c,if_true]
    exact .some (.inr ⟨by simp,hg,fun q hq=>B.old q hq (a9z q),.inr ⟨rfl,by rw [e1 hxe];exact hxe,rfl,by rw [e1 hxe];rfl⟩⟩)
  ·intro h0
   have h0:i=its.length:=by
    have:¬ (i:Int)<its.length:=by simpa using h0
    omega
   subst h0
   rw [d0Z] at B hz
   exact .some (.inr ⟨by simp,hg,fun q hq=>B.old q hq (a9z q),.inl ⟨rfl,hz,_,_,_,_,_,_,_,_,_,rfl,B⟩⟩)
 rintro ⟨ex,ds,g⟩ ⟨hg,hk,hcs⟩
 simp only at hg hk
 rcases hcs with ⟨rfl,hz,d',a0,a1,a3,a4,a5,a6,a7,a8,rfl,B⟩ | ⟨rfl,hz,hn0,hn1⟩
 case inr =>
  simp only [a2B,a2A,a2r,a0f,a0j,hn0,hn1,bs,nils g _ hg hk]
  exact .some ⟨rfl,.nils,by rw [hE],by rw [if_neg (by rw [hE];exact hz)];exact .nils _ _⟩
 simp only at B
 rw [hE,hz,if_pos rfl]
 -- the length written over the noughts
 have hbody:A2++(its.map a3d).flatten=magS++[0,0,0,0]++a1l n ms its:=by rw [← hA2,← hA];simp [-bind_some, a1l]
 rw [hbody] at B
 have hbl:=a6u n ms its
 obtain ⟨o,ho,hd',go⟩:=b2i B.ow (i:=0) (by simp [-bind_some, magS])
 have hlen:((magS++[0,0,0,0]++a1l n ms its).map byr).length=8+(a1l n ms its).length:=by simp [-bind_some, magS];omega
 rw [hlen] at hd'
 subst hd'
 have hsl:a0w tab a0G true false false [.msl 1 o 0 (8+(a1l n ms its).length),.int .i64 4]=some (.msl 1 o 4 (4+(a1l n ms its).length)):=by
  have:=c3A (T:=tab) (t:=a0G) (e:=ty5) (z:=1) (o:=o) (r:=0) (n:=8+(a1l n ms its).length) (i:=ti22) (j:=ti5) (id rfl) (id rfl) (id rfl) (id rfl) (by omega) (k := .i64) (m:=4) (by omega) (by omega)
  rw [show 0+4=4 from rfl,show 8+(a1l n ms its).length - 4=4+(a1l n ms its).length by omega] at this
  exact this
 have hw72:IntKind.wrap .i64 (((8+(a1l n ms its).length:Nat):Int) - 8)=((a1l n ms its).length:Int):=by rw [wrap_i64 (by omega) (by omega)];omega
 simp only [a0p,a0n,bs,a0f,a0j,hsl,b1U,a0z,hw72,d0B]
 obtain ⟨dl,gl',el,Bl⟩:=b7I ((a1l n ms its).length:Int) 4 (by omega) g.length g [] .nils (Nat.le_refl _) (Own.nils _ _ _ _) (by simp)
 have el:R a3p [.nils,.int .i64 ((a1l n ms its).length:Int),.int .i64 4] g=some (dl,gl'):=el
 rw [← c0s,List.nil_append] at Bl
 have hog:=(d0R.1 go).1
 have go1:gl'[o]?=some (.row ty5 1 ((magS++[0,0,0,0]++a1l n ms its).map byr)):=by rw [Bl.old o hog (a9z o)];exact go
 obtain ⟨g7,c7,ec,go7,s7⟩:=c4R (p:=magS) (q:=[0,0,0,0]) (m:=pN (a1l n ms its).length) (r:=a1l n ms its) go1 (a6l (.own Bl.ow)) (by rw [a2L];rfl)
 have ec:a6y tab gl' a0G a0G (.msl 1 o 4 (4+(a1l n ms its).length)) dl=some (c7,g7):=by
  rw [← ec];congr 1;simp [-bind_some, magS];omega
 have ow7:Own g7 h.length ty5 1 ((a3j (a1l n ms its)).map byr) (.msl 1 o 0 (8+(a1l n ms its).length)) := .inr ⟨o,ho,by simp [-bind_some, a3j,magS,a2L];omega,go7⟩
 have ekc:=c3X (a3j (a1l n ms its)) (.msl 1 o 0 (8+(a1l n ms its).length)) g7 (.own ow7) (by rw [a5i];omega) (b1P (b1e _ _ _))
 have n7:h.length≤g7.length:=by rw [s7.1];exact Nat.le_trans hg Bl.len
 have k7:∀ q,q<h.length→g7[q]?=h[q]?:=fun q hq=>by rw [s7.2 q (by omega),Bl.old q (by omega) (a9z q)];exact hk q hq
 obtain ⟨d8,g8,e8,B8⟩:=b7I (a2T (a3j (a1l n ms its))) 4 (by omega) h.length g7 _ _ n7 ow7 (by rw [a5i];omega)
 have e8:R a3p [.msl 1 o 0 (8+(a1l n ms its).length),.int .i64 (a2T (a3j (a1l n ms its))),.int .i64 4] g7=some (d8,g8):=e8
 simp only [el,bs,ec,ekc,e8]
 have hfin:a3j (a1l n ms its)++a4o 4 (a2T (a3j (a1l n ms its)))=b2D n ms its:=rfl
 rw [hfin] at B8
 have hso:=a3h (n0:=h.length) (n:=2) B8.ow (Nat.le_refl _) (fun a _=>a7T _ g8 2 a)
 rw [a1y (d' := .tup [frz h.length g8 3 d8,.int .i64 0]) (by simp) (by
  refine .tup _ fun d hd=>?_
  simp at hd
  rcases hd with rfl | rfl
  ·exact a1Q hso fun a _=>a8K _ a
  ·constructor) (Nat.le_trans n7 B8.len) (fun q hq=>by rw [B8.low ow7 n7 q hq];exact k7 q hq)]
 exact .some ⟨rfl,_,rfl,hso⟩
theorem c7e (j:List Int) (n:Int) (ms:List FM) (its:List It) (dj dm dq:D) (h:Hp) (hj:SlOf 1 byr j dj) (hjl:j.length≤1000000000) (hm:SlOf 2 mkr ms dm) (hq:SlOf 11 itr its dq) (hl:ms.length≤1000000) (hT:(its.map a3d).flatten.length≤700000000) (hb:∀ i∈its,(a1r i).length≤800000000) (hck:∀ i∈its,∀ g,R a4w [.agg (itr i)] g=some (.int .i64 (itE i),g)) :
  ∃ d',R a5g [dj,.agg (svr n dm dq)] h=some (.tup [d',.int .i64 (stE n ms its)],h)∧SlOf 1 byr (if stE n ms its=0 then j++b2D n ms its else []) d':=by
 obtain ⟨d1,e1,h1⟩:=c7g n ms its dm dq h hm hq hl hT hb hck
 have hel:=a4Y n ms its
 rw [c5L]
 simp only [c1X,a2h,bs,svl,e1,a1G,d0E,d0F,a0x]
 by_cases hc:stE n ms its=0
 case neg =>
  have hcc:decide (stE n ms its≠0)=true:=decide_eq_true hc
  refine ⟨.nils,?_,by rw [if_neg hc];exact .nils _ _⟩
  simp only [hcc,a0c,if_true,a2g]
  exact a1y (by simp) (.tup _ fun d hd=>by simp at hd;rcases hd with rfl | rfl <;> constructor) (Nat.le_refl _) fun _ _=>rfl
 have hcc:decide (stE n ms its≠0)=false:=decide_eq_false (by rw [hc];simp [-bind_some])
 rw [if_pos hc] at h1 ⊢
 rw [hc] at hcc ⊢
 suffices Wp ((a0A tab h a0G a0G .nils dj).bind fun p17=>(a0A tab p17.2 a0G a0G p17.1 d1).bind fun p19=>scope h p19.2 (a0i [p19.1,.int .i64 0])) (fun p=>p.2=h∧∃ d',p.1 = .tup [d',.int .i64 0]∧SlOf 1 byr (j++b2D n ms its) d') by
  obtain ⟨⟨x,h'⟩,h1,rfl,d',rfl,h2⟩:=this
  refine ⟨d',?_,h2⟩
  simp only [hcc,a0c,d0C,if_false]
  exact h1
 refine b7S (n0:=h.length) (rows:=[]) (Nat.le_refl _) (.nils _ _ _ _) (a5p _ hj) (by simp only [d0H,d0T];omega) fun x4 g4 o4 l4 k4 _ _=>?_
 rw [List.nil_append] at o4
 simp only [bs]
 refine b7S (n0:=h.length) l4 o4 (a5p _ h1) (by simp only [d0H];omega) fun x5 g5 o5 l5 k5 _ _=>?_
 rw [← d0I] at o5
 simp only [bs,a2g]
 have hso:=a3h (n0:=h.length) (n:=2) o5 (Nat.le_refl _) (fun a _=>a7T _ g5 2 a)
 rw [a1y (d' := .tup [frz h.length g5 3 x5,.int .i64 0]) (by simp) (by
  refine .tup _ fun d hd=>?_
  simp at hd
  rcases hd with rfl | rfl
  ·exact a1Q hso fun a _=>a8K _ a
  ·constructor) (by omega) (fun q hq=>by rw [k5 q hq,k4 q hq])]
 exact .some ⟨rfl,_,rfl,hso⟩
def CuP (g:Hp) (oc:Nat) (s:Cur):Prop:=∃ d,g[oc]?=some (.row a1g 2 [[d,.bool s.2]])∧SlOf 1 byr s.1 d∧(∀ z∈s.1,U8 z)∧s.1.length≤1000000000
theorem b3M {g:Hp} {oc:Nat} {d:D} {b:Bool} (h:g[oc]?=some (.row a1g 2 [[d,.bool b]])):a0d tab g a0G (.ptr oc 0 (0+0))=some d∧a0d tab g ty4 (.ptr oc 0 (0+1))=some (.bool b):=⟨by rw [c0i,a0I h];rfl,by rw [c7X,a0I h];rfl⟩
theorem b1k {g:Hp} {oc:Nat} {d:D} {b:Bool} (h:g[oc]?=some (.row a1g 2 [[d,.bool b]])) {β:Type} {f:Hp→Option β} {Q:β→Prop} (k:∀ g',g'[oc]?=some (.row a1g 2 [[d,.bool true]])→Same oc g g'→Wp (f g') Q):Wp ((a0q tab g ty4 (.ptr oc 0 (0+1)) (.bool true)).bind f) Q :=
 c7F (kk:=0) (row:=[d,.bool b]) h (by rfl) (by rfl) (by simp) (by rfl) fun g' p s=>k g' p s
theorem c2z {g:Hp} {oc:Nat} {d d':D} {b:Bool} (h:g[oc]?=some (.row a1g 2 [[d,.bool b]])) (h1:d'.one=true) {β:Type} {f:Hp→Option β} {Q:β→Prop} (k:∀ g',g'[oc]?=some (.row a1g 2 [[d',.bool b]])→Same oc g g'→Wp (f g') Q):Wp ((a0q tab g a0G (.ptr oc 0 (0+0)) d').bind f) Q :=
 c0Z (kk:=0) (row:=[d,.bool b]) h (by rfl) (by rw [(a0E h1).1];rfl) (by simp) (a0E h1).2 fun g' p s=>k g' (by rw [(a0E h1).1] at p;exact p) s
theorem c2v {g:Hp} {oc:Nat} {s:Cur} (hc:CuP g oc s) (n:Nat) (hn:n≤8):∃ g',R a3N [.ptr oc 0 0,.int .i64 n] g=some (.int .i64 (IntKind.wrap .i64 (num (a0V s n).1)),g')∧CuP g' oc (a0V s n).2∧Same oc g g':=by
 suffices Wp (R a3N [.ptr oc 0 0,.int .i64 n] g) (fun p=>p.1 = .int .i64 (IntKind.wrap .i64 (num (a0V s n).1))∧CuP p.2 oc (a0V s n).2∧Same oc g p.2) by
  obtain ⟨⟨x,h'⟩,h1,rfl,h2⟩:=this
  exact ⟨h',h1,h2⟩
 obtain ⟨d,ho,hd,hu,hl⟩:=hc
 obtain ⟨l1,l2⟩:=b3M ho
 obtain ⟨b,bad⟩:=s
 simp only at ho hd hu hl l2
 have h00:IntKind.wrap .i64 (num [])=0:=rfl
 rw [c5Z]
 simp only [c2l,bs,a0k,a3o,a2U,l1,l2,a1H hd,a0s,d0B,a0v]
 by_cases hb:bad=true
 ·subst hb
  have ht:a0V (b,true) n=([],(b,true)):=by simp [-bind_some, a0V]
  rw [ht]
  simp only [reduceCtorEq,d0D,if_false,bs,a0g,if_true,a0c,a0s]
  refine b1k ho fun g' p s=>?_
  simp only [bs,a0h,h00]
  exact .some ⟨rfl,⟨d,p,hd,hu,hl⟩,s⟩
 have hb:bad=false:=by simpa using hb
 subst hb
 by_cases hn2:b.length<n
 ·have hn3:(n:Int)>(b.length:Int):=by omega
  have ht:a0V (b,false) n=([],(b,true)):=by unfold a0V;rw [if_pos (.inr (.inr (by simp only;omega)))]
  rw [ht]
  simp only [if_true,bs,a0v,hn3,decide_true,d0C,if_false,a0g,a0c,a0k,a3o,a2U,l1,a1H hd,d0B]
  refine b1k ho fun g' p s=>?_
  simp only [bs,a0h,h00]
  exact .some ⟨rfl,⟨d,p,hd,hu,hl⟩,s⟩
 ·have hn3:¬ (n:Int)>(b.length:Int):=by omega
  have ht:a0V (b,false) n=(b.take n,(b.drop n,false)):=by
   unfold a0V
   rw [if_neg (by
    rintro (hh | hh | hh)
    ·cases hh
    ·omega
    ·simp only at hh;omega)]
   simp [-bind_some]
  rw [ht]
  obtain ⟨dt,et,st⟩:=b0H hd (k := .i64) (n:=(n:Int)) (by omega) (by omega)
  obtain ⟨dr,er,sr⟩:=c0D hd (k := .i64) (n:=(n:Int)) (by omega) (by omega)
  rw [d0K] at st sr
  have eg:=c0B (b.take n) dt g st (by simp;omega) (fun z hz=>hu z (List.mem_of_mem_take hz))
  simp only [if_true,bs,a0v,hn3,decide_false,d0C,if_false,a0g,a0c,a0k,a3o,a2U,l1,a1H hd,et,eg,er,d0B]
  refine c2z ho (a2k sr) fun g' p s=>?_
  simp only [bs,a0h]
  exact .some ⟨rfl,⟨dr,p,sr,fun z hz=>hu z (List.mem_of_mem_drop hz),by simp;omega⟩,s⟩
theorem b9C (l:List Int) (d:D) (h:Hp) (hd:SlOf 1 byr l d) (hl:l.length≤1000000000) (hu:∀ z∈l,U8 z) :
  ∃ j:It,R a9f [d] h=some (.tup [.agg (itr j),.int .i64 (a6e l).2.1,.int .i64 (a6e l).1],h)∧a2c j=(a6e l).2.2 :=
 c7c l d (ckR (a1s ((l.take (num (l.take 4)).toNat).drop 4,false))) h hd hl hu fun j hj g=>by
  rw [← hj,b8i];exact b8Q j g
noncomputable def itS (s:Cur):RI × Cur:=if s.2=true∨(a6e s.1).1≠0 then (a2c zit,(s.1,true)) else ((a6e s.1).2.2,(s.1.drop (a6e s.1).2.1.toNat,false))
theorem b3S (l:List Int) (h:(a6e l).1=0):0≤(a6e l).2.1∧(a6e l).2.1≤l.length:=by
 obtain ⟨a,b,_⟩:=b9z h
 omega
theorem c4O {g:Hp} {oc:Nat} {s:Cur} (hc:CuP g oc s):∃ j g',R b1O [.ptr oc 0 0] g=some (.agg (itr j),g')∧a2c j=(itS s).1∧CuP g' oc (itS s).2∧Same oc g g':=by
 suffices Wp (R b1O [.ptr oc 0 0] g) (fun p=>∃ j,p.1 = .agg (itr j)∧a2c j=(itS s).1∧CuP p.2 oc (itS s).2∧Same oc g p.2) by
  obtain ⟨⟨x,h'⟩,h1,j,rfl,h2⟩:=this
  exact ⟨j,h',h1,h2⟩
 obtain ⟨d,ho,hd,hu,hl⟩:=hc
 have hlt:=(d0R.1 ho).1
 have hz74:([.str [],.int .i64 0,.int .i64 0,.int .i64 0,.int .i64 0,.nils,.int .i64 0,.int .i64 0,.str [],.str [],.nils]:List D)=itr zit:=rfl
 have hbz:a0D tab a0P [] []=some (.agg (itr zit)):=id rfl
 have a0:(a0J g a0P 11 [itr zit])[g.length]?=some (.row a0P 11 [itr zit]):=a1I _ _ _ _
 have k0:∀ q,q<g.length→(a0J g a0P 11 [itr zit])[q]?=g[q]?:=fun q hq=>a1c _ _ _ _ hq
 have l0:(a0J g a0P 11 [itr zit]).length=g.length+1:=by simp [-bind_some, a0J]
 rw [c6a]
 simp only [c2m,hz74,bs,a0k,a3o,a2U,d0B]
 generalize a0J g a0P 11 [itr zit]=g1 at *
 have ho1:g1[oc]?=some (.row a1g 2 [[d,.bool s.2]]):=by rw [k0 oc hlt];exact ho
 obtain ⟨l1,l2⟩:=b3M ho1
 obtain ⟨j,ej,hj⟩:=b9C s.1 d g1 hd hl hu
 simp only [l1,ej,bs,a1G,d0E,d0F,c2r,l2,a0s,a0x]
 -- the end: the result's variable holds j, the cursor this
 have fin:∀ (g3:Hp) (j:It) (dd:D) (s':Cur),g3[oc]?=some (.row a1g 2 [[dd,.bool s'.2]])→SlOf 1 byr s'.1 dd→(∀ z∈s'.1,U8 z)→s'.1.length≤1000000000→g3[g.length]?=some (.row a0P 11 [itr zit])→g3.length=g.length+1→(∀ q,q<g.length→q≠oc→g3[q]?=g[q]?)→a2c j=(itS s).1→s'=(itS s).2 →
   Wp ((a0q tab g3 a0P (.ptr g.length 0 0) (.agg (itr j))).bind fun h'=>(a0d tab h' a0P (.ptr g.length 0 0)).bind fun d0=>scope g h' (a0i [d0])) (fun p=>∃ j,p.1 = .agg (itr j)∧a2c j=(itS s).1∧CuP p.2 oc (itS s).2∧Same oc g p.2):=by
  intro g3 j dd s' q1 q2 q3 q4 q5 q6 q7 q8 q9
  refine b3o (kk:=0) (off:=0) (row:=itr zit) (v := .agg (itr j)) q5 (by rfl) (by rfl) (by exact Nat.le_refl _) (b4Z _) fun g4 p4 s4=>?_
  have p4:g4[g.length]?=some (.row a0P 11 [itr j]):=p4
  have ld:a0d tab g4 a0P (.ptr g.length 0 0)=some (.agg (itr j)):=by rw [b2K,a0I p4];rfl
  have r4:g4[oc]?=some (.row a1g 2 [[dd,.bool s'.2]]):=by rw [s4.2 oc (by omega)];exact q1
  have G:Grow g.length oc g g4:=⟨by rw [s4.1];omega,fun q hq hne=>by rw [s4.2 q (by omega)];exact q7 q hq hne⟩
  obtain ⟨c1,c2,c3⟩:=a7B (h:=g) (h2:=g4) (d := .agg (itr j)) (d' := .agg (itr j)) (o:=oc) (by rw [b0k,a2J fun d hd=>a6J g.length g4 2 j d hd]) (a9n _ _) G (fun T sz rows hr row hrow x hx=>by
   rw [r4] at hr
   injection hr with hr
   injection hr with _ _ hr
   subst hr
   simp at hrow
   subst hrow
   simp at hx
   rcases hx with rfl | rfl
   ·exact a1Q q2 fun a _=>a8K _ a
   ·constructor)
  simp only [ld,bs,a0h,c1]
  refine .some ⟨j,rfl,q8,?_,c2⟩
  rw [← q9]
  exact ⟨dd,by rw [c3 oc hlt];exact r4,q2,q3,q4⟩
 cases hb:s.2 with
 | true =>
  have hi:itS s=(a2c zit,(s.1,true)):=by unfold itS;rw [if_pos (.inl hb)]
  rw [hb] at ho1
  simp only [reduceCtorEq,d0D,if_false,bs,a0g,if_true,a0c]
  refine b1k ho1 fun g2 p2 s2=>?_
  simp only [bs,hbz]
  exact fin g2 zit d (s.1,true) p2 hd hu hl (by rw [s2.2 _ (by omega)];exact a0) (by rw [s2.1];exact l0) (fun q hq hne=>by rw [s2.2 q hne];exact k0 q hq) (by rw [hi]) (by rw [hi])
 | false =>
  rw [hb] at ho1
  simp only [if_true,bs,a0x,a0g,d0C,if_false]
  by_cases he:(a6e s.1).1=0
  ·have hi:itS s=((a6e s.1).2.2,(s.1.drop (a6e s.1).2.1.toNat,false)):=by unfold itS;rw [if_neg fun hh=>hh.elim (fun hh=>by rw [hb] at hh;cases hh) fun hh=>hh he]
   have hd0:decide ((a6e s.1).1≠0)=false:=decide_eq_false (by rw [he];simp [-bind_some])
   obtain ⟨z0,z1⟩:=b3S s.1 he
   obtain ⟨dr,er,sr⟩:=c0D hd (k := .i64) (n:=(a6e s.1).2.1) z0 z1
   simp only [hd0,a0c,d0C,if_false,l1,er,bs]
   refine c2z ho1 (a2k sr) fun g2 p2 s2=>?_
   simp only [bs,c7W]
   exact fin g2 j dr (s.1.drop (a6e s.1).2.1.toNat,false) p2 sr (fun z hz=>hu z (List.mem_of_mem_drop hz)) (by simp;omega) (by rw [s2.2 _ (by omega)];exact a0) (by rw [s2.1];exact l0) (fun q hq hne=>by rw [s2.2 q hne];exact k0 q hq) (by rw [hi];exact hj) (by rw [hi])
  ·have hi:itS s=(a2c zit,(s.1,true)):=by unfold itS;rw [if_pos (.inr he)]
   have hd0:decide ((a6e s.1).1≠0)=true:=decide_eq_true he
   simp only [hd0,a0c,if_true]
   refine b1k ho1 fun g2 p2 s2=>?_
   simp only [bs,hbz]
   exact fin g2 zit d (s.1,true) p2 hd hu hl (by rw [s2.2 _ (by omega)];exact a0) (by rw [s2.1];exact l0) (fun q hq hne=>by rw [s2.2 q hne];exact k0 q hq) (by rw [hi]) (by rw [hi])
def a5m:Nat→Cur→List FM × Cur
 | 0,s=>([],s)
 | n+1,s=>if s.2=true then ([],s) else (((a1d s).1,(a1d (a1d s).2).1)::(a5m n (a1d (a1d s).2).2).1,(a5m n (a1d (a1d s).2).2).2)
noncomputable def qsS:Nat→Cur→List RI × Cur
 | 0,s=>([],s)
 | n+1,s=>if s.2=true then ([],s) else ((itS s).1::(qsS n (itS s).2).1,(qsS n (itS s).2).2)
theorem b7B (n:Nat) (s:Cur) (h:s.2=true):a5m n s=([],s):=by
 cases n with
 | zero=>rfl
 | succ n=>simp [-bind_some, a5m,h]
theorem c0u (n:Nat) (s:Cur) (h:s.2=true):qsS n s=([],s):=by
 cases n with
 | zero=>rfl
 | succ n=>simp [-bind_some, qsS,h]
theorem b2c:∀ (n:Nat) (s:Cur),(a5m n s).1.length≤n
 | 0,s=>Nat.le_refl _
 | n+1,s=>by
  unfold a5m
  split
  ·simp [-bind_some]
  ·have:=b2c n (a1d (a1d s).2).2
   simp only [d0S];omega
theorem b5P:∀ (n:Nat) (s:Cur),(qsS n s).1.length≤n
 | 0,s=>Nat.le_refl _
 | n+1,s=>by
  unfold qsS
  split
  ·simp [-bind_some]
  ·have:=b5P n (itS s).2
   simp only [d0S];omega
structure DcP (h g:Hp) (row:List D) (s:Cur):Prop where
 r0:g[h.length]?=some (.row a0m 3 [svr 0 .nils .nils])
 cu:CuP g (h.length+1) s
 st:g[h.length+2]?=some (.row a0m 3 [row])
 lo:∀ q,q<h.length→g[q]?=h[q]?
theorem DcP.ln {h g:Hp} {row:List D} {s:Cur} (P:DcP h g row s):h.length+3≤g.length:=by have:=(d0R.1 P.st).1;omega
theorem DcP.cur {h g g':Hp} {row:List D} {s s':Cur} (P:DcP h g row s) (hc:CuP g' (h.length+1) s') (hs:Same (h.length+1) g g'):DcP h g' row s' :=
 ⟨by rw [hs.2 _ (by omega)];exact P.r0,hc,by rw [hs.2 _ (by omega)];exact P.st,fun q hq=>by rw [hs.2 q (by omega)];exact P.lo q hq⟩
theorem DcP.keep {h g g':Hp} {row:List D} {s:Cur} (P:DcP h g row s) (hk:∀ q,q<h.length+3→g'[q]?=g[q]?):DcP h g' row s:=by
 obtain ⟨d,h1,h2⟩:=P.cu
 exact ⟨by rw [hk _ (by omega)];exact P.r0,⟨d,by rw [hk _ (by omega)];exact h1,h2⟩,by rw [hk _ (by omega)];exact P.st,fun q hq=>by rw [hk q (by omega)];exact P.lo q hq⟩
theorem DcP.sta {h g g':Hp} {row row':List D} {s:Cur} (P:DcP h g row s) (hp:g'[h.length+2]?=some (.row a0m 3 [row'])) (hs:Same (h.length+2) g g'):DcP h g' row' s:=by
 obtain ⟨d,h1,h2⟩:=P.cu
 exact ⟨by rw [hs.2 _ (by omega)];exact P.r0,⟨d,by rw [hs.2 _ (by omega)];exact h1,h2⟩,hp,fun q hq=>by rw [hs.2 q (by omega)];exact P.lo q hq⟩
theorem DcP.own {h g g':Hp} {row:List D} {s:Cur} {e z o:Nat} {rows:List (List D)} {d:D} (ow:Own g (h.length+3) e z rows d) (ho:o<h.length+3) (hs:Same o g g'):Own g' (h.length+3) e z rows d:=ow.same hs ho
theorem c6K {g:Hp} {oc:Nat} {s:Cur} (hc:CuP g oc s):∃ g',R a3N [.ptr oc 0 0,.int .i64 8] g=some (.int .i64 (a1d s).1,g')∧CuP g' oc (a1d s).2∧Same oc g g':=c2v hc 8 (by omega)
theorem c3B {g:Hp} {oc:Nat} {s:Cur} (hc:CuP g oc s):∃ g',R a3N [.ptr oc 0 0,.int .i64 4] g=some (.int .i64 (a2b s).1,g')∧CuP g' oc (a2b s).2∧Same oc g g':=c2v hc 4 (by omega)
theorem b1T {s:Cur} (hu:∀ z∈s.1,U8 z):∃ n:Nat,(a2b s).1=n∧n<4294967296:=by
 have hl:=a5q s 4
 obtain ⟨k,hk⟩:∃ k,(a0V s 4).1.length=k:=⟨_,rfl⟩
 obtain ⟨a,b⟩:=a2K k _ hk (a6n hu 4).1
 have hb:num (a0V s 4).1<4294967296:=by
  have hl':k≤4:=by rw [← hk];exact hl
  have:k=0∨k=1∨k=2∨k=3∨k=4:=by omega
  rcases this with rfl | rfl | rfl | rfl | rfl <;> omega
 refine ⟨(num (a0V s 4).1).toNat,?_,by omega⟩
 show IntKind.wrap .i64 (num (a0V s 4).1)=_
 rw [wrap_i64 (by omega) (by omega)];omega
theorem b9x {h:Hp} {a:Int} {N:Nat} (hN:N<4294967296) {s0:Cur} {p7:D × Hp} (hp7:p7.1 = .ptr (h.length+2) 0 0) {g:Hp} (P:DcP h g (svr a .nils .nils) s0) (x:D) {β:Type} {K:Out→Option β} {Q:β→Prop}
  (k:∀ g' dm b c,DcP h g' (svr a dm .nils) (a5m N s0).2→Own g' (h.length+3) a1f 2 ((a5m N s0).1.map mkr) dm→Wp (K (.ext 0,[b,c],g')) Q) :
  Wp ((a0K (a7R (.ptr (h.length+1) 0 0) p7) [.int .i64 N,x] g).bind K) Q:=by
 refine Wp.loop (fun r ds g=>∃ y dm,∃ s:Cur,∃ L:List FM,ds=[.int .i64 r,y]∧r+L.length≤N∧DcP h g (svr a dm .nils) s∧Own g (h.length+3) a1f 2 (L.map mkr) dm∧L++(a5m r s).1=(a5m N s0).1∧(a5m r s).2=(a5m N s0).2)
  (fun r=>r.1 = .ext 0∧∃ b c dm,r.2.1=[b,c]∧DcP h r.2.2 (svr a dm .nils) (a5m N s0).2∧Own r.2.2 (h.length+3) a1f 2 ((a5m N s0).1.map mkr) dm) N ⟨_,.nils,s0,[],rfl,by simp,P,.nils _ _ _ _,rfl,rfl⟩ ?_ ?_
 ·rintro r ds g ⟨y,dm,s,L,rfl,hr,P,ow,q1,q2⟩
  obtain ⟨d,ho,hd,hu,hl⟩:=P.cu
  obtain ⟨l1,l2⟩:=b3M ho
  have stop:(s.2=true∨r=0)→a5m r s=([],s):=by
   rintro (h0 | h0)
   ·exact b7B r s h0
   ·rw [h0];rfl
  have fin:(s.2=true∨r=0)→∀ b c:D,Wp (some ((Ex.ext 0,[b,c],g):Out)) (fun x:Out=>(x.1 = .nrm∧∃ r'<r,∃ y dm,∃ s:Cur,∃ L:List FM,x.2.1=[.int .i64 r',y]∧r'+L.length≤N∧DcP h x.2.2 (svr a dm .nils) s∧Own x.2.2 (h.length+3) a1f 2 (L.map mkr) dm∧L++(a5m r' s).1=(a5m N s0).1∧(a5m r' s).2=(a5m N s0).2)∨(x.1 ≠ .nrm∧x.1 = .ext 0∧∃ b c dm,x.2.1=[b,c]∧DcP h x.2.2 (svr a dm .nils) (a5m N s0).2∧Own x.2.2 (h.length+3) a1f 2 ((a5m N s0).1.map mkr) dm)):=by
   intro h0 b c
   rw [stop h0] at q1 q2
   simp only [List.append_nil] at q1 q2
   exact .some (.inr ⟨by simp,rfl,b,c,dm,rfl,by rw [← q2];exact P,by rw [← q1];exact ow⟩)
  simp only [a7R,a0f,a0j,bs,d0B,a0v,hp7]
  by_cases hr0:r=0
  ·subst hr0
   simp only [show decide (((0:Nat):Int)>0)=false by decide,a0s,a2Y,d0C,reduceCtorEq,if_false,bs,a0g,a0c]
   exact fin (.inr rfl) _ _
  have hrp:decide ((r:Int)>0)=true:=decide_eq_true (by omega)
  simp only [hrp,a0s,if_true,bs,a0k,a2U,l2,a1D,a0g,a0c]
  cases hb:s.2 with
  | true =>
   simp only [d0L,d0C,if_false]
   exact fin (.inl hb) _ _
  | false =>
   obtain ⟨r',rfl⟩:∃ r',r=r'+1:=⟨r - 1,by omega⟩
   have hS:a5m (r'+1) s=(((a1d s).1,(a1d (a1d s).2).1)::(a5m r' (a1d (a1d s).2).2).1,(a5m r' (a1d (a1d s).2).2).2):=by simp [-bind_some, a5m,hb]
   rw [hS] at q1 q2
   have ldm:∀ {g':Hp} {s':Cur} {dq:D},DcP h g' (svr a dm dq) s'→a0d tab g' a0N (.ptr (h.length+2) 0 (0+1))=some dm:=fun P=>by rw [c0h,a0I P.st];rfl
   have P0:=P
   obtain ⟨g1,e1,c1,s1⟩:=c6K P.cu
   have P1:=P.cur c1 s1
   obtain ⟨g2,e2,c2,s2⟩:=c6K P1.cu
   have P2:=P1.cur c2 s2
   have ow2:=(ow.same s1 (by omega)).same s2 (by omega)
   have hw:IntKind.wrap .i64 (((r'+1:Nat):Int) - 1)=(r':Int):=by rw [wrap_i64 (by omega) (by omega)];omega
   simp only [d0M,if_true,b4h,ldm P0,ldm P1,ldm P2,e1,e2,bs,a7i,b1f,a2j,d0B]
   refine b6p (ys:=[mkr ((a1d s).1,(a1d (a1d s).2).1)]) (n0:=h.length+3) P2.ln ow2 (a1e _ _ _ _) (by simp;omega) fun dm' g3 ow3 l3 k3 _ _=>?_
   have P3:=P2.keep k3
   simp only [bs]
   refine c0X (kk:=0) (row:=svr a dm .nils) P3.st (by rfl) (by rw [(a0E (a2w ow3)).1];rfl) (by simp [-bind_some, svr]) (a0E (a2w ow3)).2 fun g4 p4 s4=>?_
   rw [(a0E (a2w ow3)).1] at p4
   have P4:DcP h g4 (svr a dm' .nils) _:=P3.sta p4 s4
   simp only [bs,a0z,hw]
   refine .some (.inl ⟨rfl,r',by omega,_,dm',(a1d (a1d s).2).2,L++[((a1d s).1,(a1d (a1d s).2).1)],rfl,by simp;omega,P4,?_,by simpa using q1,q2⟩)
   rw [d0I]
   exact ow3.same s4 (by omega)
 ·rintro ⟨ex,ds,g⟩ ⟨rfl,b,c,dm,rfl,P,ow⟩
  exact k g dm b c P ow
theorem b9y {h:Hp} {a:Int} {N:Nat} (hN:N<4294967296) {ms:List FM} {dm:D} {s0:Cur} {p7:D × Hp} (hp7:p7.1 = .ptr (h.length+2) 0 0) {g:Hp} (P:DcP h g (svr a dm .nils) s0) (owm:Own g (h.length+3) a1f 2 (ms.map mkr) dm) (x:D) {β:Type} {K:Out→Option β} {Q:β→Prop}
  (k:∀ g' dq (its:List It) b c,DcP h g' (svr a dm dq) (qsS N s0).2→Own g' (h.length+3) a1f 2 (ms.map mkr) dm→Own g' (h.length+3) a0P 11 (its.map itr) dq→its.map a2c=(qsS N s0).1→Wp (K (.ext 2,[b,c],g')) Q) :
  Wp ((a0K (a7S (.ptr (h.length+1) 0 0) p7) [.int .i64 N,x] g).bind K) Q:=by
 refine Wp.loop (fun r ds g=>∃ y dq,∃ s:Cur,∃ L:List It,ds=[.int .i64 r,y]∧r+L.length≤N∧DcP h g (svr a dm dq) s∧Own g (h.length+3) a1f 2 (ms.map mkr) dm∧Own g (h.length+3) a0P 11 (L.map itr) dq∧L.map a2c++(qsS r s).1=(qsS N s0).1∧(qsS r s).2=(qsS N s0).2)
  (fun r=>r.1 = .ext 2∧∃ b c dq,∃ L:List It,r.2.1=[b,c]∧DcP h r.2.2 (svr a dm dq) (qsS N s0).2∧Own r.2.2 (h.length+3) a1f 2 (ms.map mkr) dm∧Own r.2.2 (h.length+3) a0P 11 (L.map itr) dq∧L.map a2c=(qsS N s0).1) N ⟨_,.nils,s0,[],rfl,by simp,P,owm,.nils _ _ _ _,rfl,rfl⟩ ?_ ?_
 ·rintro r ds g ⟨y,dq,s,L,rfl,hr,P,owm,ow,q1,q2⟩
  obtain ⟨d,ho,hd,hu,hl⟩:=P.cu
  obtain ⟨l1,l2⟩:=b3M ho
  have stop:(s.2=true∨r=0)→qsS r s=([],s):=by
   rintro (h0 | h0)
   ·exact c0u r s h0
   ·rw [h0];rfl
  have fin:(s.2=true∨r=0)→∀ b c:D,Wp (some ((Ex.ext 2,[b,c],g):Out)) (fun x:Out=>(x.1 = .nrm∧∃ r'<r,∃ y dq,∃ s:Cur,∃ L:List It,x.2.1=[.int .i64 r',y]∧r'+L.length≤N∧DcP h x.2.2 (svr a dm dq) s∧Own x.2.2 (h.length+3) a1f 2 (ms.map mkr) dm∧Own x.2.2 (h.length+3) a0P 11 (L.map itr) dq∧L.map a2c++(qsS r' s).1=(qsS N s0).1∧(qsS r' s).2=(qsS N s0).2)∨(x.1 ≠ .nrm∧x.1 = .ext 2∧∃ b c dq,∃ L:List It,x.2.1=[b,c]∧DcP h x.2.2 (svr a dm dq) (qsS N s0).2∧Own x.2.2 (h.length+3) a1f 2 (ms.map mkr) dm∧Own x.2.2 (h.length+3) a0P 11 (L.map itr) dq∧L.map a2c=(qsS N s0).1)):=by
   intro h0 b c
   rw [stop h0] at q1 q2
   simp only [List.append_nil] at q1 q2
   exact .some (.inr ⟨by simp,rfl,b,c,dq,L,rfl,by rw [← q2];exact P,owm,ow,q1⟩)
  simp only [a7S,a0f,a0j,bs,d0B,a0v,hp7]
  by_cases hr0:r=0
  ·subst hr0
   simp only [show decide (((0:Nat):Int)>0)=false by decide,a0s,a2Y,d0C,reduceCtorEq,if_false,bs,a0g,a0c]
   exact fin (.inr rfl) _ _
  have hrp:decide ((r:Int)>0)=true:=decide_eq_true (by omega)
  simp only [hrp,a0s,if_true,bs,a0k,a2U,l2,a1D,a0g,a0c]
  cases hb:s.2 with
  | true =>
   simp only [d0L,d0C,if_false]
   exact fin (.inl hb) _ _
  | false =>
   obtain ⟨r',rfl⟩:∃ r',r=r'+1:=⟨r - 1,by omega⟩
   have hS:qsS (r'+1) s=((itS s).1::(qsS r' (itS s).2).1,(qsS r' (itS s).2).2):=by simp [-bind_some, qsS,hb]
   rw [hS] at q1 q2
   have ldq:∀ {g':Hp} {s':Cur},DcP h g' (svr a dm dq) s'→a0d tab g' a1N (.ptr (h.length+2) 0 (0+2))=some dq:=fun P=>by rw [c3k,a0I P.st];rfl
   have P0:=P
   obtain ⟨j,g1,e1,hj,c1,s1⟩:=c4O P.cu
   have P1:=P.cur c1 s1
   have ow1:=ow.same s1 (by omega)
   have owm1:=owm.same s1 (by omega)
   have hlit:a0H tab a1N 1 [0] [.agg (itr j)]=some (.sl 11 true [itr j]):=id rfl
   have hw:IntKind.wrap .i64 (((r'+1:Nat):Int) - 1)=(r':Int):=by rw [wrap_i64 (by omega) (by omega)];omega
   simp only [d0M,if_true,a8X,ldq P0,ldq P1,e1,bs,hlit,a2j,d0B]
   have hdm:∀ q,dm.inOb q→¬ dq.inOb q:=fun q hq hq2=>by
    have h1:=a1o owm1 hq
    have h2:=a1o ow1 hq2
    rw [h1] at h2
    injection h2 with h2
    injection h2 with h2
    exact absurd h2 (by decide)
   refine b9b (ys:=[itr j]) (n0:=h.length+3) P1.ln ow1 (a1e _ _ _ _) (by simp;omega) fun dq' g3 ow3 l3 k3 k3' _=>?_
   have P3:=P1.keep k3
   have owm3:=owm1.keep fun q _ hq=>k3' q (owm1.lt hq).2 (hdm q hq)
   simp only [bs]
   refine b9c (kk:=0) (row:=svr a dm dq) P3.st (by rfl) (by rw [(a0E (a2w ow3)).1];rfl) (by simp [-bind_some, svr]) (a0E (a2w ow3)).2 fun g4 p4 s4=>?_
   rw [(a0E (a2w ow3)).1] at p4
   have P4:DcP h g4 (svr a dm dq') _:=P3.sta p4 s4
   simp only [bs,a0z,hw]
   refine .some (.inl ⟨rfl,r',by omega,_,dq',(itS s).2,L++[j],rfl,by simp;omega,P4,owm3.same s4 (by omega),?_,by rw [d0I];simpa [-bind_some, hj] using q1,q2⟩)
   rw [d0I]
   exact ow3.same s4 (by omega)
 ·rintro ⟨ex,ds,g⟩ ⟨rfl,b,c,dq,L,rfl,P,owm,ow,hL⟩
  exact k g dq L b c P owm ow hL
def dN (l:List Int):Nat:=(num ((l.drop 4).take 4)).toNat
def dS0 (l:List Int):Cur:=((l.take (8+dN l)).drop 8,false)
def dA (l:List Int):Int × Cur:=a1d (dS0 l)
def dM (l:List Int):List FM × Cur:=a5m (a2b (dA l).2).1.toNat (a2b (dA l).2).2
noncomputable def dQ (l:List Int):List RI × Cur:=qsS (a2b (dM l).2).1.toNat (a2b (dM l).2).2
def b3N (l:List Int):Prop:=(dQ l).2.2=true∨0<(dQ l).2.1.length∨stC (dA l).1 (dM l).1 (dQ l).1.length≠0
open Classical in
noncomputable def a2P (l:List Int):Int × Int × (Int × List FM × List RI) :=
 if l.length<8 then (14,0,0,[],[]) else if l.take 4≠magS then (1,0,0,[],[]) else if l.length<12+dN l then (14,0,0,[],[])
 else if a2T (l.take (8+dN l))≠num ((l.drop (8+dN l)).take 4) then (15,0,0,[],[]) else if b3N l then (1,0,0,[],[])
 else (0,((12+dN l:Nat):Int),(dA l).1,(dM l).1,(dQ l).1)
theorem c7k (s p:Str) (h:Hp) (hl:p.length≤s.length):R b4L [.str s,.str p] h=some (.bool (s.take p.length==p),h):=by
 have h1:(s.length:Int)≥(p.length:Int):=by omega
 have e:R b4M [.str s,.str p] h=some (.bool (s.take p.length==p),h):=by
  rw [c6b]
  have hs:a0w tab ty9 false true false [.str s,.int .i64 (p.length:Nat)]=some (.str (s.take p.length)):=by
   have h2:tab ty9=some ti9:=id rfl
   have h3:ti9.td = .str:=id rfl
   simp [-bind_some, a0w,a2G,a1J,h2,h3,hl]
  simp only [c2n,bs,a8o,a4g,decide_eq_true h1,a0s,if_true,hs,a2F,a0g,a0h]
 rw [c5X]
 simp only [c2j,e,bs,a0h]
theorem c0m (l:List Int) (hu:∀ z∈l,U8 z) (hl:8≤l.length):((bys (l.take 8)).take ([76,84,49,10]:Str).length==([76,84,49,10]:Str))=decide (l.take 4=magS):=by
 have e1:(bys (l.take 8)).take ([76,84,49,10]:Str).length=bys (l.take 4):=by
  simp only [bys,d0S,d0T,← List.map_take,List.take_take]
  rfl
 have e2:([76,84,49,10]:Str)=bys magS:=by decide
 rw [e1,e2]
 by_cases h:l.take 4=magS
 ·rw [h];simp [-bind_some]
 ·have:bys (l.take 4)≠bys magS:=fun hh=>h (by rw [← b0G (l.take 4) (fun z hz=>hu z (List.mem_of_mem_take hz)),hh,b0G magS (by unfold magS U8;decide)])
  simp [-bind_some, h,this]
theorem b0b {h g:Hp} {row:List D} (r0:g[h.length]?=some (.row a0m 3 [row])) (hr:row.length=3) (lo:∀ q,q<h.length→g[q]?=h[q]?) (e:Int) {Q:D × Hp→Prop} (hQ:Q (.tup [.agg (svr 0 .nils .nils),.int .i64 0,.int .i64 e],h)) :
  Wp ((a0q tab g a0m (.ptr h.length 0 0) (.agg [.int .i64 0,.nils,.nils])).bind fun h'=>(a0d tab h' a0m (.ptr h.length 0 0)).bind fun d0=>scope h h' (a0i [d0,.int .i64 0,.int .i64 e])) Q:=by
 have hlt:=(d0R.1 r0).1
 refine a6Y (kk:=0) (off:=0) (row:=row) (v := .agg [.int .i64 0,.nils,.nils]) r0 (by rfl) (by rfl) (by rw [hr];exact Nat.le_refl _) (by rfl) fun g' p s=>?_
 have hs:spl row 0 (a0u (.agg [.int .i64 0,.nils,.nils]))=svr 0 .nils .nils:=by simp [-bind_some, spl,a0u,hr,svr]
 rw [hs] at p
 have p:g'[h.length]?=some (.row a0m 3 [svr 0 .nils .nils]):=p
 have ld:a0d tab g' a0m (.ptr h.length 0 0)=some (.agg (svr 0 .nils .nils)):=by rw [a5C,a0I p];rfl
 simp only [ld,bs,a8r]
 rw [a1y (d' := .tup [.agg (svr 0 .nils .nils),.int .i64 0,.int .i64 e]) (by simp [-bind_some, svr]) (by
  refine .tup _ fun d hd=>?_
  simp at hd
  rcases hd with rfl | rfl | rfl
  ·exact .agg _ fun d hd=>by simp [-bind_some, svr] at hd;rcases hd with rfl | rfl <;> constructor
  ·constructor
  ·constructor) (by rw [s.1];omega) (fun q hq=>by rw [s.2 q (by omega)];exact lo q hq)]
 exact .some hQ
theorem b7A (h:Hp) (n:Nat) (m:FM):∀ d∈mkr m,a7b h n d=d:=by
 intro d hd
 simp only [mkr,d0W,List.not_mem_nil,or_false] at hd
 rcases hd with rfl | rfl <;> (cases n <;> rfl)
theorem b0y (n0:Nat) (h:Hp) (n:Nat) (m:FM):∀ d∈mkr m,frz n0 h n d=d:=by
 intro d hd
 simp only [mkr,d0W,List.not_mem_nil,or_false] at hd
 rcases hd with rfl | rfl <;> exact b4O _ _ _ _ _
theorem b5y (n:Nat) (m:FM):∀ d∈mkr m,Ok n d:=by
 intro d hd
 simp only [mkr,d0W,List.not_mem_nil,or_false] at hd
 rcases hd with rfl | rfl <;> exact .int _ _
theorem b7p (h:Hp) (n:Nat) (i:It):∀ d∈itr i,a7b h n d=d:=by
 intro d hd
 simp only [itr,evr,d0W,List.not_mem_nil,or_false] at hd
 rcases hd with rfl | rfl | rfl | rfl | rfl | rfl | rfl | rfl | rfl | rfl | rfl
 case inr.inr.inr.inr.inr.inl=>rcases i.e.hld with ⟨hh,_⟩ | ⟨b,hh⟩ <;> rw [hh] <;> cases n <;> rfl
 case inr.inr.inr.inr.inr.inr.inr.inr.inr.inr=>rcases i.e.hfd with ⟨hh,_⟩ | ⟨b,hh⟩ <;> rw [hh] <;> cases n <;> rfl
 all_goals (cases n <;> rfl)
theorem c7j (l:List Int) (d:D) (h:Hp) (hd:SlOf 1 byr l d) (hl:l.length≤1000000000) (hu:∀ z∈l,U8 z) :
  ∃ dm dq its,R a5h [d] h=some (.tup [.agg (svr (a2P l).2.2.1 dm dq),.int .i64 (a2P l).2.1,.int .i64 (a2P l).1],h)∧SlOf 2 mkr (a2P l).2.2.2.1 dm∧SlOf 11 itr its dq∧its.map a2c=(a2P l).2.2.2.2:=by
 suffices Wp (R a5h [d] h) (fun p=>∃ dm dq its,p=(.tup [.agg (svr (a2P l).2.2.1 dm dq),.int .i64 (a2P l).2.1,.int .i64 (a2P l).1],h)∧SlOf 2 mkr (a2P l).2.2.2.1 dm∧SlOf 11 itr its dq∧its.map a2c=(a2P l).2.2.2.2) by
  obtain ⟨p,h1,dm,dq,its,rfl,h2⟩:=this
  exact ⟨dm,dq,its,h1,h2⟩
 have fin:∀ e,a2P l=(e,0,0,[],[])→∃ dm dq its,((.tup [.agg (svr 0 .nils .nils),.int .i64 0,.int .i64 e],h):D × Hp)=(.tup [.agg (svr (a2P l).2.2.1 dm dq),.int .i64 (a2P l).2.1,.int .i64 (a2P l).1],h)∧SlOf 2 mkr (a2P l).2.2.2.1 dm∧SlOf 11 itr its dq∧its.map a2c=(a2P l).2.2.2.2:=fun e he=>by
  rw [he];exact ⟨.nils,.nils,[],rfl,.nils _ _,.nils _ _,rfl⟩
 have r0:(a0J h a0m 3 [[.int .i64 0,.nils,.nils]])[h.length]?=some (.row a0m 3 [svr 0 .nils .nils]):=a1I _ _ _ _
 have l0:(a0J h a0m 3 [[.int .i64 0,.nils,.nils]]).length=h.length+1:=by simp [-bind_some, a0J]
 have k0:∀ q,q<h.length→(a0J h a0m 3 [[.int .i64 0,.nils,.nils]])[q]?=h[q]?:=fun q hq=>a1c _ _ _ _ hq
 rw [c5W]
 simp only [c2i,bs,a1H hd,a0o,b9p,d0B]
 generalize a0J h a0m 3 [[.int .i64 0,.nils,.nils]]=g0 at *
 by_cases h8:l.length<8
 ·have h8':(l.length:Int)<8:=by omega
  simp only [h8',decide_true,a0c,if_true]
  exact b0b r0 rfl k0 14 (fin 14 (by unfold a2P;rw [if_pos h8]))
 have h8':¬ (l.length:Int)<8:=by omega
 obtain ⟨d8,e8,s8⟩:=b0H hd (k := .i64) (n:=8) (by omega) (by omega)
 have s8:SlOf 1 byr (l.take 8) d8:=s8
 have epre:=c7k (bys (l.take 8)) [76,84,49,10] g0 (by simp [-bind_some, bys];omega)
 rw [c0m l hu (by omega)] at epre
 simp only [h8',decide_false,a0c,d0C,if_false,e8,bs,b2p s8,epre,a1D]
 by_cases hmag:l.take 4=magS
 case neg =>
  have hm:decide (l.take 4=magS)=false:=decide_eq_false hmag
  simp only [hm,d0M,if_true]
  exact b0b r0 rfl k0 1 (fin 1 (by unfold a2P;rw [if_neg h8,if_pos hmag]))
 have hm:decide (l.take 4=magS)=true:=decide_eq_true hmag
 obtain ⟨dc,ec,sc⟩:=a5z hd 4 8 (by omega) (by omega)
 have lc:(l.take 8).drop 4=(l.drop 4).take 4:=by rw [List.drop_take]
 rw [lc] at sc
 have ec:a0w tab a0G true true false [d,.int .i64 4,.int .i64 8]=some dc:=ec
 have hu4:∀ z∈(l.drop 4).take 4,U8 z:=fun z hz=>hu z (List.mem_of_mem_drop (List.mem_of_mem_take hz))
 obtain ⟨n0,n1⟩:=a2K 4 ((l.drop 4).take 4) (by simp;omega) hu4
 rw [a6P] at n1
 have eg:=c0B _ dc g0 sc (by simp;omega) hu4
 have hN:IntKind.wrap .i64 (num ((l.drop 4).take 4))=(dN l:Int):=by rw [wrap_i64 (by omega) (by omega)];unfold dN;omega
 have hN32:dN l<4294967296:=by unfold dN;omega
 rw [hN] at eg
 have w1:IntKind.wrap .i64 (8+(dN l:Int))=((8+dN l:Nat):Int):=by rw [wrap_i64 (by omega) (by omega)];omega
 have w2:IntKind.wrap .i64 (((8+dN l:Nat):Int)+4)=((12+dN l:Nat):Int):=by rw [wrap_i64 (by omega) (by omega)];omega
 simp only [hm,d0L,d0C,if_false,ec,eg,bs,a0r,w1,w2,a1H hd,a0o]
 by_cases hsh:l.length<12+dN l
 ·have hsh':decide ((l.length:Int)<((12+dN l:Nat):Int))=true:=decide_eq_true (by omega)
  simp only [hsh',if_true]
  exact b0b r0 rfl k0 14 (fin 14 (by unfold a2P;rw [if_neg h8,if_neg (by simpa using hmag),if_pos hsh]))
 have hsh':decide ((l.length:Int)<((12+dN l:Nat):Int))=false:=decide_eq_false (by omega)
 obtain ⟨dn,en,sn⟩:=b0H hd (k := .i64) (n:=((8+dN l:Nat):Int)) (by omega) (by omega)
 rw [d0K] at sn
 have ek:=c3X (l.take (8+dN l)) dn g0 (.inl sn) (by simp;omega) (fun z hz=>hu z (List.mem_of_mem_take hz))
 obtain ⟨dk,ek2,sk⟩:=a5z hd (8+dN l) (12+dN l) (by omega) (by omega)
 have lk:(l.take (12+dN l)).drop (8+dN l)=(l.drop (8+dN l)).take 4:=by rw [List.drop_take];congr 1;omega
 rw [lk] at sk
 have huk:∀ z∈(l.drop (8+dN l)).take 4,U8 z:=fun z hz=>hu z (List.mem_of_mem_drop (List.mem_of_mem_take hz))
 obtain ⟨m0,m1⟩:=a2K 4 ((l.drop (8+dN l)).take 4) (by simp;omega) huk
 rw [a6P] at m1
 have eg2:=c0B _ dk g0 sk (by simp;omega) huk
 rw [wrap_i64 (by omega) (by omega)] at eg2
 simp only [hsh',d0C,if_false,en,ek,ek2,eg2,bs,a0x]
 by_cases hck:a2T (l.take (8+dN l))=num ((l.drop (8+dN l)).take 4)
 case neg =>
  have hck':decide (a2T (l.take (8+dN l))≠num ((l.drop (8+dN l)).take 4))=true:=decide_eq_true hck
  simp only [hck',if_true]
  exact b0b r0 rfl k0 15 (fin 15 (by unfold a2P;rw [if_neg h8,if_neg (by simpa using hmag),if_neg hsh,if_pos hck]))
 have hck':decide (a2T (l.take (8+dN l))≠num ((l.drop (8+dN l)).take 4))=false:=decide_eq_false (by simpa using hck)
 have hdec:∀ x,(b3N l→x=(1,0,0,[],[]))→(¬ b3N l→x=(0,((12+dN l:Nat):Int),(dA l).1,(dM l).1,(dQ l).1))→a2P l=x:=fun x h1 h2=>by
  unfold a2P
  rw [if_neg h8,if_neg (by simpa using hmag),if_neg hsh,if_neg (by simpa using hck)]
  by_cases hb:b3N l
  ·rw [if_pos hb,h1 hb]
  ·rw [if_neg hb,h2 hb]
 -- the cursor, and the state's variable
 obtain ⟨db,eb,sb⟩:=a5z hd 8 (8+dN l) (by omega) (by omega)
 have eb:a0w tab a0G true true false [d,.int .i64 8,.int .i64 ((8+dN l:Nat):Int)]=some db:=eb
 have hbc:a0D tab a1g [0] [db]=some (.agg [db,.bool false]):=b6D db (a2k sb)
 have c0:(a0J g0 a1g 2 [[db,.bool false]])[h.length+1]?=some (.row a1g 2 [[db,.bool false]]):=by rw [← l0];exact a1I _ _ _ _
 have cl:(a0J g0 a1g 2 [[db,.bool false]]).length=h.length+2:=by simp [-bind_some, a0J,l0]
 have ck:∀ q,q<h.length+1→(a0J g0 a1g 2 [[db,.bool false]])[q]?=g0[q]?:=fun q hq=>a1c _ _ _ _ (by omega)
 simp only [hck',d0C,if_false,eb,hbc,bs,a5t a1g 2 g0 [db,.bool false] rfl (by omega),l0,d0B]
 generalize a0J g0 a1g 2 [[db,.bool false]]=g1 at *
 have C0:CuP g1 (h.length+1) (dS0 l):=⟨db,c0,sb,fun z hz=>hu z (List.mem_of_mem_take (List.mem_of_mem_drop hz)),by simp [-bind_some, dS0];omega⟩
 obtain ⟨g2,e2,c2,t2⟩:=c6K C0
 have e2:R a3N [.ptr (h.length+1) 0 0,.int .i64 8] g1=some (.int .i64 (dA l).1,g2):=e2
 have l2:g2.length=h.length+2:=by rw [t2.1];exact cl
 simp only [e2,bs,b6C,l2,d0B]
 have v3:(a0J g2 a0m 3 [[.int .i64 0,.nils,.nils]])[h.length+2]?=some (.row a0m 3 [[.int .i64 0,.nils,.nils]]):=by rw [← l2];exact a1I _ _ _ _
 have k3:∀ q,q<h.length+2→(a0J g2 a0m 3 [[.int .i64 0,.nils,.nils]])[q]?=g2[q]?:=fun q hq=>a1c _ _ _ _ (by omega)
 have hp7:((.ptr (h.length+2) 0 0,a0J g2 a0m 3 [[.int .i64 0,.nils,.nils]]):D × Hp).1 = .ptr (h.length+2) 0 0:=rfl
 generalize a0J g2 a0m 3 [[.int .i64 0,.nils,.nils]]=g3 at *
 refine a6Y (kk:=0) (off:=0) (row:=[.int .i64 0,.nils,.nils]) (v := .agg [.int .i64 (dA l).1,.nils,.nils]) v3 (by rfl) (by rfl) (by exact Nat.le_refl _) (by rfl) fun g4 p4 s4=>?_
 have p4:g4[h.length+2]?=some (.row a0m 3 [svr (dA l).1 .nils .nils]):=p4
 have P4:DcP h g4 (svr (dA l).1 .nils .nils) (dA l).2:=by
  obtain ⟨dd,q1,q2⟩:=c2
  exact ⟨by rw [s4.2 _ (by omega),k3 _ (by omega),t2.2 _ (by omega),ck _ (by omega)];exact r0,⟨dd,by rw [s4.2 _ (by omega),k3 _ (by omega)];exact q1,q2⟩,p4,fun q hq=>by rw [s4.2 _ (by omega),k3 _ (by omega),t2.2 _ (by omega),ck _ (by omega)];exact k0 q hq⟩
 obtain ⟨g5,e5,c5,t5⟩:=c3B P4.cu
 have P5:=P4.cur c5 t5
 obtain ⟨_,_,_,hu5,_⟩:=P4.cu
 obtain ⟨N1,hN1,hN1b⟩:=b1T hu5
 rw [hN1] at e5
 have hM:dM l=a5m N1 (a2b (dA l).2).2:=by unfold dM;rw [hN1];rfl
 simp only [bs,e5,d0B]
 refine b9x (a:=(dA l).1) hN1b hp7 P5 _ fun g6 dm b c P6 owm=>?_
 rw [← hM] at P6 owm
 obtain ⟨g7,e7,c7,t7⟩:=c3B P6.cu
 have P7:=P6.cur c7 t7
 have owm7:=owm.same t7 (by omega)
 obtain ⟨_,_,_,hu7,_⟩:=P6.cu
 obtain ⟨N2,hN2,hN2b⟩:=b1T hu7
 rw [hN2] at e7
 have hQ2:dQ l=qsS N2 (a2b (dM l).2).2:=by unfold dQ;rw [hN2];rfl
 simp only [bs,a0p,a0n,a0f,a0j,e7,d0B]
 refine b9y (a:=(dA l).1) hN2b hp7 P7 owm7 _ fun g8 dq its b2 c2' P8 owm8 owq hits=>?_
 rw [← hQ2] at P8 hits
 obtain ⟨dd,q1,q2,q3,q4⟩:=P8.cu
 obtain ⟨m1',m2'⟩:=b3M q1
 have hlm:(dM l).1.length≤4294967296:=by rw [hM];have:=b2c N1 (a2b (dA l).2).2;omega
 have hlq:its.length=(dQ l).1.length:=by rw [← hits];simp [-bind_some]
 have hlq2:its.length≤4294967296:=by rw [hlq,hQ2];have:=b5P N2 (a2b (dM l).2).2;omega
 have ldv:a0d tab g8 a0m (.ptr (h.length+2) 0 0)=some (.agg (svr (dA l).1 dm dq)):=by rw [a5C,a0I P8.st];rfl
 simp only [bs,a0p,a0n,a0f,a0j,a0k,a3o,a2U,m1',m2',a0s,d0B]
 -- the check's answer
 have sM:=a6j (n:=1) owm8 (fun a _=>b7A g8 1 a)
 have sQ:=a6j (n:=1) owq (fun a _=>b7p g8 1 a)
 have hsn:a7b g8 3 (.agg (svr (dA l).1 dm dq)) = .agg (svr (dA l).1 (a7b g8 2 dm) (a7b g8 2 dq)):=rfl
 have hcall:=c3W (dA l).1 (dM l).1 its.length (a7b g8 2 dm) (a7b g8 2 dq) (g8.map fun _ => .dead) sM (a6M sQ) (by omega)
 have hcB:a3K R a9i [.agg (svr (dA l).1 dm dq)] g8=some (.int .i64 (stC (dA l).1 (dM l).1 its.length),g8):=by
  unfold a3K
  simp only [d0J,List.map_nil,hsn,hcall]
  rfl
 rw [hlq] at hcB
 have bad:b3N l→∀ {β:Type},a2P l=(1,0,0,[],[]):=fun hb _=>hdec _ (fun _=>rfl) fun hn=>absurd hb hn
 cases hbd:(dQ l).2.2 with
 | true =>
  have hB:b3N l := .inl hbd
  simp only [reduceCtorEq,d0D,if_false,bs,a0g,if_true,a0s,a0Y,a0c]
  exact b0b P8.r0 rfl P8.lo 1 (fin 1 (hdec _ (fun _=>rfl) fun hn=>absurd hB hn))
 | false =>
  simp only [if_true,bs,a0k,a3o,m1',a1H q2,a0v,a0g,d0C,if_false]
  by_cases hlen:0<(dQ l).2.1.length
  ·have hB:b3N l := .inr (.inl hlen)
   have hd1:decide (((dQ l).2.1.length:Int)>0)=true:=decide_eq_true (by omega)
   simp only [hd1,reduceCtorEq,d0D,if_false,bs,a0g,if_true,a0s,a0Y,a0c]
   exact b0b P8.r0 rfl P8.lo 1 (fin 1 (hdec _ (fun _=>rfl) fun hn=>absurd hB hn))
  have hd1:decide (((dQ l).2.1.length:Int)>0)=false:=decide_eq_false (by omega)
  simp only [hd1,a0s,a0Y,if_true,bs,ldv,hcB,a0x,a0g,d0C,if_false]
  by_cases hst:stC (dA l).1 (dM l).1 (dQ l).1.length=0
  case neg =>
   have hB:b3N l := .inr (.inr hst)
   have hd2:decide (stC (dA l).1 (dM l).1 (dQ l).1.length≠0)=true:=decide_eq_true hst
   simp only [hd2,a0c,if_true]
   exact b0b P8.r0 rfl P8.lo 1 (fin 1 (hdec _ (fun _=>rfl) fun hn=>absurd hB hn))
  have hd2:decide (stC (dA l).1 (dM l).1 (dQ l).1.length≠0)=false:=decide_eq_false (by rw [hst];simp [-bind_some])
  have hgood:a2P l=(0,((12+dN l:Nat):Int),(dA l).1,(dM l).1,(dQ l).1):=hdec _ (fun hb=>absurd hb (by
   rintro (hx | hx | hx)
   ·rw [hbd] at hx;cases hx
   ·exact hlen hx
   ·exact hx hst)) fun _=>rfl
  have okv:(D.agg (svr (dA l).1 dm dq)).okv=true:=by
   rcases owm8 with ⟨rfl,_⟩ | ⟨_,_,rfl,_⟩ <;> rcases owq with ⟨rfl,_⟩ | ⟨_,_,rfl,_⟩ <;> rfl
  simp only [hd2,a0c,d0C,if_false,ldv,bs]
  refine a6Y (kk:=0) (off:=0) (row:=svr 0 .nils .nils) (v := .agg (svr (dA l).1 dm dq)) P8.r0 (by rfl) (by rfl) (by exact Nat.le_refl _) okv fun g9 p9 s9=>?_
  have p9:g9[h.length]?=some (.row a0m 3 [svr (dA l).1 dm dq]):=p9
  have ld9:a0d tab g9 a0m (.ptr h.length 0 0)=some (.agg (svr (dA l).1 dm dq)):=by rw [a5C,a0I p9];rfl
  have om9:=owm8.keep (h':=g9) fun q hq _=>s9.2 q (by omega)
  have oq9:=owq.keep (h':=g9) fun q hq _=>s9.2 q (by omega)
  have fM:=a3h (n0:=h.length) (n:=1) om9 (by omega) (fun a _=>b0y _ g9 1 a)
  have fQ:=a3h (n0:=h.length) (n:=1) oq9 (by omega) (fun a _=>a6J _ g9 0 a)
  have hl9:h.length≤g9.length:=by have:=(d0R.1 p9).1;omega
  simp only [ld9,bs,a8r]
  rw [a1y (d' := .tup [.agg (svr (dA l).1 (frz h.length g9 2 dm) (frz h.length g9 2 dq)),.int .i64 ((12+dN l:Nat):Int),.int .i64 0]) rfl (by
   refine .tup _ fun d hd=>?_
   simp at hd
   rcases hd with rfl | rfl | rfl
   ·refine .agg _ fun d hd=>?_
    simp [-bind_some, svr] at hd
    rcases hd with rfl | rfl | rfl
    ·constructor
    ·exact a1Q fM fun a _=>b5y _ a
    ·exact a1Q fQ fun a _=>b0n _ a
   ·constructor
   ·constructor) hl9 (fun q hq=>by rw [s9.2 q (by omega)];exact P8.lo q hq)]
  rw [hgood]
  exact .some ⟨_,_,its,rfl,fM,fQ,hits⟩
structure OkI (i:It):Prop where
 r:ItR i
 b:(a1r i).length≤20000
 e:itE i=0
theorem b6V {i:It} (h:OkI i) (r:List Int):a6e (a3d i++r)=(0,((a3d i).length:Int),a2c i):=by
 obtain ⟨e1,e2⟩:=b9A h.r h.b r
 unfold a6e
 rw [e2,b8i,h.e,e1]
end Go.Proofs.YtjmndhbabkjebaaDoor

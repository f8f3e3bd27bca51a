/- Laws, on plain data, about functions that the statement reaches. -/
import Derived.Test.YtkpnnfhodlanjaaDoorL1
set_option linter.unusedSimpArgs false
set_option linter.unusedVariables false
set_option linter.unnecessarySimpa false
set_option maxRecDepth 100000
namespace Go.Proofs.YtkpnnfhodlanjaaDoor
open Go.Eng Go.Pi
open Option (bind_some)
theorem b7q {c:Pr→Pr→Int} (od:CmO c) {cmp:D} (hcmp:CmpFP cmp c) {o N:Nat} (hN:N≤60000) {g:Hp} {l:List Pr} (hl:l.length=N) (ho:g[o]?=some (.row a0d 2 (l.map prr))) (nd:Nd c l) :
  Wp (R a3Y [.msl 2 o 0 N,cmp] g) fun p=>∃ C:List Pr,C.Perm l∧(C.Pairwise fun x y=>¬ c y x<0)∧p.2[o]?=some (.row a0d 2 (C.map prr))∧Same o g p.2:=by
 have wu:IntKind.wrap .u64 (N:Int)=(N:Int):=a1H (by omega) (by omega)
 obtain ⟨k,ek,_⟩:=a9C N (by omega) g
 rw [b4f]
 simp only [b1K,a7p,bs,a3q,wu,ek]
 refine Wp.bind (b7s od hcmp hN N g l 0 N (k:Int) (by omega) hl ho (by omega) (Nat.le_refl _) (fun i j x y h1=>by omega) nd) ?_
 rintro ⟨d,g'⟩ ⟨l',h1,h2,h3,h4⟩
 exact .some ⟨l',h2.pm,a9K (by rw [h2.len,hl];exact h3),h1,h4⟩
theorem b4U (d cmp:D) (h:Hp) (hd:SlOf 2 prr [] d):∃ x,R a3Y [d,cmp] h=some (x,h):=by
 have hl:a0X tab a0m d=some (.int .i64 0):=b0M hd
 have h65:∃ x,R a3y [d,.int .i64 0,.int .i64 0,cmp] h=some (x,h):=by
  rw [b4j]
  refine ⟨a0s [],?_⟩
  simp only [b1O,bs,b9Y,a0k,show IntKind.wrap .i64 ((0:Int)+1)=1 from rfl]
  rw [a1C]
  simp [-bind_some, a4s]
 obtain ⟨x,h65⟩:=h65
 obtain ⟨k,ek,_⟩:=a9C 0 (by omega) h
 have ek:R a3x [.int .u64 0] h=some (.int .i64 (k:Int),h):=ek
 have h63:∃ y,R a4a [d,.int .i64 0,.int .i64 0,.int .i64 (k:Int),cmp] h=some (y,h):=by
  rw [b4h]
  refine ⟨a0s [],?_⟩
  simp only [b1M,bs,b9Y]
  rw [a1C]
  simp only [a4q,a0g,a0i,bs,a0n,show IntKind.wrap .i64 ((0:Int) - 0)=0 from rfl,a0O,show decide ((0:Int)≤12)=true from rfl,a0b,if_true,h65,a0Q,a1r]
 obtain ⟨y,h63⟩:=h63
 refine ⟨a0s [],?_⟩
 rw [b4f]
 simp only [b1K,bs,hl,a3q,show IntKind.wrap .u64 (0:Int)=0 from rfl,ek,h63]
structure Kd where
 e:Ev
 v:Str
 ix:Int
def kdr (p:Kd):List D:=evr p.e++[.str p.v,.int .i64 p.ix]
theorem a4Z (p:Kd):(D.agg (kdr p)).okv=true:=by
 have h:=a8E p.e
 simp only [D.okv,kdr,List.all_append,Bool.and_eq_true] at h ⊢
 try exact ⟨h,rfl⟩
theorem a9a (n:Nat) (p:Kd):∀ d∈kdr p,Ok n d:=fun d hd=>by
 rcases c0s.1 hd with hd | hd
 ·exact a8D n p.e d hd
 ·simp only [c0r,List.not_mem_nil,or_false] at hd
  rcases hd with rfl | rfl
  ·exact .str _
  ·exact .int _ _
theorem b1q {h:Hp} {q k T z:Nat} {rows:List (List D)} {p:Kd} (hq:h[q]?=some (.row T z rows)) (hk:rows[k]?=some (kdr p)):a0f tab h a0c (.ptr q k 0)=some (.agg (kdr p)):=by
 rw [a9c,a2b hq,hk]
 rfl
theorem b6Z (c:Kd→Kd→Int) (cmp:D) (hc:∀ x y g,a0W R cmp [.agg (kdr x),.agg (kdr y)] g=some (.int .i64 (c x y),g)) (ob N a:Nat) (hN:N≤1000000000) {β:Type} {K:Out→Option β} {Q:β→Prop}
  (l:List Kd) (hl:l.length=N) (j:Nat) (hj:j<N) (h:Hp) (ho:h[ob]?=some (.row a0c 12 (l.map kdr))) (b:D)
  (k:∀ x y h',h'[ob]?=some (.row a0c 12 ((dn c a j l).map kdr))→Same ob h h'→Wp (K (.ext 2,[x,y],h')) Q) :
  Wp ((a0v (a4C (.msl 12 ob 0 N) (.int .i64 a) cmp) [.int .i64 j,b] h).bind K) Q:=by
 generalize hV:dn c a j l=V at k
 refine Wp.loop (fun n ds g=>∃ b,∃ j:Nat,∃ l':List Kd,n=j∧ds=[.int .i64 j,b]∧l'.length=N∧j<N∧g[ob]?=some (.row a0c 12 (l'.map kdr))∧Same ob h g∧dn c a j l'=V)
  (fun r=>r.1 = .ext 2∧(∃ x y,r.2.1=[x,y])∧r.2.2[ob]?=some (.row a0c 12 (V.map kdr))∧Same ob h r.2.2) j ⟨b,j,l,rfl,rfl,hl,hj,ho,.refl _ _,hV⟩ ?_ ?_
 ·clear ho hl hj hV l j
  rintro n ds g ⟨b,j,l,rfl,rfl,hl,hj,ho,sm,hV⟩
  simp only [a4C,a0g,a0i,bs,b9Y,a1c]
  cases n with
  | zero =>
   have hq:¬ (a:Int)<((0:Nat):Int):=by omega
   have hV:l=V:=hV
   subst hV
   simp only [hq,decide_false,a0u,a0w,b9Z,if_false,reduceCtorEq,bs,a0l,a0b]
   exact .some (.inr ⟨by simp,rfl,⟨_,_,rfl⟩,ho,sm⟩)
  | succ j =>
   have g1:l[j+1]?=some l[j+1]:=c0l (by omega)
   have g0:l[j]?=some l[j]:=c0l (by omega)
   unfold dn at hV
   rw [g1,g0] at hV
   simp only at hV
   generalize l[j+1]=x at g1 hV
   generalize l[j]=y at g0 hV
   by_cases ha:a<j+1
   ·have ha':(a:Int)<((j+1:Nat):Int):=by omega
    have hw:IntKind.wrap .i64 (((j+1:Nat):Int) - 1)=(j:Int):=by
     rw [wrap_i64 (by omega) (by omega)];omega
    have i1:(0:Int)≤((j+1:Nat):Int)∧((j+1:Nat):Int)<(N:Int):=by omega
    have i0:(0:Int)≤(j:Int)∧(j:Int)<(N:Int):=by omega
    have m1:(l.map kdr)[j+1]?=some (kdr x):=by rw [c0j,g1];rfl
    have m0:(l.map kdr)[j]?=some (kdr y):=by rw [c0j,g0];rfl
    simp only [ha',decide_true,a0u,a0w,if_true,a8Y,i1,i0,and_self,Nat.zero_add,c0f,a0n,hw,bs,b1q ho m1,b1q ho m0,hc,a0r,a0l]
    by_cases hlt:c x y<0
    ·rw [if_pos ⟨ha,hlt⟩] at hV
     simp only [hlt,decide_true,a0b,if_true]
     refine a5n ho m1 (by rfl) (by simp [-bind_some, kdr,evr]) (a4Z _) fun g2 p2 s2=>?_
     rw [show spl (kdr x) 0 (a0z (.agg (kdr y)))=kdr y from id rfl,a1Y] at p2
     have m2:((l.set (j+1) y).map kdr)[j]?=some (kdr y):=by
      rw [c0j,c0v (by omega),g0];rfl
     try simp only [bs,i0,and_self,if_true,Nat.zero_add,c0f]
     refine a5n p2 m2 (by rfl) (by simp [-bind_some, kdr,evr]) (a4Z _) fun g3 p3 s3=>?_
     rw [show spl (kdr y) 0 (a0z (.agg (kdr x)))=kdr x from id rfl,a1Y] at p3
     try simp only [bs]
     exact .some (.inl ⟨rfl,j,by omega,_,j,_,rfl,rfl,by simpa using hl,by omega,p3,(sm.trans s2).trans s3,hV⟩)
    ·rw [if_neg (fun hh=>hlt hh.2)] at hV
     subst hV
     simp only [hlt,decide_false,a0b,b9Z,if_false]
     exact .some (.inr ⟨by simp,rfl,⟨_,_,rfl⟩,ho,sm⟩)
   ·rw [if_neg (fun hh=>ha hh.1)] at hV
    subst hV
    have ha':¬ (a:Int)<((j+1:Nat):Int):=by omega
    simp only [ha',decide_false,a0u,a0w,b9Z,if_false,reduceCtorEq,bs,a0l,a0b]
    exact .some (.inr ⟨by simp,rfl,⟨_,_,rfl⟩,ho,sm⟩)
 ·rintro ⟨x,ds,g⟩ ⟨rfl,⟨u,v,rfl⟩,h1,h2⟩
  exact k u v g h1 h2
theorem b7j (c:Kd→Kd→Int) (cmp:D) (hc:∀ x y g,a0W R cmp [.agg (kdr x),.agg (kdr y)] g=some (.int .i64 (c x y),g)) (ob N a b:Nat) (hN:N≤1000000000) (hab:a<b∨(a=b∧b≤N)) (hb:b≤N)
  (l:List Kd) (hl:l.length=N) (h:Hp) (ho:h[ob]?=some (.row a0c 12 (l.map kdr))) :
  ∃ d h',R a3z [.msl 12 ob 0 N,.int .i64 a,.int .i64 b,cmp] h=some (d,h')∧h'[ob]?=some (.row a0c 12 ((isr c a (a+1) (b - (a+1)) l).map kdr))∧Same ob h h':=by
 suffices Wp (R a3z [.msl 12 ob 0 N,.int .i64 a,.int .i64 b,cmp] h) (fun p=>p.2[ob]?=some (.row a0c 12 ((isr c a (a+1) (b - (a+1)) l).map kdr))∧Same ob h p.2) by
  obtain ⟨⟨x,h'⟩,h1,h2⟩:=this
  exact ⟨x,h',h1,h2⟩
 rw [b4k]
 have hw:=wi_ a (by omega)
 simp only [b1P,bs,b9Y,a0k,hw]
 generalize hV:isr c a (a+1) (b - (a+1)) l=V
 refine Wp.loop (fun n ds g=>∃ u v w,∃ i:Nat,∃ l':List Kd,ds=[.int .i64 i,u,v,w]∧n=b - i∧l'.length=N∧g[ob]?=some (.row a0c 12 (l'.map kdr))∧Same ob h g∧isr c a i (b - i) l'=V)
  (fun r=>r.1 = .ext 0∧r.2.2[ob]?=some (.row a0c 12 (V.map kdr))∧Same ob h r.2.2) (b - (a+1)) ⟨_,_,_,a+1,l,rfl,rfl,hl,ho,.refl _ _,hV⟩ ?_ ?_
 ·rintro n ds g ⟨u,v,w,i,l',rfl,rfl,hl',ho',sm,hV⟩
  simp only [a4B,a0g,a0i,bs,b9Y,a0r]
  refine Wp.dif ?_ ?_
  ·intro h0
   have h0:i<b:=by
    have:(i:Int)<(b:Int):=by simpa using h0
    omega
   have hb1:b - i=(b - (i+1))+1:=by omega
   rw [hb1] at hV
   unfold isr at hV
   have hw2:=wi_ i (by omega)
   refine b6Z c cmp hc ob N a hN l' hl' i (by omega) g ho' _ fun x y g2 p2 s2=>?_
   simp only [a0o,a1b,a0p,bs,a0g,a0k,hw2]
   exact .some (.inl ⟨rfl,b - (i+1),by omega,_,_,_,i+1,_,rfl,rfl,by rw [a8s];exact hl',p2,sm.trans s2,hV⟩)
  ·intro h0
   have h0:¬ i<b:=by
    have:¬ (i:Int)<(b:Int):=by simpa using h0
    omega
   rw [show b - i=0 by omega] at hV
   have hV:l'=V:=hV
   subst hV
   exact .some (.inr ⟨by simp,rfl,ho',sm⟩)
 ·rintro ⟨x,ds,g⟩ ⟨rfl,h1,h2⟩
  simp only [a0o,a1j,bs]
  exact .some ⟨h1,h2⟩
theorem a0R {g:Hp} {o n:Nat} {rows:List Kd} {p:Kd} (ho:g[o]?=some (.row a0c 12 (rows.map kdr))) (hp:rows[n]?=some p):a0f tab g a0c (.ptr o n 0)=some (.agg (kdr p)):=by
 have hr:(rows.map kdr)[n]?=some (kdr p):=by rw [c0j,hp];rfl
 rw [a9c,a2b ho,hr]
 rfl
def CmpFY (cmp:D) (c:Kd→Kd→Int):Prop:=∀ x y g,a0W R cmp [.agg (kdr x),.agg (kdr y)] g=some (.int .i64 (c x y),g)
theorem b2o {c:Kd→Kd→Int} {S Pre:Kd→Kd→Prop} (od:SOrd c S Pre) {cmp:D} (hcmp:CmpFY cmp c) {o N:Nat} (hN:N≤1000000000) {g:Hp} {P A Q:List Kd} (hlen:(P++A++Q).length=N) (hA:A.Pairwise Pre)
  (ho:g[o]?=some (.row a0c 12 ((P++A++Q).map kdr))) (a b:Int) (ha:a=P.length) (hb:b=(P.length+A.length:Nat)) :
  Wp (R a3z [.msl 12 o 0 N,.int .i64 a,.int .i64 b,cmp] g) fun p=>∃ C:List Kd,C.Perm A∧C.Pairwise S∧p.2[o]?=some (.row a0c 12 ((P++C++Q).map kdr))∧Same o g p.2:=by
 subst ha hb
 have hl:=hlen
 simp only [c0c] at hl
 obtain ⟨d,h',e,p1,s1⟩:=b7j c cmp hcmp o N P.length (P.length+A.length) hN (by omega) (by omega) _ hlen g ho
 refine ⟨(d,h'),e,?_⟩
 cases A with
 | nil =>
  refine ⟨[],by simp,List.Pairwise.nil,?_,s1⟩
  rw [p1]
  simp [-bind_some, isr]
 | cons x A =>
  obtain ⟨C,q1,q2,q3⟩:=a8X od P Q A [x] (by simp) (fun u hu v hv=>by simp at hu;subst hu;exact (List.pairwise_cons.1 hA).1 v hv) (List.pairwise_cons.1 hA).2
  refine ⟨C,q2,q3,?_,s1⟩
  rw [p1]
  have e1:P.length+(x::A).length - (P.length+1)=A.length:=by simp;omega
  rw [e1]
  have e2:P++x::A++Q=P++[x]++A++Q:=by simp
  rw [e2]
  exact congrArg (fun z:List Kd=>some (Ob.row a0c 12 (z.map kdr))) q1
theorem CmpFY.ap {cmp:D} {c:Kd→Kd→Int} (h:CmpFY cmp c) (x y:Kd) (g:Hp):a0W R cmp [.agg (kdr x),.agg (kdr y)] g=some (.int .i64 (c x y),g):=h x y g
theorem adY {N i:Nat} (h:i<N) (o:Nat):a0a tab a0j (.msl 12 o 0 N) (.int .i64 (i:Int))=some (.ptr o i 0):=by
 rw [a8Y,if_pos (by omega)];simp [-bind_some]
theorem swY {g:Hp} {o i j:Nat} {l:List Kd} {x y:Kd} (ho:g[o]?=some (.row a0c 12 (l.map kdr))) (hi:l[i]?=some x) (hj:l[j]?=some y) {β:Type} {f:Hp→Option β} {Q:β→Prop}
  (k:∀ g',g'[o]?=some (.row a0c 12 (((l.set i y).set j x).map kdr))→Same o g g'→Wp (f g') Q) :
  Wp ((a0q tab g a0c (.ptr o i 0) (.agg (kdr y))).bind fun h'=>(a0q tab h' a0c (.ptr o j 0) (.agg (kdr x))).bind f) Q:=by
 have mi:(l.map kdr)[i]?=some (kdr x):=by rw [c0j,hi];rfl
 have sp:∀ a b:Kd,spl (kdr a) 0 (a0z (.agg (kdr b)))=kdr b:=fun a b=>id rfl
 refine a5n (off:=0) ho mi (by rfl) (by simp [-bind_some, kdr,evr]) (a4Z _) fun g2 p2 s2=>?_
 rw [sp,← List.map_set] at p2
 obtain ⟨z,hz⟩:∃ z,(l.set i y)[j]?=some z:=⟨_,c0l (by have:=(c0m.1 hj).1;simpa using this)⟩
 have mj:((l.set i y).map kdr)[j]?=some (kdr z):=by rw [c0j,hz];rfl
 refine a5n (off:=0) p2 mj (by rfl) (by simp [-bind_some, kdr,evr]) (a4Z _) fun g3 p3 s3=>?_
 rw [sp,← List.map_set] at p3
 exact k g3 p3 (s2.trans s3)
theorem b2V {c:Kd→Kd→Int} {cmp:D} (hcmp:CmpFY cmp c) {o N:Nat} {g:Hp} {l:List Kd} (hl:l.length=N) (ho:g[o]?=some (.row a0c 12 (l.map kdr))) (a b:Nat) (ha:a<N) (hb:b<N) (q:Nat) (s:Int) (hq:g[q]?=some (.row ty3 1 [[.int .i64 s]])) :
  ∃ (x y:Nat) (s':Int) (g':Hp),R a4d [.msl 12 o 0 N,.int .i64 (a:Int),.int .i64 (b:Int),.ptr q 0 0,cmp] g=some (.tup [.int .i64 (x:Int),.int .i64 (y:Int)],g')∧((x=a∧y=b)∨(x=b∧y=a))∧g'[q]?=some (.row ty3 1 [[.int .i64 s']])∧Same q g g':=by
 suffices Wp (R a4d [.msl 12 o 0 N,.int .i64 (a:Int),.int .i64 (b:Int),.ptr q 0 0,cmp] g) (fun p=>∃ (x y:Nat) (s':Int),p.1 = .tup [.int .i64 (x:Int),.int .i64 (y:Int)]∧((x=a∧y=b)∨(x=b∧y=a))∧p.2[q]?=some (.row ty3 1 [[.int .i64 s']])∧Same q g p.2) by
  obtain ⟨⟨d,g'⟩,h1,x,y,s',rfl,h2⟩:=this
  exact ⟨x,y,s',g',h1,h2⟩
 obtain ⟨u,hu⟩:∃ u,l[a]?=some u:=⟨_,c0l (by omega)⟩
 obtain ⟨v,hv⟩:∃ v,l[b]?=some v:=⟨_,c0l (by omega)⟩
 have lq:a0f tab g ty3 (.ptr q 0 0)=some (.int .i64 s):=by rw [b5K,a2b hq];rfl
 rw [b6J]
 simp only [b3S,adY ha,adY hb,a0R ho hu,a0R ho hv,bs,hcmp.ap,a0r,b9Y]
 by_cases hc:c v u<0
 ·simp only [hc,decide_true,a0b,if_true,a2i,bs,lq,a0k,b9Y]
  refine b8c (kk:=0) (off:=0) hq (row:=[.int .i64 s]) (by rfl) (by rfl) (by simp) (by rfl) fun g2 p2 s2=>?_
  simp only [bs,a0H]
  exact .some ⟨b,a,_,rfl,.inr ⟨rfl,rfl⟩,p2,s2⟩
 ·simp only [hc,decide_false,a0b,b9Z,if_false,a0H]
  exact .some ⟨a,b,s,rfl,.inl ⟨rfl,rfl⟩,hq,.refl _ _⟩
theorem b5y {c:Kd→Kd→Int} {cmp:D} (hcmp:CmpFY cmp c) {o N:Nat} {g:Hp} {l:List Kd} (hl:l.length=N) (ho:g[o]?=some (.row a0c 12 (l.map kdr))) (a b d:Nat) (ha:a<N) (hb:b<N) (hd:d<N) (q:Nat) (s:Int) (hq:g[q]?=some (.row ty3 1 [[.int .i64 s]])) (hqo:o≠q) :
  ∃ (m:Nat) (s':Int) (g':Hp),R a7n [.msl 12 o 0 N,.int .i64 (a:Int),.int .i64 (b:Int),.int .i64 (d:Int),.ptr q 0 0,cmp] g=some (.int .i64 (m:Int),g')∧(m=a∨m=b∨m=d)∧g'[q]?=some (.row ty3 1 [[.int .i64 s']])∧Same q g g':=by
 obtain ⟨x1,y1,s1,g1,e1,h1,q1,m1⟩:=b2V hcmp hl ho a b ha hb q s hq
 have ho1:g1[o]?=some (.row a0c 12 (l.map kdr)):=by rw [m1.2 o hqo];exact ho
 obtain ⟨x2,y2,s2,g2,e2,h2,q2,m2⟩:=b2V hcmp hl ho1 y1 d (by omega) hd q s1 q1
 have ho2:g2[o]?=some (.row a0c 12 (l.map kdr)):=by rw [m2.2 o hqo];exact ho1
 obtain ⟨x3,y3,s3,g3,e3,h3,q3,m3⟩:=b2V hcmp hl ho2 x1 x2 (by omega) (by omega) q s2 q2
 refine ⟨y3,s3,g3,?_,by omega,q3,(m1.trans m2).trans m3⟩
 rw [b6H]
 simp only [b3Q,e1,e2,e3,bs,a0K,c0a,c0b,a0y]
theorem b2T {c:Kd→Kd→Int} {cmp:D} (hcmp:CmpFY cmp c) {o N:Nat} (hN:N≤1000000) {g:Hp} {l:List Kd} (hl:l.length=N) (ho:g[o]?=some (.row a0c 12 (l.map kdr))) (a:Nat) (h0:1≤a) (ha:a+1<N) (q:Nat) (s:Int) (hq:g[q]?=some (.row ty3 1 [[.int .i64 s]])) (hqo:o≠q) :
  ∃ (m:Nat) (s':Int) (g':Hp),R a5L [.msl 12 o 0 N,.int .i64 (a:Int),.ptr q 0 0,cmp] g=some (.int .i64 (m:Int),g')∧(a≤m+1∧m≤a+1)∧g'[q]?=some (.row ty3 1 [[.int .i64 s']])∧Same q g g':=by
 obtain ⟨m,s',g',e,h1,h2⟩:=b5y hcmp hl ho (a - 1) a (a+1) (by omega) (by omega) ha q s hq hqo
 have w1:IntKind.wrap .i64 ((a:Int) - 1)=((a - 1:Nat):Int):=by rw [wrap_i64 (by omega) (by omega)];omega
 have w2:=wi_ a (by omega)
 refine ⟨m,s',g',?_,by omega,h2⟩
 rw [b6G]
 simp only [b3P,bs,a0n,a0k,w1,w2,e,a0y]
theorem b7C {c:Kd→Kd→Int} {cmp:D} (hcmp:CmpFY cmp c) {o N:Nat} (hN:N≤1000000) {g:Hp} {l:List Kd} (hl:l.length=N) (ho:g[o]?=some (.row a0c 12 (l.map kdr))) (a b:Nat) (hab:a+8≤b) (hb:b≤N) :
  ∃ (p:Nat) (t:Int),R a7h [.msl 12 o 0 N,.int .i64 (a:Int),.int .i64 (b:Int),cmp] g=some (.tup [.int .i64 (p:Int),.int .i64 t],g)∧a≤p∧p<b:=by
 suffices Wp (R a7h [.msl 12 o 0 N,.int .i64 (a:Int),.int .i64 (b:Int),cmp] g) (fun r=>∃ (p:Nat) (t:Int),r=(.tup [.int .i64 (p:Int),.int .i64 t],g)∧a≤p∧p<b) by
  obtain ⟨r,h1,p,t,rfl,h2⟩:=this
  exact ⟨p,t,h1,h2⟩
 obtain ⟨n,hn⟩:∃ n,n=b - a:=⟨_,rfl⟩
 have w1:IntKind.wrap .i64 ((b:Int) - (a:Int))=((n:Nat):Int):=by rw [wrap_i64 (by omega) (by omega)];omega
 obtain ⟨k,hk⟩:∃ k,k=n / 4:=⟨_,rfl⟩
 have wq:IntKind.wrap .i64 (Int.tdiv (n:Int) 4)=((k:Nat):Int):=by
  rw [show Int.tdiv (n:Int) 4=((n / 4:Nat):Int) from by rw [Int.tdiv_eq_ediv_of_nonneg (by omega)];omega,wrap_i64 (by omega) (by omega)];omega
 have wa:∀ m:Nat,m≤3→IntKind.wrap .i64 ((a:Int)+IntKind.wrap .i64 ((k:Int)*(m:Int)))=((a+k*m:Nat):Int):=fun m hm=>by
  have h1:k*m≤n:=by
   have:=Nat.mul_le_mul_left k hm
   omega
  have h2:(k:Int)*(m:Int)=((k*m:Nat):Int):=by simp
  have h3:IntKind.wrap .i64 ((k*m:Nat):Int)=((k*m:Nat):Int):=wrap_i64 (by omega) (by omega)
  rw [h2,h3,wrap_i64 (by omega) (by omega)];omega
 have ho':o<g.length:=(c0m.1 ho).1
 have q0:(a1p g ty3 1 [[.int .i64 0]])[g.length]?=some (.row ty3 1 [[.int .i64 0]]):=a2K _ _ _ _
 have l0:(a1p g ty3 1 [[.int .i64 0]]).length=g.length+1:=a5c _ _ _ _
 have k0:∀ q,q<g.length→(a1p g ty3 1 [[.int .i64 0]])[q]?=g[q]?:=fun q hq=>a2L _ _ _ _ hq
 have ho0:(a1p g ty3 1 [[.int .i64 0]])[o]?=some (.row a0c 12 (l.map kdr)):=by rw [k0 o ho'];exact ho
 have hsc:∀ (g2:Hp) (p:Nat) (t:Int),Same g.length (a1p g ty3 1 [[.int .i64 0]]) g2→scope g g2 (.tup [.int .i64 (p:Int),.int .i64 t])=some (.tup [.int .i64 (p:Int),.int .i64 t],g):=fun g2 p t sm=>a1G (by simp) (.tup _ fun d hd=>by
   simp only [c0r,List.not_mem_nil,or_false] at hd
   rcases hd with rfl | rfl
   ·exact .int _ _
   ·exact .int _ _) (by have:=sm.1;omega) fun q hq=>by rw [sm.2 q (by omega),k0 q hq]
 rw [b6w]
 have g8:decide ((n:Int)≥8)=true:=decide_eq_true (by omega)
 have a1:=wa 1 (by omega)
 have a2:=wa 2 (by omega)
 have a3:=wa 3 (by omega)
 simp only [Nat.mul_one] at a1
 simp only [b3F,bs,a0n,w1,a1B,show ¬ (4:Int)=0 by omega,if_false,wq,a1A,a0k,show (1:Int)=((1:Nat):Int) from rfl,show (2:Int)=((2:Nat):Int) from rfl,show (3:Int)=((3:Nat):Int) from rfl,a1,a2,a3,a0E,g8,a0b,if_true,b9Y]
 refine Wp.bind (P:=fun r=>r.1 = .nrm∧∃ (x y z:Nat) (s:Int),r.2.1=[.int .i64 (x:Int),.int .i64 (y:Int),.int .i64 (z:Int)]∧a≤x∧x<b∧a≤y∧y<b∧a≤z∧z<b∧r.2.2[g.length]?=some (.row ty3 1 [[.int .i64 s]])∧Same g.length (a1p g ty3 1 [[.int .i64 0]]) r.2.2) ?_ ?_
 ·by_cases h50:(n:Int)≥50
  ·simp only [h50,decide_true,a0b,if_true]
   obtain ⟨m1,s1,g1,e1,b1,q1,sm1⟩:=b2T hcmp hN hl ho0 (a+k) (by omega) (by omega) g.length 0 q0 (by omega)
   have ho1:g1[o]?=some (.row a0c 12 (l.map kdr)):=by rw [sm1.2 o (by omega)];exact ho0
   obtain ⟨m2,s2,g2,e2,b2,q2,sm2⟩:=b2T hcmp hN hl ho1 (a+k*2) (by omega) (by omega) g.length s1 q1 (by omega)
   have ho2:g2[o]?=some (.row a0c 12 (l.map kdr)):=by rw [sm2.2 o (by omega)];exact ho1
   obtain ⟨m3,s3,g3,e3,b3,q3,sm3⟩:=b2T hcmp hN hl ho2 (a+k*3) (by omega) (by omega) g.length s2 q2 (by omega)
   simp only [e1,e2,e3,bs]
   exact .some ⟨rfl,m1,m2,m3,s3,rfl,by omega,by omega,by omega,by omega,by omega,by omega,q3,(sm1.trans sm2).trans sm3⟩
  ·simp only [h50,decide_false,a0b,b9Z,if_false]
   exact .some ⟨rfl,a+k,a+k*2,a+k*3,0,rfl,by omega,by omega,by omega,by omega,by omega,by omega,q0,.refl _ _⟩
 ·rintro ⟨ex,ds,g4⟩ ⟨rfl,x,y,z,s,hds,x1,x2,y1,y2,z1,z2,q4,sm4⟩
  simp only at hds q4 sm4
  subst hds
  have ho4:g4[o]?=some (.row a0c 12 (l.map kdr)):=by rw [sm4.2 o (by omega)];exact ho0
  obtain ⟨m,s5,g5,e5,b5,q5,sm5⟩:=b5y hcmp hl ho4 x y z (by omega) (by omega) (by omega) g.length s q4 (by omega)
  have lq:a0f tab g5 ty3 (.ptr g.length 0 0)=some (.int .i64 s5):=by rw [b5K,a2b q5];rfl
  have hs:=hsc g5 m
  have sm6:=sm4.trans sm5
  simp only [a0p,a0g,a0i,e5,bs,lq,a1z,b9Y]
  by_cases h0:s5=0
  ·simp only [h0,decide_true,a0b,if_true,a0H,hs _ sm6]
   exact .some ⟨m,_,rfl,by omega,by omega⟩
  ·by_cases h12:s5=12
   ·simp only [h0,h12,decide_true,decide_false,a0b,b9Z,if_false,if_true,bs,a0H,hs _ sm6,show ¬ (12:Int)=0 by omega]
    exact .some ⟨m,_,rfl,by omega,by omega⟩
   ·simp only [h0,h12,decide_false,a0b,b9Z,if_false,bs,a0H,hs _ sm6]
    exact .some ⟨m,_,rfl,by omega,by omega⟩
theorem b7D {o N:Nat} (hN:N≤1000000) {g:Hp} {l:List Kd} (hl:l.length=N) (ho:g[o]?=some (.row a0c 12 (l.map kdr))) (a b:Nat) (hab:a<b) (hb:b≤N) (cmp:D) :
  Wp (R a8Q [.msl 12 o 0 N,.int .i64 (a:Int),.int .i64 (b:Int),cmp] g) fun p=>∃ l',p.2[o]?=some (.row a0c 12 (l'.map kdr))∧Seg a b l l'∧Same o g p.2:=by
 rw [b6x]
 have w1:IntKind.wrap .i64 ((b:Int) - 1)=((b - 1:Nat):Int):=by rw [wrap_i64 (by omega) (by omega)];omega
 simp only [b3G,bs,a0n,w1,b9Y]
 refine Wp.loop (fun n ds g'=>∃ x,∃ i j:Nat,∃ l',ds=[.int .i64 (i:Int),.int .i64 (j:Int),x]∧n=j+1∧a≤i∧j<b∧(i≤j+1)∧g'[o]?=some (.row a0c 12 (l'.map kdr))∧Seg a b l l'∧Same o g g')
  (fun r=>r.1 = .ext 0∧∃ l',r.2.2[o]?=some (.row a0c 12 (l'.map kdr))∧Seg a b l l'∧Same o g r.2.2) b ⟨_,a,b - 1,l,rfl,by omega,by omega,by omega,by omega,ho,.refl _ _ _,.refl _ _⟩ ?_ ?_
 ·rintro n ds g' ⟨x,i,j,l',rfl,hn,hi,hj,hij,ho',sg,sm⟩
  have hl':=sg.len
  simp only [a6L,a0g,a0i,bs,b9Y,a0r]
  refine Wp.dif ?_ ?_
  ·intro h0
   have h0:i<j:=by
    have:(i:Int)<(j:Int):=by simpa using h0
    omega
   obtain ⟨u,hu⟩:∃ u,l'[i]?=some u:=⟨_,c0l (by omega)⟩
   obtain ⟨v,hv⟩:∃ v,l'[j]?=some v:=⟨_,c0l (by omega)⟩
   have w2:=wi_ i (by omega)
   have w3:IntKind.wrap .i64 ((j:Int) - 1)=((j - 1:Nat):Int):=by rw [wrap_i64 (by omega) (by omega)];omega
   simp only [adY (show i<N by omega),adY (show j<N by omega),a0R ho' hu,a0R ho' hv,bs]
   refine swY ho' hu hv fun g2 p2 s2=>?_
   simp only [bs,a0k,a0n,w2,w3]
   exact .some (.inl ⟨rfl,j,by omega,_,i+1,j - 1,_,rfl,by omega,by omega,by omega,by omega,p2,sg.trans (a1l hu hv (by omega) (by omega) (by omega) (by omega)),sm.trans s2⟩)
  ·intro h0
   exact .some (.inr ⟨by simp,rfl,l',ho',sg,sm⟩)
 ·rintro ⟨ex,ds,g'⟩ ⟨rfl,l',h1,h2,h3⟩
  simp only [a0o,a1j,bs]
  exact .some ⟨l',h1,h2,h3⟩
theorem b5x {c:Kd→Kd→Int} (od:CmO c) {cmp:D} (hcmp:CmpFY cmp c) {o N:Nat} (hN:N≤1000000) {g:Hp} {l:List Kd} (hl:l.length=N) (ho:g[o]?=some (.row a0c 12 (l.map kdr))) (lo hi f:Nat) (hlo:lo≤N) (hb:f+hi≤N) :
  Wp (R a7m [.msl 12 o 0 N,.int .i64 (lo:Int),.int .i64 (hi:Int),.int .i64 (f:Int),cmp] g) fun p=>∃ l',p.2[o]?=some (.row a0c 12 (l'.map kdr))∧Seg f (f+hi) l l'∧(HeapE c f lo hi lo l→a6g c f lo hi l')∧Same o g p.2:=by
 rw [b6F]
 simp only [b3O,bs,b9Y]
 refine Wp.loop (fun n ds g'=>∃ x1 x2 x3 x4,∃ r:Nat,∃ l',ds=[.int .i64 (r:Int),x1,x2,x3,x4]∧n+r=hi+lo∧lo≤r∧g'[o]?=some (.row a0c 12 (l'.map kdr))∧Seg f (f+hi) l l'∧(HeapE c f lo hi lo l→HeapE c f lo hi r l')∧Same o g g')
  (fun r=>(r.1 = .ext 0∨r.1 = .ret)∧∃ l',r.2.2[o]?=some (.row a0c 12 (l'.map kdr))∧Seg f (f+hi) l l'∧(HeapE c f lo hi lo l→a6g c f lo hi l')∧Same o g r.2.2) hi ⟨_,_,_,_,lo,l,rfl,rfl,Nat.le_refl _,ho,.refl _ _ _,id,.refl _ _⟩ ?_ ?_
 ·rintro n ds g' ⟨x1,x2,x3,x4,r,l',rfl,hn,hr,ho',sg,hh,sm⟩
  have hl':=sg.len
  have w1:IntKind.wrap .i64 ((2:Int)*(r:Int))=((2*r:Nat):Int):=by rw [wrap_i64 (by omega) (by omega)];omega
  have w2:IntKind.wrap .i64 (((2*r:Nat):Int)+1)=((2*r+1:Nat):Int):=by rw [wrap_i64 (by omega) (by omega)];omega
  have w3:IntKind.wrap .i64 (((2*r+1:Nat):Int)+1)=((2*r+2:Nat):Int):=by rw [wrap_i64 (by omega) (by omega)];omega
  simp only [a6P,a0g,a0i,bs,b9Y,a1A,w1,a0k,w2,a0E]
  by_cases h0:hi≤2*r+1
  ·have d0:decide (((2*r+1:Nat):Int)≥(hi:Int))=true:=decide_eq_true (by omega)
   simp only [d0,a0b,if_true]
   exact .some (.inr ⟨by simp,.inl rfl,l',ho',sg,fun h=>(hh h).leaf h0,sm⟩)
  ·have d0:decide (((2*r+1:Nat):Int)≥(hi:Int))=false:=decide_eq_false (by omega)
   obtain ⟨u,hu⟩:∃ u,l'[f+(2*r+1)]?=some u:=⟨_,c0l (by omega)⟩
   obtain ⟨x,hx⟩:∃ x,l'[f+r]?=some x:=⟨_,c0l (by omega)⟩
   have wf1:IntKind.wrap .i64 ((f:Int)+((2*r+1:Nat):Int))=((f+(2*r+1):Nat):Int):=by rw [wrap_i64 (by omega) (by omega)];omega
   have wf2:IntKind.wrap .i64 (((f+(2*r+1):Nat):Int)+1)=((f+(2*r+2):Nat):Int):=by rw [wrap_i64 (by omega) (by omega)];omega
   have wf0:IntKind.wrap .i64 ((f:Int)+(r:Int))=((f+r:Nat):Int):=by rw [wrap_i64 (by omega) (by omega)];omega
   simp only [d0,a0b,b9Z,if_false,bs,w3,a0r,b9Y]
   obtain ⟨ch,hbc,hcase⟩:∃ ch,b5B c f hi r ch l'∧((¬ 2*r+2<hi∧2*r+1=ch)∨(2*r+2<hi∧∃ v,l'[f+(2*r+2)]?=some v∧((c u v<0∧2*r+2=ch)∨(¬ c u v<0∧2*r+1=ch)))):=by
    by_cases h2:2*r+2<hi
    ·obtain ⟨v,hv⟩:∃ v,l'[f+(2*r+2)]?=some v:=⟨_,c0l (by omega)⟩
     by_cases hc:c u v<0
     ·exact ⟨2*r+2,⟨.inr rfl,h2,fun d y z h3 h4 hy hz=>by
        rw [hv] at hy;injection hy with hy;subst hy
        rcases h3 with rfl | rfl
        ·rw [hu] at hz;injection hz with hz;subst hz;exact od.asm _ _ hc
        ·rw [hv] at hz;injection hz with hz;subst hz;exact od.irr _⟩,.inr ⟨h2,v,hv,.inl ⟨hc,rfl⟩⟩⟩
     ·exact ⟨2*r+1,⟨.inl rfl,by omega,fun d y z h3 h4 hy hz=>by
        rw [hu] at hy;injection hy with hy;subst hy
        rcases h3 with rfl | rfl
        ·rw [hu] at hz;injection hz with hz;subst hz;exact od.irr _
        ·rw [hv] at hz;injection hz with hz;subst hz;exact hc⟩,.inr ⟨h2,v,hv,.inr ⟨hc,rfl⟩⟩⟩
    ·exact ⟨2*r+1,⟨.inl rfl,by omega,fun d y z h3 h4 hy hz=>by
         rw [hu] at hy;injection hy with hy;subst hy
         rcases h3 with rfl | rfl
         ·rw [hu] at hz;injection hz with hz;subst hz;exact od.irr _
         ·omega⟩,.inl ⟨h2,rfl⟩⟩
   obtain ⟨y,hy⟩:∃ y,l'[f+ch]?=some y:=⟨_,c0l (by have:=hbc.2.1;omega)⟩
   have b1:=hbc.1
   have b2:=hbc.2.1
   have wfc:IntKind.wrap .i64 ((f:Int)+(ch:Int))=((f+ch:Nat):Int):=by rw [wrap_i64 (by omega) (by omega)];omega
   rcases hcase with ⟨h2,e⟩ | ⟨h2,v,hv,⟨hc2,e⟩ | ⟨hc2,e⟩⟩
   all_goals
    have d1:decide (((2*r+2:Nat):Int)<(hi:Int))=decide (2*r+2<hi):=decide_eq_decide.2 (by omega)
    simp only [d1,h2,decide_false,decide_true,a0u,a0w,a1n,reduceCtorEq,b9Z,if_false,if_true,bs,a0k,wf1,wf2,adY (show f+(2*r+1)<N by omega),a0R ho' hu,a0l,a0b]
    try simp only [adY (show f+(2*r+2)<N by omega),a0R ho' hv,hcmp.ap,a0r,bs,a0l,hc2,decide_true,decide_false,a0b,b9Z,if_false,if_true]
    rw [e]
    simp only [bs,a0p,a0g,a0k,wf0,wfc,adY (show f+r<N by omega),adY (show f+ch<N by omega),a0R ho' hx,a0R ho' hy,hcmp.ap,a0r,a0Y,b9Y]
    by_cases hc:c x y<0
    ·simp only [hc,decide_true,c0g,a0b,b9Z,if_false]
     refine swY ho' hx hy fun g2 p2 s2=>?_
     exact .some (.inl ⟨rfl,n - (ch - r),by omega,_,_,_,_,ch,_,rfl,by omega,by omega,p2,sg.trans (a1l hx hy (by omega) (by omega) (by omega) (by omega)),fun h=>(hh h).down od hr hbc hx hy hc,sm.trans s2⟩)
    ·simp only [hc,decide_false,c0h,a0b,if_true]
     exact .some (.inr ⟨by simp,.inr rfl,l',ho',sg,fun h=>(hh h).stop od hbc hx hy hc,sm⟩)
 ·rintro ⟨ex,ds,g'⟩ ⟨rfl | rfl,l',h1,h2,h3,h4⟩
  ·simp only [a0o,a1j,bs]
   exact .some ⟨l',h1,h2,h3,h4⟩
  ·simp only [a0Q,a1r,bs]
   exact .some ⟨l',h1,h2,h3,h4⟩
theorem b7A {c:Kd→Kd→Int} (od:CmO c) {cmp:D} (hcmp:CmpFY cmp c) {o N:Nat} (hN:N≤1000000) {g:Hp} {l:List Kd} (hl:l.length=N) (ho:g[o]?=some (.row a0c 12 (l.map kdr))) (a b:Nat) (hab:a<b) (hb:b≤N) :
  Wp (R a8O [.msl 12 o 0 N,.int .i64 (a:Int),.int .i64 (b:Int),cmp] g) fun p=>∃ l',p.2[o]?=some (.row a0c 12 (l'.map kdr))∧Seg a b l l'∧Srt c a b l'∧Same o g p.2:=by
 obtain ⟨n,hn⟩:∃ n,b=a+n:=⟨b - a,by omega⟩
 subst hn
 rw [b6u]
 have w1:IntKind.wrap .i64 (((a+n:Nat):Int) - (a:Int))=((n:Nat):Int):=by rw [wrap_i64 (by omega) (by omega)];omega
 have w2:IntKind.wrap .i64 ((n:Int) - 1)=((n - 1:Nat):Int):=by rw [wrap_i64 (by omega) (by omega)];omega
 have w3:IntKind.wrap .i64 (Int.tdiv ((n - 1:Nat):Int) 2)=(((n - 1) / 2+1:Nat):Int) - 1:=by
  rw [show Int.tdiv ((n - 1:Nat):Int) 2=(((n - 1) / 2:Nat):Int) from by rw [Int.tdiv_eq_ediv_of_nonneg (by omega)];omega,wrap_i64 (by omega) (by omega)];omega
 have dec:∀ i:Nat,i≤N→IntKind.wrap .i64 (((i+1:Nat):Int) - 1 - 1)=((i:Nat):Int) - 1:=fun i hi=>by rw [wrap_i64 (by omega) (by omega)];omega
 simp only [b3D,bs,a0n,w1,w2,a1B,show ¬ (2:Int)=0 by omega,if_false,w3,b9Y]
 refine Wp.loop (fun k ds g'=>∃ x,∃ l',ds=[.int .i64 ((k:Int) - 1),x]∧k≤n∧g'[o]?=some (.row a0c 12 (l'.map kdr))∧Seg a (a+n) l l'∧a6g c a k n l'∧Same o g g')
  (fun r=>r.1 = .ext 0∧∃ l',r.2.2[o]?=some (.row a0c 12 (l'.map kdr))∧Seg a (a+n) l l'∧a6g c a 0 n l'∧Same o g r.2.2) ((n - 1) / 2+1) ⟨_,l,rfl,by omega,ho,.refl _ _ _,fun i ch x y h1 h2 h3=>by omega,.refl _ _⟩ ?_ ?_
 ·rintro k ds g' ⟨x,l',rfl,hk,ho',sg,hh,sm⟩
  simp only [a6I,a0g,a0i,bs,b9Y,a0E]
  cases k with
  | zero =>
   have d0:decide ((((0:Nat):Int) - 1)≥0)=false:=rfl
   simp only [d0,a0b,b9Z,if_false]
   exact .some (.inr ⟨by simp,rfl,l',ho',sg,hh,sm⟩)
  | succ k =>
   have d0:decide ((((k+1:Nat):Int) - 1)≥0)=true:=decide_eq_true (by omega)
   have e0:(((k+1:Nat):Int) - 1)=(k:Int):=by omega
   simp only [d0,a0b,if_true,a0n,dec k (by omega)]
   rw [e0]
   refine Wp.bind (b5x od hcmp hN (sg.len.trans hl) ho' k n a (by omega) (by omega)) ?_
   rintro ⟨d,g2⟩ ⟨l2,p2,s2,hh2,m2⟩
   exact .some (.inl ⟨rfl,k,by omega,_,l2,rfl,by omega,p2,sg.trans s2,hh2 (.mk0 hh),sm.trans m2⟩)
 ·rintro ⟨ex,ds,g1⟩ ⟨rfl,l1,ho1,sg1,hh1,sm1⟩
  simp only at ho1 sm1
  have w4:((n - 1:Nat):Int)=(n:Int) - 1:=by omega
  simp only [a0o,a0p,bs,b9Y]
  rw [w4]
  refine Wp.loop (fun k ds g'=>∃ x,∃ l',ds=[.int .i64 ((k:Int) - 1),x]∧k≤n∧g'[o]?=some (.row a0c 12 (l'.map kdr))∧Seg a (a+n) l l'∧HS c a n k l'∧Same o g g')
   (fun r=>r.1 = .ext 2∧∃ l',r.2.2[o]?=some (.row a0c 12 (l'.map kdr))∧Seg a (a+n) l l'∧HS c a n 0 l'∧Same o g r.2.2) n ⟨_,l1,rfl,by omega,ho1,sg1,.mk0 hh1,sm1⟩ ?_ ?_
  ·rintro k ds g' ⟨x,l',rfl,hk,ho',sg,hh,sm⟩
   have hl':=sg.len.trans hl
   simp only [a6J,a0g,a0i,bs,b9Y,a0E]
   cases k with
   | zero =>
    have d0:decide ((((0:Nat):Int) - 1)≥0)=false:=rfl
    simp only [d0,a0b,b9Z,if_false]
    exact .some (.inr ⟨by simp,rfl,l',ho',sg,hh,sm⟩)
   | succ k =>
    have d0:decide ((((k+1:Nat):Int) - 1)≥0)=true:=decide_eq_true (by omega)
    have e0:(((k+1:Nat):Int) - 1)=(k:Int):=by omega
    have w5:IntKind.wrap .i64 ((a:Int)+(k:Int))=((a+k:Nat):Int):=by rw [wrap_i64 (by omega) (by omega)];omega
    obtain ⟨u,hu⟩:∃ u,l'[a]?=some u:=⟨_,c0l (by omega)⟩
    obtain ⟨v,hv⟩:∃ v,l'[a+k]?=some v:=⟨_,c0l (by omega)⟩
    simp only [d0,a0b,if_true,a0n,dec k (by omega)]
    rw [e0]
    simp only [a0k,w5,bs,adY (show a<N by omega),adY (show a+k<N by omega),a0R ho' hu,a0R ho' hv]
    refine swY ho' hu hv fun g2 p2 s2=>?_
    have hl2:((l'.set a v).set (a+k) u).length=N:=by simpa using hl'
    refine Wp.bind (b5x od hcmp hN hl2 p2 0 k a (by omega) (by omega)) ?_
    rintro ⟨d,g3⟩ ⟨l3,p3,s3,hh3,m3⟩
    exact .some (.inl ⟨rfl,k,by omega,_,l3,rfl,by omega,p3,sg.trans ((a1l hu hv (by omega) (by omega) (by omega) (by omega)).trans (s3.mono (Nat.le_refl _) (by omega))),hh.step od (by omega) (by omega) hu hv s3 (fun h=>hh3 (.mk0 h)),(sm.trans s2).trans m3⟩)
  ·rintro ⟨ex,ds,g2⟩ ⟨rfl,l2,ho2,sg2,hh2,sm2⟩
   simp only [a0o,a1j,bs]
   exact .some ⟨l2,ho2,sg2,hh2.fin,sm2⟩
theorem b5o {c:Kd→Kd→Int} (od:CmO c) {cmp:D} (hcmp:CmpFY cmp c) {o N:Nat} (hN:N≤1000000) {g:Hp} {l:List Kd} (hl:l.length=N) (ho:g[o]?=some (.row a0c 12 (l.map kdr))) (a b i:Nat) (hb:b≤N) (hi:a<i) (hib:i≤b) (st:Srt c a i l) (x0:D) {β:Type} {K:Out→Option β} {Q:β→Prop}
  (k:∀ (i':Nat) y,i≤i'→i'≤b→Srt c a i' l→(i'<b→∃ u v,l[i']?=some u∧l[i' - 1]?=some v∧c u v<0)→Wp (K (.ext 2,[.int .i64 (i':Int),y],g)) Q) :
  Wp ((a0v (a4D (.msl 12 o 0 N) (.int .i64 (b:Int)) cmp) [.int .i64 (i:Int),x0] g).bind K) Q:=by
 refine Wp.loop (fun n ds g'=>g'=g∧∃ x,∃ j:Nat,ds=[.int .i64 (j:Int),x]∧n+j=b∧i≤j∧Srt c a j l)
  (fun r=>r.1 = .ext 2∧r.2.2=g∧∃ x,∃ j:Nat,r.2.1=[.int .i64 (j:Int),x]∧i≤j∧j≤b∧Srt c a j l∧(j<b→∃ u v,l[j]?=some u∧l[j - 1]?=some v∧c u v<0)) (b - i) ⟨rfl,_,i,rfl,by omega,Nat.le_refl _,st⟩ ?_ ?_
 ·rintro n ds g' ⟨rfl,x,j,rfl,hn,hj,st⟩
  simp only [a4D,a0g,a0i,bs,b9Y,a0r]
  by_cases h0:j<b
  ·have d0:decide ((j:Int)<(b:Int))=true:=decide_eq_true (by omega)
   obtain ⟨u,hu⟩:∃ u,l[j]?=some u:=⟨_,c0l (by omega)⟩
   obtain ⟨v,hv⟩:∃ v,l[j - 1]?=some v:=⟨_,c0l (by omega)⟩
   have w1:IntKind.wrap .i64 ((j:Int) - 1)=((j - 1:Nat):Int):=by rw [wrap_i64 (by omega) (by omega)];omega
   have w2:=wi_ j (by omega)
   simp only [d0,a0u,a0w,if_true,bs,a0n,w1,adY (show j<N by omega),adY (show j - 1<N by omega),a0R ho hu,a0R ho hv,hcmp.ap,a0r,a0Y,a0l]
   by_cases hc:c u v<0
   ·simp only [hc,decide_true,c0g,a0b,b9Z,if_false]
    exact .some (.inr ⟨by simp,rfl,rfl,_,j,rfl,hj,by omega,st,fun _=>⟨u,v,hu,hv,hc⟩⟩)
   ·simp only [hc,decide_false,c0h,a0b,if_true,a0k,w2,bs]
    exact .some (.inl ⟨rfl,n - 1,by omega,rfl,_,j+1,rfl,by omega,by omega,st.more od (by omega) (by omega) fun x y hx hy=>by
     rw [hu] at hx;injection hx with hx;subst hx
     rw [hv] at hy;injection hy with hy;subst hy
     exact hc⟩)
  ·have d0:decide ((j:Int)<(b:Int))=false:=decide_eq_false (by omega)
   simp only [d0,a0u,a0w,a1n,reduceCtorEq,b9Z,if_false,bs,a0l,a0b]
   exact .some (.inr ⟨by simp,rfl,rfl,_,j,rfl,hj,by omega,st,fun h=>absurd h h0⟩)
 ·rintro ⟨ex,ds,g'⟩ ⟨rfl,rfl,y,j,hds,h1,h2,h3,h4⟩
  simp only at hds
  subst hds
  exact k j y h1 h2 h3 h4
theorem b5p {c:Kd→Kd→Int} (od:CmO c) {cmp:D} (hcmp:CmpFY cmp c) {o N:Nat} (hN:N≤1000000) {g:Hp} {l:List Kd} (hl:l.length=N) (ho:g[o]?=some (.row a0c 12 (l.map kdr))) (a i j:Nat) (hi:i≤N) (haj:a≤j) (hji:j<i) (st:SrtX c a i j l) (lw:Low c a i l) (x0 x1:D) {β:Type} {K:Out→Option β} {Q:β→Prop}
  (k:∀ u v w g' l',g'[o]?=some (.row a0c 12 (l'.map kdr))→Seg a i l l'→Srt c a i l'→Same o g g'→Wp (K (.ext 4,[u,v,w],g')) Q) :
  Wp ((a0v (a4E (.msl 12 o 0 N) cmp) [.int .i64 (j:Int),x0,x1] g).bind K) Q:=by
 refine Wp.loop (fun n ds g'=>∃ u v,∃ l',ds=[.int .i64 (n:Int),u,v]∧a≤n∧n<i∧g'[o]?=some (.row a0c 12 (l'.map kdr))∧Seg a i l l'∧SrtX c a i n l'∧Same o g g')
  (fun r=>r.1 = .ext 4∧(∃ u v w,r.2.1=[u,v,w])∧∃ l',r.2.2[o]?=some (.row a0c 12 (l'.map kdr))∧Seg a i l l'∧Srt c a i l'∧Same o g r.2.2) j ⟨_,_,l,rfl,haj,hji,ho,.refl _ _ _,st,.refl _ _⟩ ?_ ?_
 ·rintro n ds g' ⟨u0,v0,l',rfl,hn,hni,ho',sg,sx,sm⟩
  have hl':=sg.len.trans hl
  simp only [a4E,a0g,a0i,bs,b9Y,a0E]
  cases n with
  | zero =>
   have d0:decide (((0:Nat):Int)≥1)=false:=rfl
   simp only [d0,a0b,b9Z,if_false]
   exact .some (.inr ⟨by simp,rfl,⟨_,_,_,rfl⟩,l',ho',sg,sx.stop od (fun h=>by omega),sm⟩)
  | succ m =>
   have d0:decide (((m+1:Nat):Int)≥1)=true:=decide_eq_true (by omega)
   have w1:IntKind.wrap .i64 (((m+1:Nat):Int) - 1)=(m:Int):=by rw [wrap_i64 (by omega) (by omega)];omega
   obtain ⟨u,hu⟩:∃ u,l'[m+1]?=some u:=⟨_,c0l (by omega)⟩
   obtain ⟨v,hv⟩:∃ v,l'[m]?=some v:=⟨_,c0l (by omega)⟩
   simp only [d0,a0b,if_true,a0n,w1,bs,adY (show m+1<N by omega),adY (show m<N by omega),a0R ho' hu,a0R ho' hv,hcmp.ap,a0r,a0Y]
   by_cases hc:c u v<0
   ·have ham:a≤m:=by
      rcases Nat.lt_or_ge m a with h1 | h1
      ·exact absurd hc (od.asm _ _ (lw.seg sg m (m+1) v u h1 hn hni hv hu))
      ·exact h1
    simp only [hc,decide_true,c0g,a0b,b9Z,if_false]
    refine swY ho' hu hv fun g2 p2 s2=>?_
    try simp only [bs]
    exact .some (.inl ⟨rfl,m,by omega,_,_,_,rfl,ham,by omega,p2,sg.trans (a1l hu hv (by omega) (by omega) (by omega) (by omega)),sx.step od ham hni hu hv hc,sm.trans s2⟩)
   ·simp only [hc,decide_false,c0h,a0b,if_true]
    exact .some (.inr ⟨by simp,rfl,⟨_,_,_,rfl⟩,l',ho',sg,sx.stop od (fun h x y hx hy=>by
     rw [hu] at hx;injection hx with hx;subst hx
     rw [show m+1 - 1=m from rfl,hv] at hy;injection hy with hy;subst hy
     exact hc),sm⟩)
 ·rintro ⟨ex,ds,g'⟩ ⟨rfl,⟨u,v,w,hds⟩,l',h1,h2,h3,h4⟩
  simp only at hds
  subst hds
  exact k u v w g' l' h1 h2 h3 h4
theorem b5q {c:Kd→Kd→Int} {cmp:D} (hcmp:CmpFY cmp c) {o N:Nat} (hN:N≤1000000) {g:Hp} {l:List Kd} (hl:l.length=N) (ho:g[o]?=some (.row a0c 12 (l.map kdr))) (i j b:Nat) (hb:b≤N) (hij:i<j) (hjb:j≤b) (x0 x1:D) {β:Type} {K:Out→Option β} {Q:β→Prop}
  (k:∀ u v w g' l',g'[o]?=some (.row a0c 12 (l'.map kdr))→Seg i b l l'→Same o g g'→Wp (K (.ext 6,[u,v,w],g')) Q) :
  Wp ((a0v (a4F (.msl 12 o 0 N) (.int .i64 (b:Int)) cmp) [.int .i64 (j:Int),x0,x1] g).bind K) Q:=by
 refine Wp.loop (fun n ds g'=>∃ u v,∃ m:Nat,∃ l',ds=[.int .i64 (m:Int),u,v]∧n+m=b∧i<m∧g'[o]?=some (.row a0c 12 (l'.map kdr))∧Seg i b l l'∧Same o g g')
  (fun r=>r.1 = .ext 6∧(∃ u v w,r.2.1=[u,v,w])∧∃ l',r.2.2[o]?=some (.row a0c 12 (l'.map kdr))∧Seg i b l l'∧Same o g r.2.2) (b - j) ⟨_,_,j,l,rfl,by omega,hij,ho,.refl _ _ _,.refl _ _⟩ ?_ ?_
 ·rintro n ds g' ⟨u0,v0,m,l',rfl,hn,him,ho',sg,sm⟩
  have hl':=sg.len.trans hl
  simp only [a4F,a0g,a0i,bs,b9Y,a0r]
  by_cases h0:m<b
  ·have d0:decide ((m:Int)<(b:Int))=true:=decide_eq_true (by omega)
   have w1:IntKind.wrap .i64 ((m:Int) - 1)=((m - 1:Nat):Int):=by rw [wrap_i64 (by omega) (by omega)];omega
   have w2:=wi_ m (by omega)
   obtain ⟨u,hu⟩:∃ u,l'[m]?=some u:=⟨_,c0l (by omega)⟩
   obtain ⟨v,hv⟩:∃ v,l'[m - 1]?=some v:=⟨_,c0l (by omega)⟩
   simp only [d0,a0b,if_true,a0n,w1,bs,adY (show m<N by omega),adY (show m - 1<N by omega),a0R ho' hu,a0R ho' hv,hcmp.ap,a0r,a0Y]
   by_cases hc:c u v<0
   ·simp only [hc,decide_true,c0g,a0b,b9Z,if_false]
    refine swY ho' hu hv fun g2 p2 s2=>?_
    simp only [bs,a0k,w2]
    exact .some (.inl ⟨rfl,n - 1,by omega,_,_,m+1,_,rfl,by omega,by omega,p2,sg.trans (a1l hu hv (by omega) (by omega) (by omega) (by omega)),sm.trans s2⟩)
   ·simp only [hc,decide_false,c0h,a0b,if_true]
    exact .some (.inr ⟨by simp,rfl,⟨_,_,_,rfl⟩,l',ho',sg,sm⟩)
  ·have d0:decide ((m:Int)<(b:Int))=false:=decide_eq_false (by omega)
   simp only [d0,a0b,b9Z,if_false]
   exact .some (.inr ⟨by simp,rfl,⟨_,_,_,rfl⟩,l',ho',sg,sm⟩)
 ·rintro ⟨ex,ds,g'⟩ ⟨rfl,⟨u,v,w,hds⟩,l',h1,h2,h3⟩
  simp only at hds
  subst hds
  exact k u v w g' l' h1 h2 h3
theorem b7E {c:Kd→Kd→Int} (od:CmO c) {cmp:D} (hcmp:CmpFY cmp c) {o N:Nat} (hN:N≤1000000) {g:Hp} {l:List Kd} (hl:l.length=N) (ho:g[o]?=some (.row a0c 12 (l.map kdr))) (a b:Nat) (hab:a<b) (hb:b≤N) (lw:Low c a b l) :
  Wp (R a8R [.msl 12 o 0 N,.int .i64 (a:Int),.int .i64 (b:Int),cmp] g) fun p=>∃ (d:Bool) (l':List Kd),p.1 = .bool d∧p.2[o]?=some (.row a0c 12 (l'.map kdr))∧Seg a b l l'∧(d=true→Srt c a b l')∧Same o g p.2:=by
 rw [b6y]
 have w1:=wi_ a (by omega)
 have w2:IntKind.wrap .i64 ((b:Int) - (a:Int))=((b - a:Nat):Int):=by rw [wrap_i64 (by omega) (by omega)];omega
 simp only [b3H,bs,a0k,w1,b9Y]
 refine Wp.loop (fun n ds g'=>∃ x0 x3 x4 x5 x6 x7 x8 x9 y1 y2 y3 y4 y5,∃ i s:Nat,∃ l',ds=[x0,.int .i64 (i:Int),.int .i64 (s:Int),x3,x4,x5,x6,x7,x8,x9,y1,y2,y3,y4,y5]∧n+s=5∧a<i∧i≤b∧g'[o]?=some (.row a0c 12 (l'.map kdr))∧Seg a b l l'∧Srt c a i l'∧Same o g g')
  (fun r=>(r.1 = .ext 0∧∃ l',r.2.2[o]?=some (.row a0c 12 (l'.map kdr))∧Seg a b l l'∧Same o g r.2.2)∨(r.1 = .ret∧∃ (d:Bool) (l':List Kd),nth 0 r.2.1 = .bool d∧r.2.2[o]?=some (.row a0c 12 (l'.map kdr))∧Seg a b l l'∧(d=true→Srt c a b l')∧Same o g r.2.2)) 5 ⟨_,_,_,_,_,_,_,_,_,_,_,_,_,a+1,0,l,rfl,rfl,by omega,by omega,ho,.refl _ _ _,.one,.refl _ _⟩ ?_ ?_
 ·rintro n ds g' ⟨x0,x3,x4,x5,x6,x7,x8,x9,y1,y2,y3,y4,y5,i,s,l',rfl,hn,hi,hib,ho',sg,st,sm⟩
  have hl':=sg.len.trans hl
  have ws:=wi_ s (by omega)
  simp only [a6M,a0g,a0i,bs,b9Y,a0r]
  refine Wp.dif ?_ ?_
  ·intro h0
   have h0:s<5:=dl_ h0
   refine b5o od hcmp hN hl' ho' a b i hb hi hib st _ fun j y hij hjb st2 hd=>?_
   simp only [a0o,a0p,bs,a0g,a0i,a1z,a0n,w2,a0r,b9Y]
   by_cases hjb2:j=b
   ·subst hjb2
    simp only [decide_true,a0b,if_true]
    exact .some (.inr ⟨by simp,.inr ⟨rfl,true,l',rfl,ho',sg,fun _=>st2,sm⟩⟩)
   ·have d1:decide ((j:Int)=(b:Int))=false:=decide_eq_false (by omega)
    simp only [d1,a0b,b9Z,if_false,bs]
    by_cases h50:b - a<50
    ·have d2:decide (((b - a:Nat):Int)<50)=true:=decide_eq_true (by omega)
     simp only [d2,a0b,if_true]
     exact .some (.inr ⟨by simp,.inr ⟨rfl,false,l',rfl,ho',sg,(fun h=>by cases h),sm⟩⟩)
    ·have d2:decide (((b - a:Nat):Int)<50)=false:=decide_eq_false (by omega)
     obtain ⟨u,v,hu,hv,hc⟩:=hd (by omega)
     obtain ⟨m,rfl⟩:∃ m,j=m+1:=⟨j - 1,by omega⟩
     rw [show m+1 - 1=m from rfl] at hv
     have w3:IntKind.wrap .i64 (((m+1:Nat):Int) - 1)=(m:Int):=by rw [wrap_i64 (by omega) (by omega)];omega
     have w4:IntKind.wrap .i64 (((m+1:Nat):Int) - (a:Int))=((m+1 - a:Nat):Int):=by rw [wrap_i64 (by omega) (by omega)];omega
     have w5:IntKind.wrap .i64 ((b:Int) - ((m+1:Nat):Int))=((b - (m+1):Nat):Int):=by rw [wrap_i64 (by omega) (by omega)];omega
     have w6:IntKind.wrap .i64 (((m+1:Nat):Int)+1)=((m+2:Nat):Int):=by rw [wrap_i64 (by omega) (by omega)];omega
     simp only [d2,a0b,b9Z,if_false,w3,bs,adY (show m+1<N by omega),adY (show m<N by omega),a0R ho' hu,a0R ho' hv]
     refine swY ho' hu hv fun g2 p2 s2=>?_
     have hsg2:Seg a b l' ((l'.set (m+1) v).set m u):=a1l hu hv (by omega) (by omega) (by omega) (by omega)
     have sx2:=st2.swX hu hv
     have hl2:=hsg2.len.trans hl'
     generalize (l'.set (m+1) v).set m u=l2 at p2 hsg2 sx2 hl2
     simp only [bs,a0n,w4,a0E,b9Y]
     refine Wp.bind (P:=fun r=>r.1 = .nrm∧∃ l3,r.2.2[o]?=some (.row a0c 12 (l3.map kdr))∧Seg a b l2 l3∧Srt c a (m+1) l3∧Same o g2 r.2.2) ?_ ?_
     ·by_cases hge:m+1 - a≥2
      ·have d3:decide (((m+1 - a:Nat):Int)≥2)=true:=decide_eq_true (by omega)
       simp only [d3,a0b,if_true,w3,bs,b9Y]
       refine b5p od hcmp hN hl2 p2 a (m+1) m (by omega) (by omega) (by omega) sx2 (fun p q x y h1 h2 h3 hx hy=>(lw.seg (sg.trans hsg2)) p q x y h1 h2 (by omega) hx hy) _ _ fun u1 v1 w1' g3 l3 p3 s3 st3 m3=>?_
       simp only [a0o,bs]
       exact .some ⟨rfl,l3,p3,s3.mono (Nat.le_refl _) (by omega),st3,m3⟩
      ·have d3:decide (((m+1 - a:Nat):Int)≥2)=false:=decide_eq_false (by omega)
       simp only [d3,a0b,b9Z,if_false]
       have:m=a:=by omega
       subst this
       exact .some ⟨rfl,l2,p2,.refl _ _ _,.one,.refl _ _⟩
     ·rintro ⟨ex,ds3,g3⟩ ⟨rfl,l3,p3,s3,st3,m3⟩
      simp only at p3 m3
      have hl3:=s3.len.trans hl2
      simp only [a0p,bs,a0n,w5,a0E,b9Y]
      refine Wp.bind (P:=fun r=>r.1 = .nrm∧∃ l4,r.2.2[o]?=some (.row a0c 12 (l4.map kdr))∧Seg (m+1) b l3 l4∧Same o g3 r.2.2) ?_ ?_
      ·by_cases hge:b - (m+1)≥2
       ·have d3:decide (((b - (m+1):Nat):Int)≥2)=true:=decide_eq_true (by omega)
        simp only [d3,a0b,if_true,a0k,w6,bs,b9Y]
        refine b5q hcmp hN hl3 p3 (m+1) (m+2) b hb (by omega) (by omega) _ _ fun u1 v1 w1' g4 l4 p4 s4 m4=>?_
        simp only [a0o,bs]
        exact .some ⟨rfl,l4,p4,s4,m4⟩
       ·have d3:decide (((b - (m+1):Nat):Int)≥2)=false:=decide_eq_false (by omega)
        simp only [d3,a0b,b9Z,if_false]
        exact .some ⟨rfl,l3,p3,.refl _ _ _,.refl _ _⟩
      ·rintro ⟨ex,ds4,g4⟩ ⟨rfl,l4,p4,s4,m4⟩
       simp only at p4 m4
       simp only [a1b,a0p,bs,a0k,ws,a0g,a0i]
       exact .some (.inl ⟨rfl,n - 1,by omega,_,_,_,_,_,_,_,_,_,_,_,_,_,m+1,s+1,l4,rfl,by omega,by omega,by omega,p4,((sg.trans hsg2).trans s3).trans (s4.mono (by omega) (Nat.le_refl _)),st3.keep s4,((sm.trans s2).trans m3).trans m4⟩)
  ·intro h0
   exact .some (.inr ⟨by simp,.inl ⟨rfl,l',ho',sg,sm⟩⟩)
 ·rintro ⟨ex,ds,g'⟩ (⟨rfl,l',h1,h2,h3⟩ | ⟨rfl,d,l',hd,h1,h2,hs,h3⟩)
  ·simp only [a0o,a0p,bs,a0y]
   exact .some ⟨false,l',rfl,h1,h2,(fun h=>by cases h),h3⟩
  ·simp only at hd
   simp only [a0Q,a1L,a1r,bs,a0g,hd,a0y]
   exact .some ⟨d,l',rfl,h1,h2,hs,h3⟩
theorem b5r {c:Kd→Kd→Int} {cmp:D} (hcmp:CmpFY cmp c) {o N:Nat} (hN:N≤1000000) {g:Hp} {l:List Kd} (hl:l.length=N) (ho:g[o]?=some (.row a0c 12 (l.map kdr))) (a b i j:Nat) (p:Kd) (hb:b≤N) (hp:PI c a b i j p l) (x0:D) {β:Type} {K:Out→Option β} {Q:β→Prop}
  (k:∀ (i':Nat) y,PI c a b i' j p l→i≤i'→(i'≤j→∃ u,l[i']?=some u∧¬ c u p<0)→Wp (K (.ext 0,[.int .i64 (i':Int),y],g)) Q) :
  Wp ((a0v (a4G (.msl 12 o 0 N) (.int .i64 (a:Int)) cmp (.int .i64 (j:Int))) [.int .i64 (i:Int),x0] g).bind K) Q:=by
 have hab:a<b:=by have:=hp.i1;have:=hp.ij;have:=hp.jb;omega
 refine Wp.loop (fun n ds g'=>g'=g∧∃ x,∃ i':Nat,ds=[.int .i64 (i':Int),x]∧n+i'=j+1∧PI c a b i' j p l∧i≤i')
  (fun r=>r.1 = .ext 0∧r.2.2=g∧∃ x,∃ i':Nat,r.2.1=[.int .i64 (i':Int),x]∧PI c a b i' j p l∧i≤i'∧(i'≤j→∃ u,l[i']?=some u∧¬ c u p<0)) (j+1 - i) ⟨rfl,_,i,rfl,by have:=hp.ij;omega,hp,Nat.le_refl _⟩ ?_ ?_
 ·rintro n ds g' ⟨rfl,x,i',rfl,hn,hp',hi⟩
  have hjb:=hp'.jb
  simp only [a4G,a0g,a0i,bs,b9Y,a0O]
  by_cases h0:i'≤j
  ·have d0:decide ((i':Int)≤(j:Int))=true:=decide_eq_true (by omega)
   obtain ⟨u,hu⟩:∃ u,l[i']?=some u:=⟨_,c0l (by omega)⟩
   have w2:IntKind.wrap .i64 ((i':Int)+1)=((i'+1:Nat):Int):=by rw [wrap_i64 (by omega) (by omega)];omega
   simp only [d0,a0u,a0w,if_true,bs,adY (show i'<N by omega),adY (show a<N by omega),a0R ho hu,a0R ho hp'.pv,hcmp.ap,a0r,a0l]
   by_cases hc:c u p<0
   ·simp only [hc,decide_true,a0b,if_true,a0k,w2,bs]
    exact .some (.inl ⟨rfl,n - 1,by omega,rfl,_,i'+1,rfl,by omega,hp'.up h0 hu hc,by omega⟩)
   ·simp only [hc,decide_false,a0b,b9Z,if_false]
    exact .some (.inr ⟨by simp,rfl,rfl,_,i',rfl,hp',hi,fun _=>⟨u,hu,hc⟩⟩)
  ·have d0:decide ((i':Int)≤(j:Int))=false:=decide_eq_false (by omega)
   simp only [d0,a0u,a0w,a1n,reduceCtorEq,b9Z,if_false,bs,a0l,a0b]
   exact .some (.inr ⟨by simp,rfl,rfl,_,i',rfl,hp',hi,fun h=>absurd h h0⟩)
 ·rintro ⟨ex,ds,g'⟩ ⟨rfl,rfl,y,i',hds,h1,h2,h3⟩
  simp only at hds
  subst hds
  exact k i' y h1 h2 h3
theorem b5s {c:Kd→Kd→Int} {cmp:D} (hcmp:CmpFY cmp c) {o N:Nat} (hN:N≤1000000) {g:Hp} {l:List Kd} (hl:l.length=N) (ho:g[o]?=some (.row a0c 12 (l.map kdr))) (a b i j:Nat) (p:Kd) (hb:b≤N) (hp:PI c a b i j p l) (r_1:Out) (hr:nth 0 r_1.2.1 = .int .i64 (i:Int)) (x0:D) {β:Type} {K:Out→Option β} {Q:β→Prop}
  (k:∀ (j':Nat) y,PI c a b i j' p l→j'≤j→(i≤j'→∃ u,l[j']?=some u∧c u p<0)→Wp (K (.ext 2,[.int .i64 (j':Int),y],g)) Q) :
  Wp ((a0v (a4H (.msl 12 o 0 N) (.int .i64 (a:Int)) cmp r_1) [.int .i64 (j:Int),x0] g).bind K) Q:=by
 have hab:a<b:=by have:=hp.i1;have:=hp.ij;have:=hp.jb;omega
 refine Wp.loop (fun n ds g'=>g'=g∧∃ x,ds=[.int .i64 (n:Int),x]∧n≤j∧PI c a b i n p l)
  (fun r=>r.1 = .ext 2∧r.2.2=g∧∃ x,∃ j':Nat,r.2.1=[.int .i64 (j':Int),x]∧PI c a b i j' p l∧j'≤j∧(i≤j'→∃ u,l[j']?=some u∧c u p<0)) j ⟨rfl,_,rfl,Nat.le_refl _,hp⟩ ?_ ?_
 ·rintro n ds g' ⟨rfl,x,rfl,hn,hp'⟩
  have hjb:=hp'.jb
  simp only [a4H,a0g,a0i,bs,b9Y,hr,a0O]
  by_cases h0:i≤n
  ·have d0:decide ((i:Int)≤(n:Int))=true:=decide_eq_true (by omega)
   obtain ⟨u,hu⟩:∃ u,l[n]?=some u:=⟨_,c0l (by omega)⟩
   simp only [d0,a0u,a0w,if_true,bs,adY (show n<N by omega),adY (show a<N by omega),a0R ho hu,a0R ho hp'.pv,hcmp.ap,a0r,a0Y,a0l]
   by_cases hc:c u p<0
   ·simp only [hc,decide_true,c0g,a0b,b9Z,if_false]
    exact .some (.inr ⟨by simp,rfl,rfl,_,n,rfl,hp',hn,fun _=>⟨u,hu,hc⟩⟩)
   ·obtain ⟨m,rfl⟩:∃ m,n=m+1:=⟨n - 1,by have:=hp'.i1;omega⟩
    have w2:IntKind.wrap .i64 (((m+1:Nat):Int) - 1)=(m:Int):=by rw [wrap_i64 (by omega) (by omega)];omega
    simp only [hc,decide_false,c0h,a0b,if_true,a0n,w2,bs]
    exact .some (.inl ⟨rfl,m,by omega,rfl,_,rfl,by omega,hp'.down h0 hu hc⟩)
  ·have d0:decide ((i:Int)≤(n:Int))=false:=decide_eq_false (by omega)
   simp only [d0,a0u,a0w,a1n,reduceCtorEq,b9Z,if_false,bs,a0l,a0b]
   exact .some (.inr ⟨by simp,rfl,rfl,_,n,rfl,hp',hn,fun h=>absurd h h0⟩)
 ·rintro ⟨ex,ds,g'⟩ ⟨rfl,rfl,y,j',hds,h1,h2,h3⟩
  simp only at hds
  subst hds
  exact k j' y h1 h2 h3
theorem b5t {c:Kd→Kd→Int} {cmp:D} (hcmp:CmpFY cmp c) {o N:Nat} (hN:N≤1000000) {g:Hp} {l:List Kd} (hl:l.length=N) (ho:g[o]?=some (.row a0c 12 (l.map kdr))) (a b i j:Nat) (p:Kd) (hb:b≤N) (hp:PI c a b i j p l) (ds2:List D) (hr:nth 1 ds2 = .int .i64 (j:Int)) (x0:D) {β:Type} {K:Out→Option β} {Q:β→Prop}
  (k:∀ (i':Nat) y,PI c a b i' j p l→i≤i'→(i'≤j→∃ u,l[i']?=some u∧¬ c u p<0)→Wp (K (.ext 6,[.int .i64 (i':Int),y],g)) Q) :
  Wp ((a0v (a4I (.msl 12 o 0 N) (.int .i64 (a:Int)) cmp ds2) [.int .i64 (i:Int),x0] g).bind K) Q:=by
 have hab:a<b:=by have:=hp.i1;have:=hp.ij;have:=hp.jb;omega
 refine Wp.loop (fun n ds g'=>g'=g∧∃ x,∃ i':Nat,ds=[.int .i64 (i':Int),x]∧n+i'=j+1∧PI c a b i' j p l∧i≤i')
  (fun r=>r.1 = .ext 6∧r.2.2=g∧∃ x,∃ i':Nat,r.2.1=[.int .i64 (i':Int),x]∧PI c a b i' j p l∧i≤i'∧(i'≤j→∃ u,l[i']?=some u∧¬ c u p<0)) (j+1 - i) ⟨rfl,_,i,rfl,by have:=hp.ij;omega,hp,Nat.le_refl _⟩ ?_ ?_
 ·rintro n ds g' ⟨rfl,x,i',rfl,hn,hp',hi⟩
  have hjb:=hp'.jb
  simp only [a4I,a0g,a0i,bs,b9Y,hr,a0O]
  by_cases h0:i'≤j
  ·have d0:decide ((i':Int)≤(j:Int))=true:=decide_eq_true (by omega)
   obtain ⟨u,hu⟩:∃ u,l[i']?=some u:=⟨_,c0l (by omega)⟩
   have w2:IntKind.wrap .i64 ((i':Int)+1)=((i'+1:Nat):Int):=by rw [wrap_i64 (by omega) (by omega)];omega
   simp only [d0,a0u,a0w,if_true,bs,adY (show i'<N by omega),adY (show a<N by omega),a0R ho hu,a0R ho hp'.pv,hcmp.ap,a0r,a0l]
   by_cases hc:c u p<0
   ·simp only [hc,decide_true,a0b,if_true,a0k,w2,bs]
    exact .some (.inl ⟨rfl,n - 1,by omega,rfl,_,i'+1,rfl,by omega,hp'.up h0 hu hc,by omega⟩)
   ·simp only [hc,decide_false,a0b,b9Z,if_false]
    exact .some (.inr ⟨by simp,rfl,rfl,_,i',rfl,hp',hi,fun _=>⟨u,hu,hc⟩⟩)
  ·have d0:decide ((i':Int)≤(j:Int))=false:=decide_eq_false (by omega)
   simp only [d0,a0u,a0w,a1n,reduceCtorEq,b9Z,if_false,bs,a0l,a0b]
   exact .some (.inr ⟨by simp,rfl,rfl,_,i',rfl,hp',hi,fun h=>absurd h h0⟩)
 ·rintro ⟨ex,ds,g'⟩ ⟨rfl,rfl,y,i',hds,h1,h2,h3⟩
  simp only at hds
  subst hds
  exact k i' y h1 h2 h3
theorem b5u {c:Kd→Kd→Int} {cmp:D} (hcmp:CmpFY cmp c) {o N:Nat} (hN:N≤1000000) {g:Hp} {l:List Kd} (hl:l.length=N) (ho:g[o]?=some (.row a0c 12 (l.map kdr))) (a b i j:Nat) (p:Kd) (hb:b≤N) (hp:PI c a b i j p l) (r_1:Out) (hr:nth 0 r_1.2.1 = .int .i64 (i:Int)) (x0:D) {β:Type} {K:Out→Option β} {Q:β→Prop}
  (k:∀ (j':Nat) y,PI c a b i j' p l→j'≤j→(i≤j'→∃ u,l[j']?=some u∧c u p<0)→Wp (K (.ext 8,[.int .i64 (j':Int),y],g)) Q) :
  Wp ((a0v (a4J (.msl 12 o 0 N) (.int .i64 (a:Int)) cmp r_1) [.int .i64 (j:Int),x0] g).bind K) Q:=by
 have hab:a<b:=by have:=hp.i1;have:=hp.ij;have:=hp.jb;omega
 refine Wp.loop (fun n ds g'=>g'=g∧∃ x,ds=[.int .i64 (n:Int),x]∧n≤j∧PI c a b i n p l)
  (fun r=>r.1 = .ext 8∧r.2.2=g∧∃ x,∃ j':Nat,r.2.1=[.int .i64 (j':Int),x]∧PI c a b i j' p l∧j'≤j∧(i≤j'→∃ u,l[j']?=some u∧c u p<0)) j ⟨rfl,_,rfl,Nat.le_refl _,hp⟩ ?_ ?_
 ·rintro n ds g' ⟨rfl,x,rfl,hn,hp'⟩
  have hjb:=hp'.jb
  simp only [a4J,a0g,a0i,bs,b9Y,hr,a0O]
  by_cases h0:i≤n
  ·have d0:decide ((i:Int)≤(n:Int))=true:=decide_eq_true (by omega)
   obtain ⟨u,hu⟩:∃ u,l[n]?=some u:=⟨_,c0l (by omega)⟩
   simp only [d0,a0u,a0w,if_true,bs,adY (show n<N by omega),adY (show a<N by omega),a0R ho hu,a0R ho hp'.pv,hcmp.ap,a0r,a0Y,a0l]
   by_cases hc:c u p<0
   ·simp only [hc,decide_true,c0g,a0b,b9Z,if_false]
    exact .some (.inr ⟨by simp,rfl,rfl,_,n,rfl,hp',hn,fun _=>⟨u,hu,hc⟩⟩)
   ·obtain ⟨m,rfl⟩:∃ m,n=m+1:=⟨n - 1,by have:=hp'.i1;omega⟩
    have w2:IntKind.wrap .i64 (((m+1:Nat):Int) - 1)=(m:Int):=by rw [wrap_i64 (by omega) (by omega)];omega
    simp only [hc,decide_false,c0h,a0b,if_true,a0n,w2,bs]
    exact .some (.inl ⟨rfl,m,by omega,rfl,_,rfl,by omega,hp'.down h0 hu hc⟩)
  ·have d0:decide ((i:Int)≤(n:Int))=false:=decide_eq_false (by omega)
   simp only [d0,a0u,a0w,a1n,reduceCtorEq,b9Z,if_false,bs,a0l,a0b]
   exact .some (.inr ⟨by simp,rfl,rfl,_,n,rfl,hp',hn,fun h=>absurd h h0⟩)
 ·rintro ⟨ex,ds,g'⟩ ⟨rfl,rfl,y,j',hds,h1,h2,h3⟩
  simp only at hds
  subst hds
  exact k j' y h1 h2 h3
theorem b7F {c:Kd→Kd→Int} (od:CmO c) {cmp:D} (hcmp:CmpFY cmp c) {o N:Nat} (hN:N≤1000000) {g:Hp} {l:List Kd} (hl:l.length=N) (ho:g[o]?=some (.row a0c 12 (l.map kdr))) (a b pv:Nat) (hb:b≤N) (hp1:a≤pv) (hp2:pv<b) :
  Wp (R a8S [.msl 12 o 0 N,.int .i64 (a:Int),.int .i64 (b:Int),.int .i64 (pv:Int),cmp] g) fun r=>∃ (m:Nat) (d:Bool) (l':List Kd),r.1 = .tup [.int .i64 (m:Int),.bool d]∧r.2[o]?=some (.row a0c 12 (l'.map kdr))∧Seg a b l l'∧Part c a b m l'∧Same o g r.2:=by
 rw [b6z]
 obtain ⟨x,hx⟩:∃ x,l[a]?=some x:=⟨_,c0l (by omega)⟩
 obtain ⟨p,hp⟩:∃ p,l[pv]?=some p:=⟨_,c0l (by omega)⟩
 have w1:=wi_ a (by omega)
 have w2:IntKind.wrap .i64 ((b:Int) - 1)=((b - 1:Nat):Int):=by rw [wrap_i64 (by omega) (by omega)];omega
 simp only [b3I,bs,adY (show pv<N by omega),adY (show a<N by omega),a0R ho hx,a0R ho hp,b9Y]
 refine swY ho hx hp fun g1 p1 s1=>?_
 have sg1:Seg a b l ((l.set a p).set pv x):=a1l hx hp (by omega) (by omega) (by omega) (by omega)
 have pv1:((l.set a p).set pv x)[a]?=some p:=by
  rw [a2U hx hp]
  split
  ·rename_i e
   subst e
   rw [hx] at hp
   exact hp
  ·rw [if_pos rfl]
 have hl1:=sg1.len.trans hl
 generalize (l.set a p).set pv x=l1 at p1 sg1 pv1 hl1
 have P1:PI c a b (a+1) (b - 1) p l1:=⟨pv1,by omega,by omega,by omega,fun k x h1 h2=>by omega,fun k x h1 h2=>by omega⟩
 simp only [bs,a0k,w1,a0n,w2,b9Y]
 refine b5r hcmp hN hl1 p1 a b _ _ p hb P1 _ fun i1 y1 P2 hi1 hd1=>?_
 simp only [a0o,a0p,bs,a0g,a0i,b9Y]
 refine b5s hcmp hN hl1 p1 a b _ _ p hb P2 _ (by rfl) _ fun j1 y2 P3 hj1 hd2=>?_
 have hjb3:=P3.jb
 have hi3:=P3.i1
 have hij3:=P3.ij
 simp only [a0o,a0p,bs,a0g,a0i,a1c,b9Y]
 obtain ⟨q,hq⟩:∃ q,l1[j1]?=some q:=⟨_,c0l (by omega)⟩
 by_cases hij:i1>j1
 ·have d0:decide ((i1:Int)>(j1:Int))=true:=decide_eq_true (by omega)
  have e1:i1=j1+1:=by omega
  subst e1
  simp only [d0,a0b,if_true,adY (show a<N by omega),adY (show j1<N by omega),a0R p1 pv1,a0R p1 hq,bs]
  refine swY p1 hq pv1 fun g2 p2 s2=>?_
  obtain ⟨pt,sg2⟩:=P3.part hq
  simp only [bs,a0H]
  exact .some ⟨j1,true,_,rfl,p2,sg1.trans sg2,pt,s1.trans s2⟩
 ·have d0:decide ((i1:Int)>(j1:Int))=false:=decide_eq_false (by omega)
  obtain ⟨u,hu,hcu⟩:=hd1 (by omega)
  obtain ⟨v,hv,hcv⟩:=hd2 (by omega)
  have hne:i1≠j1:=fun e=>by
   subst e
   rw [hu] at hv
   injection hv with hv
   subst hv
   exact hcu hcv
  have w3:=wi_ i1 (by omega)
  have w4:IntKind.wrap .i64 ((j1:Int) - 1)=((j1 - 1:Nat):Int):=by rw [wrap_i64 (by omega) (by omega)];omega
  simp only [d0,a0b,b9Z,if_false,adY (show i1<N by omega),adY (show j1<N by omega),a0R p1 hu,a0R p1 hv,bs,b9Y]
  refine swY p1 hu hv fun g2 p2 s2=>?_
  have P4:=P3.swap (by omega) hu hv hcu hcv
  have sg2:Seg a b l1 ((l1.set i1 v).set j1 u):=a1l hu hv (by omega) (by omega) (by omega) (by omega)
  have hl2:=sg2.len.trans hl1
  generalize (l1.set i1 v).set j1 u=l2 at p2 P4 sg2 hl2
  simp only [bs,a0k,a0n,w3,w4,b9Y]
  refine Wp.loop (fun n ds g'=>∃ x2 x3 x4,∃ i j:Nat,∃ l',ds=[.int .i64 (i:Int),.int .i64 (j:Int),x2,x3,x4]∧n+i=j+1∧g'[o]?=some (.row a0c 12 (l'.map kdr))∧Seg a b l2 l'∧PI c a b i j p l'∧Same o g2 g')
   (fun r=>r.1 = .ext 4∧∃ j:Nat,∃ l',nth 1 r.2.1 = .int .i64 (j:Int)∧r.2.2[o]?=some (.row a0c 12 (l'.map kdr))∧Seg a b l2 l'∧PI c a b (j+1) j p l'∧Same o g2 r.2.2) (j1 - 1+1 - (i1+1)) ⟨_,_,_,i1+1,j1 - 1,l2,rfl,by omega,p2,.refl _ _ _,P4,.refl _ _⟩ ?_ ?_
  ·rintro n ds g' ⟨x2,x3,x4,i,j,l',rfl,hn,ho',sg,hP,sm⟩
   have hl':=sg.len.trans hl2
   simp only [a6N,a0g,a0i,bs,b9Y]
   refine b5t hcmp hN hl' ho' a b _ _ p hb hP _ (by rfl) _ fun i2 y3 P5 hi2 hd3=>?_
   simp only [a0o,a0p,bs,a0g,a0i,b9Y]
   refine b5u hcmp hN hl' ho' a b _ _ p hb P5 _ (by rfl) _ fun j2 y4 P6 hj2 hd4=>?_
   have hjb6:=P6.jb
   have hi6:=P6.i1
   have hij6:=P6.ij
   simp only [a0o,a0p,bs,a0g,a0i,a1c,b9Y]
   by_cases hij:i2>j2
   ·have d0:decide ((i2:Int)>(j2:Int))=true:=decide_eq_true (by omega)
    have e1:i2=j2+1:=by omega
    subst e1
    simp only [d0,a0b,if_true]
    exact .some (.inr ⟨by simp,rfl,j2,l',rfl,ho',sg,P6,sm⟩)
   ·have d0:decide ((i2:Int)>(j2:Int))=false:=decide_eq_false (by omega)
    obtain ⟨u2,hu2,hcu2⟩:=hd3 (by omega)
    obtain ⟨v2,hv2,hcv2⟩:=hd4 (by omega)
    have hne2:i2≠j2:=fun e=>by
     subst e
     rw [hu2] at hv2
     injection hv2 with hv2
     subst hv2
     exact hcu2 hcv2
    have w5:=wi_ i2 (by omega)
    have w6:IntKind.wrap .i64 ((j2:Int) - 1)=((j2 - 1:Nat):Int):=by rw [wrap_i64 (by omega) (by omega)];omega
    simp only [d0,a0b,b9Z,if_false,adY (show i2<N by omega),adY (show j2<N by omega),a0R ho' hu2,a0R ho' hv2,bs,b9Y]
    refine swY ho' hu2 hv2 fun g3 p3 s3=>?_
    simp only [bs,a0k,a0n,w5,w6]
    exact .some (.inl ⟨rfl,j2 - 1+1 - (i2+1),by omega,_,_,_,i2+1,j2 - 1,_,rfl,by omega,p3,sg.trans (a1l hu2 hv2 (by omega) (by omega) (by omega) (by omega)),P6.swap (by omega) hu2 hv2 hcu2 hcv2,sm.trans s3⟩)
  ·rintro ⟨ex,ds,g3⟩ ⟨rfl,j3,l3,hj3,p3,sg3,P7,sm3⟩
   simp only at hj3 p3 sm3
   have hl3:=sg3.len.trans hl2
   have hjb7:=P7.jb
   obtain ⟨q3,hq3⟩:∃ q,l3[j3]?=some q:=⟨_,c0l (by omega)⟩
   simp only [a0o,a0p,bs,a0g,a0i,hj3,adY (show a<N by omega),adY (show j3<N by omega),a0R p3 P7.pv,a0R p3 hq3,b9Y]
   refine swY p3 hq3 P7.pv fun g4 p4 s4=>?_
   obtain ⟨pt,sg4⟩:=P7.part hq3
   simp only [bs,a0H]
   exact .some ⟨j3,false,_,rfl,p4,((sg1.trans sg2).trans sg3).trans sg4,pt,((s1.trans s2).trans sm3).trans s4⟩
theorem b7B {o N:Nat} (hN:N≤60000) {g:Hp} {l:List Kd} (hl:l.length=N) (ho:g[o]?=some (.row a0c 12 (l.map kdr))) (a b:Nat) (hab:a+8≤b) (hb:b≤N) (cmp:D) :
  Wp (R a8P [.msl 12 o 0 N,.int .i64 (a:Int),.int .i64 (b:Int),cmp] g) fun p=>∃ l',p.2[o]?=some (.row a0c 12 (l'.map kdr))∧Seg a b l l'∧Same o g p.2:=by
 obtain ⟨n,hn⟩:∃ n,n=b - a:=⟨_,rfl⟩
 obtain ⟨k,hk⟩:∃ k,k=n / 4:=⟨_,rfl⟩
 have ho':o<g.length:=(c0m.1 ho).1
 have w1:IntKind.wrap .i64 ((b:Int) - (a:Int))=((n:Nat):Int):=by rw [wrap_i64 (by omega) (by omega)];omega
 have wq:IntKind.wrap .i64 (Int.tdiv (n:Int) 4)=((k:Nat):Int):=by
  rw [show Int.tdiv (n:Int) 4=((n / 4:Nat):Int) from by rw [Int.tdiv_eq_ediv_of_nonneg (by omega)];omega,wrap_i64 (by omega) (by omega)];omega
 have wu:IntKind.wrap .u64 (n:Int)=(n:Int):=a1H (by omega) (by omega)
 have w2:IntKind.wrap .i64 ((k:Int)*2)=((2*k:Nat):Int):=by rw [wrap_i64 (by omega) (by omega)];omega
 have w3:IntKind.wrap .i64 ((a:Int)+((2*k:Nat):Int))=((a+2*k:Nat):Int):=by rw [wrap_i64 (by omega) (by omega)];omega
 have w4:IntKind.wrap .i64 (((a+2*k:Nat):Int) - 1)=((a+2*k - 1:Nat):Int):=by rw [wrap_i64 (by omega) (by omega)];omega
 have w5:IntKind.wrap .i64 (((a+2*k:Nat):Int)+1)=((a+2*k+1:Nat):Int):=by rw [wrap_i64 (by omega) (by omega)];omega
 have g8:decide ((n:Int)≥8)=true:=decide_eq_true (by omega)
 rw [b6v]
 simp only [b3E,bs,a0n,w1,a0E,g8,a0b,if_true,a6W,wu,b9Y]
 have q0:(a1p g a0B 1 [[.int .u64 0]])[g.length]?=some (.row a0B 1 [[.int .u64 0]]):=a2K _ _ _ _
 have l0:(a1p g a0B 1 [[.int .u64 0]]).length=g.length+1:=a5c _ _ _ _
 have k0:∀ q,q<g.length→(a1p g a0B 1 [[.int .u64 0]])[q]?=g[q]?:=fun q hq=>a2L _ _ _ _ hq
 refine a3J (kk:=0) (off:=0) q0 (row:=[.int .u64 0]) (by rfl) (by rfl) (by simp) (by rfl) fun g1 p1 s1=>?_
 replace p1:g1[g.length]?=some (.row a0B 1 [[.int .u64 (n:Int)]]):=p1
 obtain ⟨m,em,m1,m2⟩:=b4W n (by omega) (by omega) g1
 have wm:IntKind.wrap .u64 ((m:Int) - 1)=((m - 1:Nat):Int):=by rw [a1H (by omega) (by omega)];omega
 simp only [bs,em,a1B,show ¬ (4:Int)=0 by omega,if_false,wq,a1A,w2,a0k,w3,a0n,w4,b9Y]
 refine Wp.loop (fun j ds g'=>∃ x1 x2 x3,∃ i:Nat,∃ s:Int,∃ l',ds=[.int .i64 (i:Int),x1,x2,x3]∧j+i=a+2*k+2∧a+2*k - 1≤i∧g'[o]?=some (.row a0c 12 (l'.map kdr))∧g'[g.length]?=some (.row a0B 1 [[.int .u64 s]])∧Seg a b l l'∧Grow g.length o g g')
  (fun r=>r.1 = .ext 0∧∃ l',r.2.2[o]?=some (.row a0c 12 (l'.map kdr))∧Seg a b l l'∧Grow g.length o g r.2.2) 3 ⟨_,_,_,a+2*k - 1,(n:Int),l,rfl,by omega,Nat.le_refl _,by rw [s1.2 o (by omega),k0 o ho'];exact ho,p1,.refl _ _ _,by have:=s1.1;omega,fun q hq hne=>by rw [s1.2 q (by omega),k0 q hq]⟩ ?_ ?_
 ·rintro j ds g' ⟨x1,x2,x3,i,s,l',rfl,hj,hi,ho2,hq2,sg,gr⟩
  have hl':=sg.len.trans hl
  have w6:=wi_ i (by omega)
  simp only [a6K,a0g,a0i,bs,a1B,show ¬ (4:Int)=0 by omega,if_false,wq,a1A,w2,a0k,w3,w5,a0O,b9Y]
  refine Wp.dif ?_ ?_
  ·intro h0
   have h0:i≤a+2*k+1:=by
    have:(i:Int)≤((a+2*k+1:Nat):Int):=by simpa using h0
    omega
   refine Wp.bind (b4X hq2) ?_
   rintro ⟨d,g3⟩ ⟨s',hd,hq3,sm3⟩
   simp only at hd hq3 sm3
   subst hd
   obtain ⟨v,hv,ev⟩:=b1f s' m m1 (by omega)
   have wv:IntKind.wrap .i64 (v:Int)=(v:Int):=wrap_i64 (by omega) (by omega)
   have ho3:g3[o]?=some (.row a0c 12 (l'.map kdr)):=by rw [sm3.2 o (by omega)];exact ho2
   simp only [bs,a0n,wm,a6X,ev,a8m,wv,a0E,b9Y]
   refine Wp.bind (P:=fun r=>r.1 = .nrm∧r.2.2=g3∧∃ w:Nat,r.2.1=[.int .i64 (w:Int)]∧w<n) ?_ ?_
   ·by_cases hvn:v≥n
    ·have d0:decide ((v:Int)≥(n:Int))=true:=decide_eq_true (by omega)
     have w7:IntKind.wrap .i64 ((v:Int) - (n:Int))=((v - n:Nat):Int):=by rw [wrap_i64 (by omega) (by omega)];omega
     simp only [d0,a0b,if_true,a0n,w7,bs]
     exact .some ⟨rfl,rfl,v - n,rfl,by omega⟩
    ·have d0:decide ((v:Int)≥(n:Int))=false:=decide_eq_false (by omega)
     simp only [d0,a0b,b9Z,if_false]
     exact .some ⟨rfl,rfl,v,rfl,by omega⟩
   ·rintro ⟨ex,ds2,g4⟩ ⟨rfl,rfl,w,hds,hw⟩
    simp only at hds
    subst hds
    have w8:IntKind.wrap .i64 ((a:Int)+(w:Int))=((a+w:Nat):Int):=by rw [wrap_i64 (by omega) (by omega)];omega
    obtain ⟨x,hx⟩:∃ x,l'[i]?=some x:=⟨_,c0l (by omega)⟩
    obtain ⟨y,hy⟩:∃ y,l'[a+w]?=some y:=⟨_,c0l (by omega)⟩
    simp only [a0p,a0g,a0k,w8,bs,adY (show i<N by omega),adY (show a+w<N by omega),a0R ho3 hx,a0R ho3 hy,b9Y]
    refine swY ho3 hx hy fun g5 p5 s5=>?_
    simp only [bs,a0k,w6]
    exact .some (.inl ⟨rfl,j - 1,by omega,_,_,_,i+1,s',_,rfl,by omega,by omega,p5,by rw [s5.2 _ (by omega)];exact hq3,sg.trans (a1l hx hy (by omega) (by omega) (by omega) (by omega)),gr.trans ⟨by show g'.length≤g5.length;have:=s5.1;have:=sm3.1;omega,fun q hq hne=>by show g5[q]?=g'[q]?;rw [s5.2 q hne,sm3.2 q (by omega)]⟩⟩)
  ·intro h0
   exact .some (.inr ⟨by simp,rfl,l',ho2,sg,gr⟩)
 ·rintro ⟨ex,ds,g2⟩ ⟨rfl,l2,p2,sg,gr⟩
  simp only at p2 gr
  simp only [a0o,a1j,bs]
  obtain ⟨e1,e2,e3⟩:=a4k (d:=a0s []) (d':=a0s []) (by rfl) (.tup _ fun d hd=>by cases hd) gr (fun T sz rows hr row hrow d hd=>by
   rw [p2] at hr
   injection hr with hr
   injection hr with _ _ hr
   subst hr
   obtain ⟨x,_,rfl⟩:=c0t.1 hrow
   exact a9a _ x d hd)
  rw [e1]
  exact .some ⟨l2,by rw [e3 o ho'];exact p2,sg,e2⟩
theorem b5n {c:Kd→Kd→Int} (od:CmO c) {cmp:D} (hcmp:CmpFY cmp c) {o N:Nat} (hN:N≤1000000) {g:Hp} {l:List Kd} (hl:l.length=N) (ho:g[o]?=some (.row a0c 12 (l.map kdr))) (a b:Nat) (hab:a≤b) (hb:b≤N) :
  Wp (R a3z [.msl 12 o 0 N,.int .i64 (a:Int),.int .i64 (b:Int),cmp] g) fun p=>∃ l',p.2[o]?=some (.row a0c 12 (l'.map kdr))∧Seg a b l l'∧Srt c a b l'∧Same o g p.2:=by
 have e:=a7C l hab
 rw [← List.append_assoc] at e
 have h1:(l.take a).length=a:=by rw [c0q];omega
 have h2:((l.take b).drop a).length=b - a:=by rw [c0p,c0q];omega
 obtain ⟨⟨d,g'⟩,e1,C,q1,q2,q3,q4⟩:=b2o od.od hcmp (g:=g) (o:=o) (N:=N) (P:=l.take a) (A:=(l.take b).drop a) (Q:=l.drop b) (by omega) (by rw [← e];exact hl) (List.pairwise_of_forall fun _ _=>trivial) (by rw [← e];exact ho) (a:Int) (b:Int) (by rw [h1]) (by rw [h1,h2];omega)
 refine ⟨(d,g'),e1,_,q3,?_,?_,q4⟩
 ·have:=a9D (P:=l.take a) (Q:=l.drop b) q1
  rw [← e,h1,h2,show a+(b - a)=b by omega] at this
  exact this
 ·have:=b1F (c:=c) (P:=l.take a) (Q:=l.drop b) q2
  rw [q1.length_eq,h1,h2,show a+(b - a)=b by omega] at this
  exact this
theorem b7t {c:Kd→Kd→Int} (od:CmO c) {cmp:D} (hcmp:CmpFY cmp c) {o N:Nat} (hN:N≤60000):∀ (n:Nat) (g:Hp) (l:List Kd) (a b:Nat) (lim:Int),b - a=n→l.length=N→g[o]?=some (.row a0c 12 (l.map kdr))→a≤b→b≤N→Low c a b l→Nd c l →
  Wp (R a4b [.msl 12 o 0 N,.int .i64 (a:Int),.int .i64 (b:Int),.int .i64 lim,cmp] g) fun p=>∃ l',p.2[o]?=some (.row a0c 12 (l'.map kdr))∧Seg a b l l'∧Srt c a b l'∧Same o g p.2:=by
 intro n
 induction n using Nat.strongRecOn with
 | _ n ih =>
  intro g l a b lim hn hl ho hab hb lw nd
  rw [b4i]
  simp only [b1N,bs,b9Y]
  refine Wp.loop (fun k ds g'=>∃ a' b':Nat,∃ lim':Int,∃ wb wp:Bool,∃ x5 x6 x7 x8 x9 y0 y1 y2 y3 y4 y5 y6 y7 y8 y9 z0 z1,∃ l',ds=[.int .i64 (a':Int),.int .i64 (b':Int),.int .i64 lim',.bool wb,.bool wp,x5,x6,x7,x8,x9,y0,y1,y2,y3,y4,y5,y6,y7,y8,y9,z0,z1]∧k=b' - a'∧a≤a'∧a'≤b'∧b'≤b∧g'[o]?=some (.row a0c 12 (l'.map kdr))∧Seg a b l l'∧Low c a' b' l'∧Out2 c a b a' b' l'∧Same o g g')
   (fun r=>r.1 = .ret∧∃ l',r.2.2[o]?=some (.row a0c 12 (l'.map kdr))∧Seg a b l l'∧Srt c a b l'∧Same o g r.2.2) (b - a)
   ⟨a,b,lim,true,true,_,_,_,_,_,_,_,_,_,_,_,_,_,_,_,_,_,l,rfl,rfl,Nat.le_refl _,hab,Nat.le_refl _,ho,.refl _ _ _,lw,fun i j x y h1 h2 h3 h4=>absurd ⟨h1,h3⟩ h4,.refl _ _⟩ ?_ ?_
  ·rintro k ds g' ⟨a',b',lim',wb,wp,x5,x6,x7,x8,x9,y0,y1,y2,y3,y4,y5,y6,y7,y8,y9,z0,z1,l',rfl,rfl,ha,hab',hbb,ho',sg,lw',out,sm⟩
   have hl':=sg.len.trans hl
   have wlen:IntKind.wrap .i64 ((b':Int) - (a':Int))=((b' - a':Nat):Int):=by rw [wrap_i64 (by omega) (by omega)];omega
   simp only [a4r,a0g,a0i,bs,b9Y,a0n,wlen,a0O]
   by_cases h12:b' - a'≤12
   ·have d0:decide (((b' - a':Nat):Int)≤12)=true:=decide_eq_true (by omega)
    simp only [d0,a0b,if_true,bs,b9Y]
    refine Wp.bind (b5n od hcmp (by omega) hl' ho' a' b' hab' (by omega)) ?_
    rintro ⟨d,g2⟩ ⟨l2,p2,s2,st2,m2⟩
    exact .some (.inr ⟨by simp,rfl,l2,p2,sg.trans (s2.mono ha hbb),(out.seg s2 ha hbb).all st2,sm.trans m2⟩)
   ·have d0:decide (((b' - a':Nat):Int)≤12)=false:=decide_eq_false (by omega)
    simp only [d0,a0b,b9Z,if_false,bs,a1z,b9Y]
    by_cases hlim:lim'=0
    ·simp only [hlim,decide_true,a0b,if_true,bs,b9Y]
     refine Wp.bind (b7A od hcmp (by omega) hl' ho' a' b' (by omega) (by omega)) ?_
     rintro ⟨d,g2⟩ ⟨l2,p2,s2,st2,m2⟩
     exact .some (.inr ⟨by simp,rfl,l2,p2,sg.trans (s2.mono ha hbb),(out.seg s2 ha hbb).all st2,sm.trans m2⟩)
    ·simp only [hlim,decide_false,a0b,b9Z,if_false,bs,a0Y,b9Y]
     refine Wp.bind (P:=fun r=>r.1 = .nrm∧∃ (lim2:Int) (l2:List Kd),r.2.1=[.int .i64 lim2]∧r.2.2[o]?=some (.row a0c 12 (l2.map kdr))∧Seg a' b' l' l2∧Same o g' r.2.2) ?_ ?_
     ·cases wb with
      | true =>
       simp only [c0g,a0b,b9Z,if_false]
       exact .some ⟨rfl,lim',l',rfl,ho',.refl _ _ _,.refl _ _⟩
      | false =>
       simp only [c0h,a0b,if_true]
       refine Wp.bind (b7B hN hl' ho' a' b' (by omega) (by omega) cmp) ?_
       rintro ⟨d,g2⟩ ⟨l2,p2,s2,m2⟩
       simp only [a0n,bs]
       exact .some ⟨rfl,_,l2,rfl,p2,s2,m2⟩
     ·rintro ⟨ex,ds1,g2⟩ ⟨rfl,lim2,l2,hds,p2,s2,m2⟩
      simp only at hds p2 m2
      subst hds
      have hl2:=s2.len.trans hl'
      obtain ⟨pv,t,e35,pv1,pv2⟩:=b7C hcmp (by omega) hl2 p2 a' b' (by omega) (by omega)
      simp only [a0p,a0g,a0i,e35,bs,a0K,c0a,c0b,a1z,b9Y]
      refine Wp.bind (P:=fun r=>r.1 = .nrm∧∃ (pv:Nat) (t:Int) (l3:List Kd),r.2.1=[.int .i64 (pv:Int),.int .i64 t]∧a'≤pv∧pv<b'∧r.2.2[o]?=some (.row a0c 12 (l3.map kdr))∧Seg a' b' l2 l3∧Same o g2 r.2.2) ?_ ?_
      ·by_cases h2:t=2
       ·have w1:IntKind.wrap .i64 ((b':Int) - 1)=((b' - 1:Nat):Int):=by rw [wrap_i64 (by omega) (by omega)];omega
        have w2:IntKind.wrap .i64 ((pv:Int) - (a':Int))=((pv - a':Nat):Int):=by rw [wrap_i64 (by omega) (by omega)];omega
        have w3:IntKind.wrap .i64 (((b' - 1:Nat):Int) - ((pv - a':Nat):Int))=((b' - 1 - (pv - a'):Nat):Int):=by rw [wrap_i64 (by omega) (by omega)];omega
        simp only [h2,decide_true,a0b,if_true]
        refine Wp.bind (b7D (by omega) hl2 p2 a' b' (by omega) (by omega) cmp) ?_
        rintro ⟨d,g3⟩ ⟨l3,p3,s3,m3⟩
        simp only [a0n,w1,w2,w3,bs]
        exact .some ⟨rfl,b' - 1 - (pv - a'),1,l3,rfl,by omega,by omega,p3,s3,m3⟩
       ·simp only [h2,decide_false,a0b,b9Z,if_false]
        exact .some ⟨rfl,pv,t,l2,rfl,pv1,pv2,p2,.refl _ _ _,.refl _ _⟩
      ·rintro ⟨ex,ds2,g3⟩ ⟨rfl,pv,t,l3,hds,pv1,pv2,p3,s3,m3⟩
       simp only at hds p3 m3
       subst hds
       have hl3:=s3.len.trans hl2
       simp only [a0p,a0g,a0i,b1h,b9Y]
       refine Wp.bind (P:=fun r=>(r.1 = .nrm∧∃ x l4,r.2.1=[x]∧r.2.2[o]?=some (.row a0c 12 (l4.map kdr))∧Seg a' b' l3 l4∧Same o g3 r.2.2)∨(r.1 = .ret∧∃ x l4,r.2.1=[x]∧r.2.2[o]?=some (.row a0c 12 (l4.map kdr))∧Seg a' b' l3 l4∧Srt c a' b' l4∧Same o g3 r.2.2)) ?_ ?_
       ·cases (wb&&wp&&decide (t=1)) with
        | false =>
         simp only [a0b,b9Z,if_false]
         exact .some (.inl ⟨rfl,_,l3,rfl,p3,.refl _ _ _,.refl _ _⟩)
        | true =>
         simp only [a0b,if_true]
         refine Wp.bind (b7E od hcmp (by omega) hl3 p3 a' b' (by omega) (by omega) (lw'.seg (s2.trans s3))) ?_
         rintro ⟨d,g4⟩ ⟨bb,l4,hd,p4,s4,st4,m4⟩
         simp only at hd p4 m4
         subst hd
         cases bb with
         | true =>
          simp only [a0b,if_true]
          exact .some (.inr ⟨rfl,_,l4,rfl,p4,s4,st4 rfl,m4⟩)
         | false =>
          simp only [a0b,b9Z,if_false]
          exact .some (.inl ⟨rfl,_,l4,rfl,p4,s4,m4⟩)
       ·rintro ⟨ex,ds3,g4⟩ (⟨rfl,x,l4,hds,p4,s4,m4⟩ | ⟨rfl,x,l4,hds,p4,s4,st4,m4⟩)
        ·simp only at hds p4 m4
         subst hds
         have hl4:=s4.len.trans hl3
         have sgA:=(s2.trans s3).trans s4
         have lw4:=lw'.seg sgA
         obtain ⟨v,hv⟩:∃ v,l4[pv]?=some v:=⟨_,c0l (by omega)⟩
         have h0:decide ((a':Int)>0)=false∨(decide ((a':Int)>0)=true∧∃ u,l4[a' - 1]?=some u∧c u v<0∧IntKind.wrap .i64 ((a':Int) - 1)=((a' - 1:Nat):Int)∧a' - 1<N):=by
          by_cases hh:0<a'
          ·obtain ⟨u,hu⟩:∃ u,l4[a' - 1]?=some u:=⟨_,c0l (by omega)⟩
           exact .inr ⟨decide_eq_true (by omega),u,hu,lw4 (a' - 1) pv u v (by omega) pv1 pv2 hu hv,by rw [wrap_i64 (by omega) (by omega)];omega,by omega⟩
          ·exact .inl (decide_eq_false (by omega))
         simp only [a0p,a0g,a0i,a1c]
         rcases h0 with dg | ⟨dg,u,hu,hcu,wa,hlt⟩
         all_goals
          simp only [dg,a0u,a0w,a1n,reduceCtorEq,b9Z,if_false,if_true,bs,a0n,a0l,a0b,b9Y]
          try simp only [wa,adY hlt,adY (show pv<N by omega),a0R p4 hu,a0R p4 hv,hcmp.ap,a0r,hcu,decide_true,a0Y,c0g,bs,a0l,a0b,b9Z,if_false,if_true,b9Y]
          refine Wp.bind (b7F od hcmp (by omega) hl4 p4 a' b' pv (by omega) pv1 pv2) ?_
          rintro ⟨d,g5⟩ ⟨m,dd,l5,hd,p5,s5,pt,m5⟩
          simp only at hd p5 m5
          subst hd
          have hl5:=s5.len.trans hl4
          have pl:=pt.lo
          have ph:=pt.hi
          have sgB:=sgA.trans s5
          have sg5:=sg.trans (sgB.mono ha hbb)
          have lw5:=lw'.seg sgB
          have out5:=out.seg sgB ha hbb
          have nd5:Nd c l5:=nd.pm sg5.pm
          have sm5:=(((sm.trans m2).trans m3).trans m4).trans m5
          have w6:IntKind.wrap .i64 ((m:Int) - (a':Int))=((m - a':Nat):Int):=by rw [wrap_i64 (by omega) (by omega)];omega
          have w7:IntKind.wrap .i64 ((b':Int) - (m:Int))=((b' - m:Nat):Int):=by rw [wrap_i64 (by omega) (by omega)];omega
          have w8:=wi_ m (by omega)
          simp only [bs,a0K,c0a,c0b,a0n,w6,w7,a1B,show ¬ (8:Int)=0 by omega,if_false,a0r,b9Y]
          by_cases hlr:m - a'<b' - m
          ·have d2:decide (((m - a':Nat):Int)<((b' - m:Nat):Int))=true:=decide_eq_true (by omega)
           simp only [d2,a0b,if_true,a0E,bs,b9Y]
           refine Wp.bind (ih (m - a') (by omega) g5 l5 a' m lim2 rfl hl5 p5 pl (by omega) (lw5.lft pt) nd5) ?_
           rintro ⟨d,g6⟩ ⟨l6,p6,s6,st6,m6⟩
           simp only [bs,a0k,w8,a1b,a0g,a0i]
           exact .some (.inl ⟨rfl,b' - (m+1),by omega,m+1,b',lim2,_,dd,_,_,_,_,_,_,_,_,_,_,_,_,_,_,_,_,_,l6,rfl,rfl,by omega,by omega,hbb,p6,sg5.trans (s6.mono ha (by omega)),(lw5.rgt od pt nd5 (by omega)).pre s6,out5.left od pt (by omega) s6 st6 ha hbb,sm5.trans m6⟩)
          ·have d2:decide (((m - a':Nat):Int)<((b' - m:Nat):Int))=false:=decide_eq_false (by omega)
           simp only [d2,a0b,b9Z,if_false,a0E,a0k,w8,bs,b9Y]
           refine Wp.bind (ih (b' - (m+1)) (by omega) g5 l5 (m+1) b' lim2 rfl hl5 p5 (by omega) (by omega) (lw5.rgt od pt nd5 (by omega)) nd5) ?_
           rintro ⟨d,g6⟩ ⟨l6,p6,s6,st6,m6⟩
           simp only [bs,a1b,a0g,a0i]
           exact .some (.inl ⟨rfl,m - a',by omega,a',m,lim2,_,dd,_,_,_,_,_,_,_,_,_,_,_,_,_,_,_,_,_,l6,rfl,rfl,ha,pl,by omega,p6,sg5.trans (s6.mono (by omega) hbb),(lw5.lft pt).post s6 (by omega) (by omega),out5.right od pt (by omega) s6 st6 ha hbb,sm5.trans m6⟩)
        ·simp only at hds p4 m4
         subst hds
         have sgA:=(s2.trans s3).trans s4
         simp only [a1L,a0Q,a0g,a0i,bs]
         exact .some (.inr ⟨by simp,rfl,l4,p4,sg.trans (sgA.mono ha hbb),(out.seg sgA ha hbb).all st4,((sm.trans m2).trans m3).trans m4⟩)
  ·rintro ⟨ex,ds,g'⟩ ⟨rfl,l',h1,h2,h3,h4⟩
   simp only [a0Q,a1r]
   exact .some ⟨l',h1,h2,h3,h4⟩
theorem b7r {c:Kd→Kd→Int} (od:CmO c) {cmp:D} (hcmp:CmpFY cmp c) {o N:Nat} (hN:N≤60000) {g:Hp} {l:List Kd} (hl:l.length=N) (ho:g[o]?=some (.row a0c 12 (l.map kdr))) (nd:Nd c l) :
  Wp (R a3Z [.msl 12 o 0 N,cmp] g) fun p=>∃ C:List Kd,C.Perm l∧(C.Pairwise fun x y=>¬ c y x<0)∧p.2[o]?=some (.row a0c 12 (C.map kdr))∧Same o g p.2:=by
 have wu:IntKind.wrap .u64 (N:Int)=(N:Int):=a1H (by omega) (by omega)
 obtain ⟨k,ek,_⟩:=a9C N (by omega) g
 rw [b4g]
 simp only [b1L,b0H,bs,a3q,wu,ek]
 refine Wp.bind (b7t od hcmp hN N g l 0 N (k:Int) (by omega) hl ho (by omega) (Nat.le_refl _) (fun i j x y h1=>by omega) nd) ?_
 rintro ⟨d,g'⟩ ⟨l',h1,h2,h3,h4⟩
 exact .some ⟨l',h2.pm,a9K (by rw [h2.len,hl];exact h3),h1,h4⟩
theorem b4V (d cmp:D) (h:Hp) (hd:SlOf 12 kdr [] d):∃ x,R a3Z [d,cmp] h=some (x,h):=by
 have hl:a0X tab a0j d=some (.int .i64 0):=a3j hd
 have h65:∃ x,R a3z [d,.int .i64 0,.int .i64 0,cmp] h=some (x,h):=by
  rw [b4k]
  refine ⟨a0s [],?_⟩
  simp only [b1P,bs,b9Y,a0k,show IntKind.wrap .i64 ((0:Int)+1)=1 from rfl]
  rw [a1C]
  simp [-bind_some, a4B]
 obtain ⟨x,h65⟩:=h65
 obtain ⟨k,ek,_⟩:=a9C 0 (by omega) h
 have ek:R a3x [.int .u64 0] h=some (.int .i64 (k:Int),h):=ek
 have h63:∃ y,R a4b [d,.int .i64 0,.int .i64 0,.int .i64 (k:Int),cmp] h=some (y,h):=by
  rw [b4i]
  refine ⟨a0s [],?_⟩
  simp only [b1N,bs,b9Y]
  rw [a1C]
  simp only [a4r,a0g,a0i,bs,a0n,show IntKind.wrap .i64 ((0:Int) - 0)=0 from rfl,a0O,show decide ((0:Int)≤12)=true from rfl,a0b,if_true,h65,a0Q,a1r]
 obtain ⟨y,h63⟩:=h63
 refine ⟨a0s [],?_⟩
 rw [b4g]
 simp only [b1L,bs,hl,a3q,show IntKind.wrap .u64 (0:Int)=0 from rfl,ek,h63]
theorem b4d {β:Type} (p:β→Bool):∀ (f:Nat) (B:List β),(∀ j y,j<f→B[j]?=some y→p y=true)→f≤B.length→(∀ y,B[f]?=some y→p y=false)→B.drop f=B.dropWhile p
 | 0,[],_,_,_=>rfl
 | 0,y::B,_,_,h=>by simp [-bind_some, List.dropWhile,h y rfl]
 | f+1,[],_,h,_=>by simp at h
 | f+1,y::B,h1,h2,h3=>by
  have:p y=true:=h1 0 y (by omega) rfl
  simp only [List.drop_succ_cons,List.dropWhile,this]
  exact b4d p f B (fun j z hj hz=>h1 (j+1) z (by omega) (by simpa using hz)) (by simpa using h2) (fun z hz=>h3 z (by simpa using hz))
theorem b7R {β:Type} (e l:β→Bool):∀ B:List β,B.Pairwise (fun y z=>(e z=true→e y=true)∧(e y=false→l y=true→l z=true))→B.filter (fun y => !e y && !l y)=(B.dropWhile e).takeWhile (fun y => !l y)
 | [],_=>rfl
 | y :: B, h=>by
  obtain ⟨h1,h2⟩:=List.pairwise_cons.1 h
  have ih:=b7R e l B h2
  cases ey:e y with
  | true=>simpa [-bind_some, List.dropWhile,ey] using ih
  | false =>
   have hB:B.dropWhile e=B:=by
    cases B with
    | nil=>rfl
    | cons z B =>
     have:e z=false:=by
      cases ez:e z with
      | false=>rfl
      | true=>have:=(h1 z (by simp)).1 ez;rw [ey] at this;cases this
     simp [-bind_some, List.dropWhile,this]
   rw [hB] at ih
   cases ly:l y with
   | false=>simp [-bind_some, List.dropWhile,List.takeWhile,ey,ly,ih]
   | true =>
    have:B.filter (fun y => !e y && !l y)=[]:=List.filter_eq_nil_iff.2 fun z hz=>by
     have:=(h1 z hz).2 ey ly
     simp [-bind_some, this]
    simp [-bind_some, List.dropWhile,List.takeWhile,ey,ly]
    exact fun z hz _=>(h1 z hz).2 ey ly
theorem a5U {α:Type} {R:α→α→Prop} (an:∀ x y,R x y→R y x→x=y):∀ {A B:List α},A.Pairwise R→B.Pairwise R→A.Perm B→A=B
 | [],B,_,_,p=>by simpa using p.symm
 | x::A,[],_,_,p=>by simpa using p
 | x::A,y::B,ha,hb,p=>by
  obtain ⟨h1,h2⟩:=List.pairwise_cons.1 ha
  obtain ⟨k1,k2⟩:=List.pairwise_cons.1 hb
  have e:x=y:=by
   have hx:x∈y::B:=p.subset (by simp)
   have hy:y∈x::A:=p.symm.subset (by simp)
   rcases c0r.1 hx with rfl | hx
   ·rfl
   ·rcases c0r.1 hy with rfl | hy
    ·rfl
    ·exact an _ _ (h1 y hy) (k1 x hx)
  subst e
  rw [a5U an h2 k2 ((List.perm_cons _).1 p)]
theorem a8G {α β:Type} (f g:α→List β):∀ A:List α,(∀ x∈A,(f x).Perm (g x))→(A.flatMap f).Perm (A.flatMap g)
 | [],_ => .refl _
 | x::A,h=>by
  simp only [List.flatMap_cons]
  exact (h x (by simp)).append (a8G f g A fun y hy=>h y (by simp [-bind_some, hy]))
theorem b2c {α β γ:Type} (F:α→β→Bool) (G:α→β→γ) {A A':List α} {B B':List β} (ha:A.Perm A') (hb:B.Perm B'):(A.flatMap fun x=>(B.filter (F x)).map (G x)).Perm (A'.flatMap fun x=>(B'.filter (F x)).map (G x)) :=
 (ha.flatMap_right _).trans (a8G _ _ _ fun x _=>(hb.filter _).map _)
theorem kF0 (p:Kd):a0e tab a0c 0 (.fptr (kdr p))=some (.fptr (kdr p)):=id rfl
theorem kF1 (p:Kd):a0e tab a0c 1 (.fptr (kdr p))=some (.fptr [.str p.v,.int .i64 p.ix]):=id rfl
theorem kF2 (p:Kd):a0e tab a0c 2 (.fptr (kdr p))=some (.fptr [.int .i64 p.ix]):=id rfl
theorem kdT (p:Kd):a0e tab a1h 5 (.fptr (kdr p))=some (.fptr [.int .i64 p.e.a5,.int .i64 p.e.a6,.str p.e.s7,.str p.e.s8,p.e.fd,.str p.v,.int .i64 p.ix]):=id rfl
theorem b6W (p:Kd) (h:Hp):a0f tab h ty3 (.fptr [.int .i64 p.e.a5,.int .i64 p.e.a6,.str p.e.s7,.str p.e.s8,p.e.fd,.str p.v,.int .i64 p.ix])=some (.int .i64 p.e.a5):=id rfl
theorem kVL (p:Kd) (h:Hp):a0f tab h ty9 (.fptr [.str p.v,.int .i64 p.ix])=some (.str p.v):=id rfl
theorem kIL (p:Kd) (h:Hp):a0f tab h ty3 (.fptr [.int .i64 p.ix])=some (.int .i64 p.ix):=id rfl
theorem kEL (p:Kd) (h:Hp):a0f tab h a1h (.fptr (kdr p))=some (.agg (evr p.e)):=id rfl
theorem kL (p:Kd) (h:Hp):a0f tab h a0c (.fptr (kdr p))=some (.agg (kdr p)):=id rfl
theorem kBx (p:Kd):a8f 12 (.agg (kdr p))=some (.fptr (kdr p)):=a6S 12 _ rfl
def kc (x y:Kd):Int:=orI [a7W x.v y.v,a1I x.e.a5 y.e.a5,a1I x.ix y.ix]
theorem b7h (x y:Kd) (h:Hp):R a3w [.agg (kdr x),.agg (kdr y)] h=some (.int .i64 (kc x y),h):=by
 rw [b6m]
 have hs:SlOf 1 inr [a7W x.v y.v,a1I x.e.a5 y.e.a5,a1I x.ix y.ix] (.sl 1 true [[.int .i64 (a7W x.v y.v)],[.int .i64 (a1I x.e.a5 y.e.a5)],[.int .i64 (a1I x.ix y.ix)]]) := .inr ⟨true,rfl⟩
 have hb:a2w tab a9Q 3 [0,1,2] [.int .i64 (a7W x.v y.v),.int .i64 (a1I x.e.a5 y.e.a5),.int .i64 (a1I x.ix y.ix)]=some (.sl 1 true [[.int .i64 (a7W x.v y.v)],[.int .i64 (a1I x.e.a5 y.e.a5)],[.int .i64 (a1I x.ix y.ix)]]):=id rfl
 simp only [b3v,a2S,bs,kF1,kVL,s91,kF0,kdT,b6W,s90,kF2,kIL,hb,s89 _ _ h hs (by simp),a2r,a0y]
 rfl
theorem b5V:CmpFY (.fn (.func a3w) [] []) kc:=fun x y g=>by rw [a3S];exact b7h x y g
def b4A (x y:Kd):Prop:=Op.bytesLess x.v y.v=true∨x.v=y.v∧(x.e.a5<y.e.a5∨x.e.a5=y.e.a5∧x.ix<y.ix)
def a6h (x y:Kd):Prop:=Op.bytesLess x.v y.v=true∨x.v=y.v∧(x.e.a5<y.e.a5∨x.e.a5=y.e.a5∧x.ix≤y.ix)
theorem b0D (x y:Kd):kc x y<0↔b4A x y:=by
 unfold kc b4A orI orI orI orI
 by_cases h:a7W x.v y.v=0
 ·rw [if_pos h]
  rw [a5x] at h
  have hb:¬ Op.bytesLess x.v y.v=true:=by rw [h,a2d];simp [-bind_some]
  by_cases h2:a1I x.e.a5 y.e.a5=0
  ·rw [if_pos h2]
   rw [a1O] at h2
   have h3:(if a1I x.ix y.ix=0 then 0 else a1I x.ix y.ix)<0↔x.ix<y.ix:=by
    split
    ·rename_i h4;rw [a1O] at h4;omega
    ·rw [a4K]
   rw [h3]
   constructor
   ·intro h4;exact .inr ⟨h,.inr ⟨h2,h4⟩⟩
   ·rintro (h4 | ⟨_,h4 | h4⟩)
    ·exact absurd h4 hb
    ·omega
    ·exact h4.2
  ·rw [if_neg h2,a4K]
   rw [a1O] at h2
   constructor
   ·intro h4;exact .inr ⟨h,.inl h4⟩
   ·rintro (h4 | ⟨_,h4 | h4⟩)
    ·exact absurd h4 hb
    ·exact h4
    ·exact absurd h4.1 h2
 ·rw [if_neg h,b1T]
  rw [a5x] at h
  constructor
  ·intro h4;exact .inl h4
  ·rintro (h4 | ⟨h4,_⟩)
   ·exact h4
   ·exact absurd h4 h
theorem b2q (x y:Kd):¬ kc y x<0↔a6h x y:=by
 rw [b0D]
 unfold b4A a6h
 by_cases h:x.v=y.v
 ·have hb:¬ Op.bytesLess y.v x.v=true:=by rw [h,a2d];simp [-bind_some]
  constructor
  ·intro h2
   refine .inr ⟨h,?_⟩
   have:¬ (y.e.a5<x.e.a5∨y.e.a5=x.e.a5∧y.ix<x.ix):=fun h3=>h2 (.inr ⟨h.symm,h3⟩)
   omega
  ·rintro (h2 | ⟨_,h2⟩) (h3 | ⟨_,h3⟩)
   ·exact hb h3
   ·rw [h,a2d] at h2;cases h2
   ·exact hb h3
   ·omega
 ·constructor
  ·intro h2
   refine .inl ?_
   cases hh:Op.bytesLess x.v y.v with
   | true=>rfl
   | false=>exact absurd (.inl (a6R hh h)) h2
  ·rintro (h2 | ⟨h2,_⟩) (h3 | ⟨h3,_⟩)
   ·have:=a7G h2 h3;rw [a2d] at this;cases this
   ·exact h h3.symm
   ·exact h h2
   ·exact h h2
theorem b2r {x y z:Kd} (h:a6h x y) (k:a6h y z):a6h x z:=by
 unfold a6h at *
 rcases h with h | ⟨h,h2⟩ <;> rcases k with k | ⟨k,k2⟩
 ·exact .inl (a7G h k)
 ·exact .inl (k▸h)
 ·exact .inl (h▸k)
 ·exact .inr ⟨h.trans k,by omega⟩
theorem kcO:CmO kc where
 asm:=fun x y h=>by
  rw [b2q]
  rw [b0D] at h
  unfold b4A at h
  unfold a6h
  rcases h with h | ⟨h,h2⟩
  ·exact .inl h
  ·exact .inr ⟨h,by omega⟩
 tr:=fun x y z h k=>by
  rw [b2q] at *
  exact b2r h k
def kdL (key:Str) (L:List Ev):List Kd:=L.zipIdx.filterMap fun p=>if (a3a p.1 key).2=true then some ⟨p.1,(a3a p.1 key).1,(p.2:Int)⟩ else none
theorem b0E (key:Str) (L:List Ev) (e:Ev):kdL key (L++[e])=kdL key L++if (a3a e key).2=true then [⟨e,(a3a e key).1,(L.length:Int)⟩] else []:=by
 unfold kdL
 rw [List.zipIdx_append,List.filterMap_append]
 congr 1
 by_cases h:(a3a e key).2=true <;> simp [-bind_some, h]
theorem a4Y (key:Str) (L:List Ev):(kdL key L).length≤L.length:=by
 have:=List.length_filterMap_le (fun p:Ev × Nat=>if (a3a p.1 key).2=true then some (⟨p.1,(a3a p.1 key).1,(p.2:Int)⟩:Kd) else none) L.zipIdx
 rw [List.length_zipIdx] at this
 exact this
theorem a3C {key:Str} {L:List Ev} {p:Kd} (h:p∈kdL key L):∃ i:Nat,p.ix=i∧L[i]?=some p.e∧a3a p.e key=(p.v,true):=by
 unfold kdL at h
 obtain ⟨⟨e,i⟩,h1,h2⟩:=List.mem_filterMap.1 h
 split at h2
 ·rename_i hv
  injection h2 with h2
  subst h2
  have:=List.mem_zipIdx_iff_getElem?.1 h1
  exact ⟨i,rfl,this,Prod.ext rfl hv⟩
 ·cases h2
theorem a6p (key:Str) (L:List Ev):(kdL key L).Pairwise fun x y=>x.ix<y.ix:=by
 unfold kdL
 rw [List.pairwise_filterMap,List.pairwise_iff_getElem]
 intro i j hi hj hij x hx y hy
 simp only [List.getElem_zipIdx] at hx hy
 split at hx
 ·split at hy
  ·injection hx with hx
   injection hy with hy
   subst hx hy
   show ((0+i:Nat):Int)<((0+j:Nat):Int)
   omega
  ·cases hy
 ·cases hx
def JE (e:Ev):Prop:=0≤e.a0∧e.a0≤9∧0≤e.a5∧e.a5≤253402300799999
def Keep (h g:Hp):Prop:=h.length≤g.length∧∀ q,q<h.length→g[q]?=h[q]?
theorem Keep.refl (h:Hp):Keep h h:=⟨Nat.le_refl _,fun _ _=>rfl⟩
theorem Keep.trans {h g k:Hp} (a:Keep h g) (b:Keep g k):Keep h k:=⟨Nat.le_trans a.1 b.1,fun q hq=>(b.2 q (Nat.lt_of_lt_of_le hq a.1)).trans (a.2 q hq)⟩
def RdE (h:Hp) (l:List Ev) (d:D):Prop:=SlOf 10 evr l d∨∃ ob,d = .msl 10 ob 0 l.length∧h[ob]?=some (.row a1h 10 (l.map evr))
theorem RdE.of {h:Hp} {l:List Ev} {d:D} (hd:SlOf 10 evr l d):RdE h l d := .inl hd
theorem RdE.own {h:Hp} {n0:Nat} {l:List Ev} {d:D} (hd:Own h n0 a1h 10 (l.map evr) d):RdE h l d:=by
 rcases hd with ⟨rfl,hl⟩ | ⟨o,_,rfl,ho⟩
 ·exact .inl (.inl ⟨rfl,by simpa using hl⟩)
 ·exact .inr ⟨o,by rw [c0d],ho⟩
theorem RdE.keep {h g:Hp} {l:List Ev} {d:D} (hd:RdE h l d) (k:Keep h g):RdE g l d:=by
 rcases hd with hd | ⟨ob,rfl,ho⟩
 ·exact .inl hd
 ·exact .inr ⟨ob,rfl,by rw [k.2 ob (c0m.1 ho).1];exact ho⟩
theorem b2G {h:Hp} {l:List Ev} {d:D} (hd:RdE h l d):a0X tab a2H d=some (.int .i64 l.length):=by
 rcases hd with hd | ⟨ob,rfl,_⟩
 ·exact b4H hd
 ·exact b4F _ _ _ _
theorem a9w {h:Hp} {l:List Ev} {d:D} (hd:RdE h l d) (i:Nat) (e:Ev) (he:l[i]?=some e):∃ q,a0a tab a2H d (.int .i64 (i:Int))=some q∧∀ g,Keep h g→a0f tab g a1h q=some (.agg (evr e)):=by
 have hi:=(c0m.1 he).1
 rcases hd with hd | ⟨ob,rfl,ho⟩
 ·exact ⟨.fptr (evr e),by rw [b6V hd];simp [-bind_some, he],fun g _=>id rfl⟩
 ·have hr:(l.map evr)[i]?=some (evr e):=by rw [c0j,he];rfl
  have hh:(0:Int)≤(i:Int)∧(i:Int)<(l.length:Int):=by omega
  refine ⟨.ptr ob i 0,by rw [b6U];simp [-bind_some, hh],fun g k=>?_⟩
  have ho':g[ob]?=some (.row a1h 10 (l.map evr)):=by rw [k.2 ob (c0m.1 ho).1];exact ho
  rw [b4E,a2b ho',hr];rfl
theorem b5z (L:List Ev) (dL:D) (key:Str) (h:Hp) (hd:RdE h L dL) (hl:L.length≤1000) (he:∀ e∈L,JE e) (hk:b5N key):∃ (d:D) (C:List Kd),R1 a5J [dL,.str key] h=some (d,h)∧SlOf 12 kdr C d∧C.Perm (kdL key L)∧C.Pairwise a6h:=by
 suffices Wp (R1 a5J [dL,.str key] h) (fun p=>p.2=h∧∃ C:List Kd,SlOf 12 kdr C p.1∧C.Perm (kdL key L)∧C.Pairwise a6h) by
  obtain ⟨⟨x,h'⟩,h1,rfl,C,h2⟩:=this
  exact ⟨x,C,h1,h2⟩
 have hB:∀ (e:Ev) (v:Str) (i:Int),a1o tab a0c [0,1,2] [.agg (evr e),.str v,.int .i64 i]=some (.agg (kdr ⟨e,v,i⟩)):=fun e v i=>id rfl
 have hS:∀ p:Kd,a2w tab a0j 1 [0] [.agg (kdr p)]=some (.sl 12 true [kdr p]):=fun p=>id rfl
 rw [b6k]
 simp only [b3t,bs,b2G hd,b9Y]
 refine Wp.loop (fun k ds g=>∃ x a b c d e f,∃ i:Nat,ds=[x,a,b,c,d,.int .i64 (i:Int),e,f]∧k+i=L.length∧Own g h.length a0c 12 ((kdL key (L.take i)).map kdr) x∧h.length≤g.length∧(∀ q,q<h.length→g[q]?=h[q]?))
  (fun r=>r.1 = .ext 0∧∃ x,nth 0 r.2.1=x∧Own r.2.2 h.length a0c 12 ((kdL key L).map kdr) x∧h.length≤r.2.2.length∧(∀ q,q<h.length→r.2.2[q]?=h[q]?)) L.length
  ⟨_,_,_,_,_,_,_,0,rfl,rfl,Own.nils _ _ _ _,Nat.le_refl _,fun _ _=>rfl⟩ ?_ ?_
 ·rintro k ds g ⟨x,a,b,c,d,e,f,i,rfl,hk',ow,hlen,hq⟩
  simp only [a6B,a0g,a0i,bs,b9Y,a0r]
  refine Wp.dif ?_ ?_
  ·intro h0
   have h0:i<L.length:=by
    have:(i:Int)<(L.length:Int):=by simpa using h0
    omega
   have hw:=wi_ i (by omega)
   obtain ⟨u,hu⟩:=gx_ h0
   have hje:=he u (c0k hu)
   have hts:kdL key (L.take (i+1))=kdL key (L.take i)++if (a3a u key).2=true then [⟨u,(a3a u key).1,(i:Int)⟩] else []:=by
    rw [c0i,hu]
    show kdL key (L.take i++[u])=_
    rw [b0E,c0q,Nat.min_eq_left (by omega)]
   obtain ⟨qa,qe,ql⟩:=a9w hd i u hu
   simp only [qe,bs,ql g ⟨hlen,hq⟩,b9Y]
   refine b7H (kk:=0) (off:=0) (v := .agg (evr u)) (a2K _ _ _ _) (by rfl) (by rfl) (by exact Nat.le_refl _) (a8E u) fun g2 p2 s2=>?_
   have p2:g2[g.length]?=some (.row a1h 10 [evr u]):=p2
   have lu:a0f tab g2 a1h (.ptr g.length 0 0)=some (.agg (evr u)):=by rw [b4E,a2b p2];rfl
   have old:∀ q,q<g.length→g2[q]?=g[q]?:=fun q hq'=>by rw [s2.2 q (by omega)];exact a2L g _ _ _ hq'
   have len2:g.length≤g2.length:=by have:=s2.1;simp [-bind_some, a1p] at this;omega
   have ow2:Own g2 h.length a0c 12 ((kdL key (L.take i)).map kdr) x:=ow.keep fun q _ hq'=>old q (ow.lt hq').2
   have hq2:∀ q,q<h.length→g2[q]?=h[q]?:=fun q hq'=>by rw [old q (by omega)];exact hq q hq'
   simp only [bs,lu,b7I u key g2 hje.1 hje.2.1 hk,a0K,c0a,c0b,b9Y]
   refine Wp.join (P:=fun r=>∃ x',r.1 = .nrm∧r.2.1=[x']∧Own r.2.2 h.length a0c 12 ((kdL key (L.take (i+1))).map kdr) x'∧h.length≤r.2.2.length∧(∀ q,q<h.length→r.2.2[q]?=h[q]?)) ?_ ?_ ?_
   ·intro hv
    rw [hv,if_pos rfl] at hts
    simp only [hB,hS,bs]
    have:=a4Y key (L.take i)
    rw [c0q] at this
    refine b2X (n0:=h.length) (by omega) ow2 (a2T _ _ _ _) (by simp;omega) fun x9 g3 o3 l3 b3 _ _=>?_
    refine .some ⟨x9,rfl,rfl,?_,by show h.length≤g3.length;omega,fun q hq'=>by show g3[q]?=_;rw [b3 q hq'];exact hq2 q hq'⟩
    rw [hts,c0e]
    exact o3
   ·intro hv
    rw [hv] at hts
    simp only [b9Z,if_false,List.append_nil] at hts
    rw [hts]
    exact .some ⟨x,rfl,rfl,ow2,by show h.length≤g2.length;omega,hq2⟩
   ·rintro ⟨ex,ds1,g3⟩ ⟨x',rfl,rfl,o3,l3,q3⟩
    simp only [a0p,a1b,a0g,bs,a0k,hw]
    exact .some (.inl ⟨rfl,k - 1,by omega,x',_,_,_,_,_,_,i+1,rfl,by omega,o3,l3,q3⟩)
  ·intro h0
   have h0:L.length≤i:=by
    have:¬ (i:Int)<(L.length:Int):=by simpa using h0
    omega
   rw [List.take_of_length_le h0] at ow
   exact .some (.inr ⟨by simp,rfl,x,rfl,ow,hlen,hq⟩)
 ·rintro ⟨ex,ds,g⟩ ⟨rfl,x,hx,ow,hlen,hq⟩
  simp only at hx ow hlen hq
  simp only [a0o,a0p,bs,a0g,hx,b2F]
  have nd:Nd kc (kdL key L):=(a6p key L).imp fun {a b} hab=>by
   rw [b0D,b0D]
   unfold b4A
   by_cases h1:a.v=b.v
   ·rcases Int.lt_trichotomy a.e.a5 b.e.a5 with h2 | h2 | h2
    ·exact .inl (.inr ⟨h1,.inl h2⟩)
    ·exact .inl (.inr ⟨h1,.inr ⟨h2,hab⟩⟩)
    ·exact .inr (.inr ⟨h1.symm,.inl h2⟩)
   ·cases hh:Op.bytesLess a.v b.v with
    | true=>exact .inl (.inl rfl)
    | false=>exact .inr (.inl (a6R hh h1))
  have hkl:=a4Y key L
  rcases ow with ⟨rfl,hr⟩ | ⟨o,hno,rfl,ho⟩
  ·have hr:kdL key L=[]:=by simpa using hr
   obtain ⟨y,ey⟩:=b4V .nils (.fn (.func a3w) [] []) g (.nils _ _)
   rw [ey]
   simp only [bs,a0y]
   have hsc:scope h g .nils=some (.nils,h):=a1G (by simp) .nils hlen hq
   rw [hsc]
   exact .some ⟨rfl,[],.nils _ _,by rw [hr],.nil⟩
  ·rw [c0d]
   refine Wp.bind (b7r kcO b5V (N:=(kdL key L).length) (by omega) rfl ho nd) ?_
   rintro ⟨y,g'⟩ ⟨C,c1,c2,c3,c4⟩
   simp only at c3 c4
   have ow':Own g' h.length a0c 12 (C.map kdr) (.msl 12 o 0 (kdL key L).length) := .inr ⟨o,hno,by rw [c0d,c1.length_eq],c3⟩
   have hs:=b1w (n0:=h.length) (n:=3) ow' (Nat.le_refl _) fun s _ d hd=>by
    rcases c0s.1 hd with hd | hd
    ·exact a6m _ _ _ s.e d hd
    ·simp only [c0r,List.not_mem_nil,or_false] at hd
     rcases hd with rfl | rfl
     ·exact b2i _ _ _ _
     ·exact b2f _ _ _ _ _
   simp only [a0y]
   have hsc:scope h g' (.msl 12 o 0 (kdL key L).length)=some (frz h.length g' 4 (.msl 12 o 0 (kdL key L).length),h):=a1G rfl (a5j hs fun s _=>a9a _ s) (by have:=c4.1;omega) fun q hq'=>by rw [c4.2 q (by omega)];exact hq q hq'
   rw [hsc]
   exact .some ⟨rfl,C,hs,c1,c2.imp fun {a b} hab=>(b2q a b).1 hab⟩
def a1g (w:Int) (x y:Kd):Bool:=Op.bytesLess y.v x.v||(decide (y.v=x.v)&&decide (w<x.e.a5 - y.e.a5))
def a2B (w:Int) (x y:Kd):Bool := !decide (y.v=x.v)||decide (w<y.e.a5 - x.e.a5)
def lsK (x y:Kd):Bool:=a5Q x.e y.e||a5Q y.e x.e
theorem earlyK_iff {w:Int} {x y:Kd}:a1g w x y=true↔(Op.bytesLess y.v x.v=true∨y.v=x.v∧w<x.e.a5 - y.e.a5):=by simp [-bind_some, a1g]
theorem a2Q {w:Int} {x y:Kd}:a2B w x y=true↔(y.v≠x.v∨w<y.e.a5 - x.e.a5):=by simp [-bind_some, a2B]
theorem a7N {w:Int} {x x' y:Kd} (h:a6h x x') (k:a1g w x y=true):a1g w x' y=true:=by
 rw [earlyK_iff] at *
 unfold a6h at h
 rcases k with k | ⟨k,k2⟩ <;> rcases h with h | ⟨h,h2⟩
 ·exact .inl (a7G k h)
 ·exact .inl (h▸k)
 ·exact .inl (k▸h)
 ·exact .inr ⟨k.trans h,by omega⟩
theorem b2I {w:Int} (x:Kd) {B:List Kd} (h:B.Pairwise a6h):B.Pairwise fun y z=>(a1g w x z=true→a1g w x y=true)∧(a1g w x y=false→a2B w x y=true→a2B w x z=true) :=
 h.imp fun {y z} hyz=>by
  unfold a6h at hyz
  refine ⟨fun hz=>?_,fun h1 h2=>?_⟩
  ·rw [earlyK_iff] at *
   rcases hz with k | ⟨k,k2⟩ <;> rcases hyz with h | ⟨h,h2⟩
   ·exact .inl (a7G h k)
   ·exact .inl (h▸k)
   ·exact .inl (k▸h)
   ·exact .inr ⟨h.trans k,by omega⟩
  ·have h1:¬ (Op.bytesLess y.v x.v=true∨y.v=x.v∧w<x.e.a5 - y.e.a5):=by rw [← earlyK_iff,h1];simp [-bind_some]
   rw [a2Q] at *
   by_cases e:y.v=x.v
   ·have h2:w<y.e.a5 - x.e.a5:=by
      rcases h2 with h2 | h2
      ·exact absurd e h2
      ·exact h2
    rcases hyz with h | ⟨h,h3⟩
    ·refine .inl fun hh=>?_
     rw [e,hh,a2d] at h;cases h
    ·exact .inr (by omega)
   ·have hb:Op.bytesLess x.v y.v=true:=by
      cases hh:Op.bytesLess x.v y.v with
      | true=>rfl
      | false =>
       exact absurd (.inl (a6R hh fun h=>e h.symm)) h1
    refine .inl fun hh=>?_
    rcases hyz with h | ⟨h,h3⟩
    ·have:=a7G hb h
     rw [hh,a2d] at this;cases this
    ·exact e (h.trans hh)
def a2o (x:Kd) (l:List Kd):List Pr:=(l.filter (lsK x)).map fun y=>⟨x.ix,y.ix⟩
theorem a7y (x:Kd) (a b:List Kd):a2o x (a++b)=a2o x a++a2o x b:=by simp [-bind_some, a2o]
theorem a9P {β:Type} {p:β→Bool} {M:List β} {i:Nat} (h:∀ y∈M.take i,p y=true):M.takeWhile p=M.take i++(M.drop i).takeWhile p:=by
 have h2:=List.takeWhile_append_of_pos (l₂:=M.drop i) h
 rw [List.take_append_drop] at h2
 exact h2
theorem b4B {w:Int} {B:List Kd} {dB:D} (hB:SlOf 12 kdr B dB) (hBl:B.length≤1000) (ht:∀ y∈B,0≤y.e.a5∧y.e.a5≤253402300799999) (x:Kd) (hx:0≤x.e.a5∧x.e.a5≤253402300799999) (f:Nat) (hf:f≤B.length) (he:∀ j y,j<f→B[j]?=some y→a1g w x y=true) (a:D) (g:Hp)
  {β:Type} {K:Out→Option β} {Q:β→Prop} (k:∀ (f':Nat) (a':D),f'≤B.length→(∀ j y,j<f'→B[j]?=some y→a1g w x y=true)→(∀ y,B[f']?=some y→a1g w x y=false)→Wp (K (.ext 2,[.int .i64 (f':Int),a'],g)) Q) :
  Wp ((a0v (a4o (.int .i64 w) dB (.fptr (kdr x))) [.int .i64 (f:Int),a] g).bind K) Q:=by
 refine Wp.loop (fun n ds g'=>g'=g∧∃ (f:Nat) (a:D),ds=[.int .i64 (f:Int),a]∧n+f=B.length∧∀ j y,j<f→B[j]?=some y→a1g w x y=true)
  (fun r=>r.1 = .ext 2∧r.2.2=g∧∃ (f':Nat) (a':D),r.2.1=[.int .i64 (f':Int),a']∧f'≤B.length∧(∀ j y,j<f'→B[j]?=some y→a1g w x y=true)∧(∀ y,B[f']?=some y→a1g w x y=false)) (B.length - f)
  ⟨rfl,f,a,rfl,by omega,he⟩ ?_ ?_
 ·rintro n ds g' ⟨rfl,f,a,rfl,hn,he⟩
  simp only [a4o,a0g,a0i,bs,b9Y,a3j hB,a0r]
  by_cases hlt:f<B.length
  ·obtain ⟨u,hu⟩:=gx_ hlt
   have htu:=ht u (c0k hu)
   have d0:decide ((f:Int)<(B.length:Int))=true:=decide_eq_true (by omega)
   have hw:=wi_ f (by omega)
   have hs:IntKind.wrap .i64 (x.e.a5 - u.e.a5)=x.e.a5 - u.e.a5:=wrap_i64 (by omega) (by omega)
   have more:a1g w x u=true→∀ j y,j<f+1→B[j]?=some y→a1g w x y=true:=fun hh j y hj hy=>by
    rcases Nat.lt_or_ge j f with h1 | h1
    ·exact he j y h1 hy
    ·have:j=f:=by omega
     subst this
     rw [hu] at hy
     injection hy with hy
     subst hy
     exact hh
   simp only [d0,a0u,if_true,bs,a3B hB,Int.natCast_nonneg,c0f,hu,Option.map_some,kF1,kVL,a5z,b9Y]
   cases hb:Op.bytesLess u.v x.v with
   | true =>
    simp only [a0u,a1n,reduceCtorEq,Bool.true_eq_false,if_false,if_true,bs,a0l,a0b,a0k,hw]
    exact .some (.inl ⟨rfl,n - 1,by omega,rfl,f+1,_,rfl,by omega,more (earlyK_iff.2 (.inl hb))⟩)
   | false =>
    have seq:(u.v==x.v)=decide (u.v=x.v):=by by_cases e:u.v=x.v <;> simp [-bind_some, e]
    simp only [a0u,if_true,bs,a3B hB,Int.natCast_nonneg,c0f,hu,Option.map_some,kF1,kVL,a8n,seq,b9Y]
    by_cases e:u.v=x.v
    ·have de:decide (u.v=x.v)=true:=decide_eq_true e
     simp only [de,a0u,if_true,bs,a3B hB,Int.natCast_nonneg,c0f,hu,Option.map_some,kF0,kdT,b6W,a0n,hs,a1c,a0l,b9Z,if_false,b9Y]
     by_cases h5:w<x.e.a5 - u.e.a5
     ·simp only [h5,decide_true,a0b,if_true,a0k,hw,bs]
      exact .some (.inl ⟨rfl,n - 1,by omega,rfl,f+1,_,rfl,by omega,more (earlyK_iff.2 (.inr ⟨e,h5⟩))⟩)
     ·simp only [h5,decide_false,a0b,b9Z,if_false,bs]
      refine .some (.inr ⟨by simp,rfl,rfl,f,_,rfl,by omega,he,fun y hy=>?_⟩)
      rw [hu] at hy
      injection hy with hy
      subst hy
      cases hh:a1g w x u with
      | false=>rfl
      | true =>
       rw [earlyK_iff,hb] at hh
       rcases hh with hh | hh
       ·cases hh
       ·exact absurd hh.2 h5
    ·have de:decide (u.v=x.v)=false:=decide_eq_false e
     simp only [de,a0u,a1n,reduceCtorEq,b9Z,if_false,bs,a0l,a0b,b9Y,if_true]
     refine .some (.inr ⟨by simp,rfl,rfl,f,_,rfl,by omega,he,fun y hy=>?_⟩)
     rw [hu] at hy
     injection hy with hy
     subst hy
     cases hh:a1g w x u with
     | false=>rfl
     | true =>
      rw [earlyK_iff,hb] at hh
      rcases hh with hh | hh
      ·cases hh
      ·exact absurd hh.1 e
  ·have d0:decide ((f:Int)<(B.length:Int))=false:=decide_eq_false (by omega)
   simp only [d0,a0u,a1n,reduceCtorEq,b9Z,if_false,bs,a0l,a0b,b9Y]
   refine .some (.inr ⟨by simp,rfl,rfl,f,_,rfl,by omega,he,fun y hy=>?_⟩)
   rw [List.getElem?_eq_none (by omega)] at hy
   cases hy
 ·rintro ⟨ex,ds,g'⟩ ⟨rfl,rfl,f',a',rfl,h1,h2,h3⟩
  exact k f' a' h1 h2 h3
theorem b4C {w:Int} {M:List Kd} {dM:D} (hM:SlOf 12 kdr M dM) (hMl:M.length≤1000) (ht:∀ y∈M,0≤y.e.a5∧y.e.a5≤253402300799999) (x:Kd) (hx:0≤x.e.a5∧x.e.a5≤253402300799999) (h0:Hp) (F:List Pr) (dF:D) (hF:F.length≤2000)
  (r0 r1 a b c d e:D) (g:Hp) (ow:Own g h0.length a0d 2 (F.map prr) dF) (kp:Keep h0 g) {β:Type} {K:Out→Option β} {Q:β→Prop}
  (k1:∀ dF' j3 j4 j5 j6 j7 j8 g',Own g' h0.length a0d 2 ((F++a2o x (M.takeWhile fun y => !(a2B w x y))).map prr) dF'→(F++a2o x (M.takeWhile fun y => !(a2B w x y))).length≤2000→Keep h0 g'→Wp (K (.ext 4,[r0,r1,dF',j3,j4,j5,j6,j7,j8],g')) Q)
  (k2:∀ j2 j3 j4 j5 j6 j7 j8 g',2000<(F++a2o x (M.takeWhile fun y => !(a2B w x y))).length→Keep h0 g'→Wp (K (.ret,[.nils,.int .i64 4,j2,j3,j4,j5,j6,j7,j8],g')) Q) :
  Wp ((a0v (a4p (.int .i64 w) (.fptr (kdr x)) dM (.int .i64 (M.length:Int))) [r0,r1,dF,a,.int .i64 0,b,c,d,e] g).bind K) Q:=by
 refine Wp.loop (fun n ds g'=>∃ (i:Nat) (dF a b c d e:D),ds=[r0,r1,dF,a,.int .i64 (i:Int),b,c,d,e]∧n+i=M.length∧(∀ y∈M.take i,a2B w x y=false)∧Own g' h0.length a0d 2 ((F++a2o x (M.take i)).map prr) dF∧(F++a2o x (M.take i)).length≤2000∧Keep h0 g')
  (fun r=>(r.1 = .ext 4∧∃ dF' j3 j4 j5 j6 j7 j8,r.2.1=[r0,r1,dF',j3,j4,j5,j6,j7,j8]∧Own r.2.2 h0.length a0d 2 ((F++a2o x (M.takeWhile fun y => !(a2B w x y))).map prr) dF'∧(F++a2o x (M.takeWhile fun y => !(a2B w x y))).length≤2000∧Keep h0 r.2.2)
   ∨ (r.1 = .ret∧∃ j2 j3 j4 j5 j6 j7 j8,r.2.1=[.nils,.int .i64 4,j2,j3,j4,j5,j6,j7,j8]∧2000<(F++a2o x (M.takeWhile fun y => !(a2B w x y))).length∧Keep h0 r.2.2)) M.length
  ⟨0,dF,a,b,c,d,e,rfl,by omega,by simp,by simpa [-bind_some, a2o] using ow,by simpa [-bind_some, a2o] using hF,kp⟩ ?_ ?_
 ·rintro n ds g' ⟨i,dF,a,b,c,d,e,rfl,hn,hlate,ow,hF',kp⟩
  have pre:∀ y∈M.take i,(!(a2B w x y))=true:=fun y hy=>by rw [hlate y hy];rfl
  simp only [a4p,a0g,a0i,bs,b9Y,a0r]
  by_cases hlt:i<M.length
  ·obtain ⟨u,hu⟩:=gx_ hlt
   have htu:=ht u (c0k hu)
   have d0:decide ((i:Int)<(M.length:Int))=true:=decide_eq_true (by omega)
   have hw:=wi_ i (by omega)
   have hs:IntKind.wrap .i64 (u.e.a5 - x.e.a5)=u.e.a5 - x.e.a5:=wrap_i64 (by omega) (by omega)
   have seq:(u.v==x.v)=decide (u.v=x.v):=by by_cases e:u.v=x.v <;> simp [-bind_some, e]
   have tk:M.take (i+1)=M.take i++[u]:=by rw [c0i,hu];rfl
   have stop:a2B w x u=true→(M.takeWhile fun y => !(a2B w x y))=M.take i:=fun hl=>by
    rw [a9P pre,List.drop_eq_getElem_cons hlt]
    have:M[i]=u:=by rw [c0l hlt] at hu;injection hu
    rw [this,List.takeWhile_cons,hl]
    simp [-bind_some]
   have cont:a2B w x u=false→∃ t,(M.takeWhile fun y => !(a2B w x y))=M.take (i+1)++t:=fun hl=>by
    refine ⟨_,a9P fun y hy=>?_⟩
    rw [tk] at hy
    rcases c0s.1 hy with hy | hy
    ·exact pre y hy
    ·simp at hy;subst hy;rw [hl];rfl
   have hlate':a2B w x u=false→∀ y∈M.take (i+1),a2B w x y=false:=fun hl y hy=>by
    rw [tk] at hy
    rcases c0s.1 hy with hy | hy
    ·exact hlate y hy
    ·simp at hy;subst hy;exact hl
   simp only [d0,a0b,if_true,bs,a3B hM,Int.natCast_nonneg,c0f,hu,Option.map_some,kL,kBx,kF1,kVL,a8o,seq,b9Y]
   by_cases e:u.v=x.v
   ·have de:decide (u.v=x.v)=true:=decide_eq_true e
    simp only [de,c0g,a0u,if_true,bs,kF0,kdT,b6W,a0n,hs,a1c,a0l,b9Z,if_false,b9Y]
    by_cases h5:w<u.e.a5 - x.e.a5
    ·have hl:a2B w x u=true:=by rw [a2Q];exact .inr h5
     simp only [h5,decide_true,a0b,if_true,bs]
     refine .some (.inr ⟨by simp,.inl ⟨rfl,_,_,_,_,_,_,_,rfl,?_,?_,kp⟩⟩)
     ·rw [stop hl];exact ow
     ·rw [stop hl];exact hF'
    ·have hl:a2B w x u=false:=by
       cases hh:a2B w x u with
       | false=>rfl
       | true =>
        rw [a2Q] at hh
        rcases hh with hh | hh
        ·exact absurd e hh
        ·exact absurd hh h5
     have hP:a1o tab a0d [0,1] [.int .i64 x.ix,.int .i64 u.ix]=some (.agg (prr ⟨x.ix,u.ix⟩)):=id rfl
     have hS:a2w tab a0m 1 [0] [.agg (prr ⟨x.ix,u.ix⟩)]=some (.sl 2 true [prr ⟨x.ix,u.ix⟩]):=id rfl
     simp only [h5,decide_false,a0b,b9Z,if_false,bs,kEL,a9v,b4S,b9Y]
     have fin:∀ (r:Out),(r.1 = .nrm∧∃ dF' j,r.2.1=[r0,r1,dF',j]∧Own r.2.2 h0.length a0d 2 ((F++a2o x (M.take (i+1))).map prr) dF'∧(F++a2o x (M.take (i+1))).length≤2000∧Keep h0 r.2.2)∨(r.1 = .ret∧∃ j2 j3,r.2.1=[.nils,.int .i64 4,j2,j3]∧2000<(F++a2o x (M.take (i+1))).length∧Keep h0 r.2.2) →
       ∀ (t78 t96 t108 t17:D),Wp (a0A (a0t 5 r.1) ((a0h tab .add ty3 (.int .i64 (i:Int)) (.int .i64 1)).bind fun t120=>some ((Ex.nrm,[nth 0 r.2.1,nth 1 r.2.1,nth 2 r.2.1,t17,t120,t78,t96,t108,nth 3 r.2.1],r.2.2):Out)) fun x_1=>some (x_1,[nth 0 r.2.1,nth 1 r.2.1,nth 2 r.2.1,t17,.int .i64 (i:Int),t78,t96,t108,nth 3 r.2.1],r.2.2))
        fun r=>(r.1 = .nrm∧∃ k',k'<n∧∃ (i:Nat) (dF a b c d e:D),r.2.1=[r0,r1,dF,a,.int .i64 (i:Int),b,c,d,e]∧k'+i=M.length∧(∀ y∈M.take i,a2B w x y=false)∧Own r.2.2 h0.length a0d 2 ((F++a2o x (M.take i)).map prr) dF∧(F++a2o x (M.take i)).length≤2000∧Keep h0 r.2.2)∨(r.1 ≠ .nrm∧((r.1 = .ext 4∧∃ dF' j3 j4 j5 j6 j7 j8,r.2.1=[r0,r1,dF',j3,j4,j5,j6,j7,j8]∧Own r.2.2 h0.length a0d 2 ((F++a2o x (M.takeWhile fun y => !(a2B w x y))).map prr) dF'∧(F++a2o x (M.takeWhile fun y => !(a2B w x y))).length≤2000∧Keep h0 r.2.2)
   ∨ (r.1 = .ret∧∃ j2 j3 j4 j5 j6 j7 j8,r.2.1=[.nils,.int .i64 4,j2,j3,j4,j5,j6,j7,j8]∧2000<(F++a2o x (M.takeWhile fun y => !(a2B w x y))).length∧Keep h0 r.2.2))):=by
         rintro ⟨ex,ds1,g2⟩ (⟨rfl,dF',j,hds,o3,l3,kp3⟩ | ⟨rfl,j2,j3,hds,l3,kp3⟩) t78 t96 t108 t17
         ·simp only at hds o3 kp3
          subst hds
          simp only [a1b,a0p,a0g,a0i,a0k,hw,bs]
          exact .some (.inl ⟨rfl,n - 1,by omega,i+1,_,_,_,_,_,_,rfl,by omega,hlate' hl,o3,l3,kp3⟩)
         ·simp only at hds kp3
          subst hds
          simp only [a0Q,a1L,a0g,a0i,bs]
          refine .some (.inr ⟨by simp,.inr ⟨rfl,_,_,_,_,_,_,_,rfl,?_,kp3⟩⟩)
          obtain ⟨t,ht'⟩:=cont hl
          rw [ht',a7y,← List.append_assoc,c0c]
          omega
     have sel:a2o x (M.take (i+1))=a2o x (M.take i)++if lsK x u=true then [⟨x.ix,u.ix⟩] else []:=by
      rw [tk,a7y]
      congr 1
      unfold a2o
      by_cases hls:lsK x u=true <;> simp [-bind_some, hls]
     cases hab:a5Q x.e u.e
     all_goals
      simp only [a0u,a0w,a1n,b2k,reduceCtorEq,b9Z,Bool.true_eq_false,if_false,if_true,bs,kF0,kEL,b4S,a9v,a0l,b9Y]
      refine Wp.join (P:=fun r=>(r.1 = .nrm∧∃ dF' j,r.2.1=[r0,r1,dF',j]∧Own r.2.2 h0.length a0d 2 ((F++a2o x (M.take (i+1))).map prr) dF'∧(F++a2o x (M.take (i+1))).length≤2000∧Keep h0 r.2.2)∨(r.1 = .ret∧∃ j2 j3,r.2.1=[.nils,.int .i64 4,j2,j3]∧2000<(F++a2o x (M.take (i+1))).length∧Keep h0 r.2.2)) ?_ ?_ ?_
      ·intro hls
       have hls:lsK x u=true:=by unfold lsK;rw [hab];exact hls
       rw [if_pos hls] at sel
       simp only [kF2,kIL,bs,hP,hS]
       have hF2:=hF'
       rw [c0c] at hF2
       refine b2Y (n0:=h0.length) kp.1 ow (a2T _ _ _ _) (by rw [c0d];simp [-bind_some];omega) fun x9 g3 o3 l3 b3 _ _=>?_
       have o3:Own g3 h0.length a0d 2 ((F++a2o x (M.take (i+1))).map prr) x9:=by rw [sel,← List.append_assoc,c0e];exact o3
       have kp3:Keep h0 g3:=⟨by have:=kp.1;omega,fun q hq=>by rw [b3 q hq];exact kp.2 q hq⟩
       simp only [b0K o3,bs,a1c,c0d]
       refine Wp.dif ?_ ?_
       ·intro hg
        have hg:2000<(F++a2o x (M.take (i+1))).length:=by
         have:(2000:Int)<((F++a2o x (M.take (i+1))).length:Int):=by simpa using hg
         omega
        exact .some (.inr ⟨rfl,_,_,rfl,hg,kp3⟩)
       ·intro hg
        have hg:(F++a2o x (M.take (i+1))).length≤2000:=by
         have:¬ (2000:Int)<((F++a2o x (M.take (i+1))).length:Int):=by simpa using hg
         omega
        exact .some (.inl ⟨rfl,_,_,rfl,o3,hg,kp3⟩)
      ·intro hls
       have hls:lsK x u=false:=by unfold lsK;rw [hab];exact hls
       rw [if_neg (by rw [hls];simp [-bind_some]),List.append_nil] at sel
       refine .some (.inl ⟨rfl,_,_,rfl,?_,?_,kp⟩)
       ·rw [sel];exact ow
       ·rw [sel];exact hF'
      ·intro r hr
       exact fin r hr _ _ _ _
   ·have hl:a2B w x u=true:=by rw [a2Q];exact .inl e
    have de:decide (u.v=x.v)=false:=decide_eq_false e
    simp only [de,c0h,a0u,a1n,reduceCtorEq,Bool.true_eq_false,if_false,if_true,bs,a0l,a0b,b9Y]
    refine .some (.inr ⟨by simp,.inl ⟨rfl,_,_,_,_,_,_,_,rfl,?_,?_,kp⟩⟩)
    ·rw [stop hl];exact ow
    ·rw [stop hl];exact hF'
  ·have d0:decide ((i:Int)<(M.length:Int))=false:=decide_eq_false (by omega)
   have hall:(M.takeWhile fun y => !(a2B w x y))=M.take i:=by
    rw [a9P pre,List.drop_eq_nil_of_le (by omega)];simp [-bind_some]
   simp only [d0,a0b,b9Z,if_false,bs]
   refine .some (.inr ⟨by simp,.inl ⟨rfl,_,_,_,_,_,_,_,rfl,?_,?_,kp⟩⟩)
   ·rw [hall];exact ow
   ·rw [hall];exact hF'
 ·rintro ⟨ex,ds,g'⟩ (⟨rfl,dF',j3,j4,j5,j6,j7,j8,rfl,o,l,kp⟩ | ⟨rfl,j2,j3,j4,j5,j6,j7,j8,rfl,l,kp⟩)
  ·exact k1 _ _ _ _ _ _ _ _ o l kp
  ·exact k2 _ _ _ _ _ _ _ _ l kp
def prE (p:Ev × Ev):List D:=evr p.1++evr p.2
def mtE (key:Str) (w:Int) (x y:Ev):Bool:=(a3a x key).2&&(a3a y key).2&&decide ((a3a x key).1=(a3a y key).1)&&decide (x.a5 - y.a5≤w)&&decide (y.a5 - x.a5≤w)&&(a5Q x y||a5Q y x)
def prs (key:Str) (w:Int) (L R:List Ev):List (Ev × Ev):=L.flatMap fun x=>(R.filter (mtE key w x)).map fun y=>(x,y)
def okK (w:Int) (x y:Kd):Bool := !(a1g w x y) && !(a2B w x y)&&lsK x y
theorem b4K {key:Str} {w:Int} {L R:List Ev} {x y:Kd} (hx:x∈kdL key L) (hy:y∈kdL key R):okK w x y=mtE key w x.e y.e:=by
 obtain ⟨_,_,_,h1⟩:=a3C hx
 obtain ⟨_,_,_,h2⟩:=a3C hy
 unfold okK mtE a1g a2B lsK
 rw [h1,h2]
 by_cases e:y.v=x.v
 ·rw [← e,a2d]
  simp only [Bool.false_or,decide_true,Bool.true_and,c0g]
  congr 1
  have a1:(!decide (w<x.e.a5 - y.e.a5))=decide (x.e.a5 - y.e.a5≤w):=by rw [← decide_not];exact decide_eq_decide.2 (by omega)
  have a2:(!decide (w<y.e.a5 - x.e.a5))=decide (y.e.a5 - x.e.a5≤w):=by rw [← decide_not];exact decide_eq_decide.2 (by omega)
  rw [a1,a2]
 ·have e2:¬ x.v=y.v:=fun h=>e h.symm
  simp [-bind_some, e,e2]
theorem a7o {γ:Type} (key:Str) (G:Ev→List γ) (L:List Ev):(kdL key L).flatMap (fun x=>G x.e)=L.flatMap fun e=>if (a3a e key).2=true then G e else []:=by
 unfold kdL
 suffices ∀ n,((L.zipIdx n).filterMap fun p=>if (a3a p.1 key).2=true then some (⟨p.1,(a3a p.1 key).1,(p.2:Int)⟩:Kd) else none).flatMap (fun x=>G x.e)=L.flatMap fun e=>if (a3a e key).2=true then G e else [] from this 0
 induction L with
 | nil=>intro n;rfl
 | cons a L ih =>
  intro n
  rw [List.zipIdx_cons,List.filterMap_cons,List.flatMap_cons]
  by_cases h:(a3a a key).2=true
  ·simp only [h,if_true,List.flatMap_cons]
   rw [ih]
  ·simp only [h,if_false,List.nil_append]
   exact ih _
theorem a3u {α γ:Type} (p:α→Bool) (f:α→γ):∀ l:List α,(l.filter p).map f=l.flatMap fun y=>if p y=true then [f y] else []
 | []=>rfl
 | y::l=>by
  rw [List.flatMap_cons,← a3u p f l]
  by_cases h:p y=true <;> simp [-bind_some, h]
def kps (key:Str) (w:Int) (L R:List Ev):List (Kd × Kd):=(kdL key L).flatMap fun x=>((kdL key R).filter (okK w x)).map fun y=>(x,y)
def kpP (p:Kd × Kd):Pr:=⟨p.1.ix,p.2.ix⟩
def kpE (p:Kd × Kd):Ev × Ev:=(p.1.e,p.2.e)
theorem a1P {α β:Type} {f g:α→List β}:∀ {l:List α},(∀ x∈l,f x=g x)→l.flatMap f=l.flatMap g
 | [],_=>rfl
 | x::l,h=>by rw [List.flatMap_cons,List.flatMap_cons,h x (by simp),a1P fun y hy=>h y (by simp [-bind_some, hy])]
theorem a5F {α:Type} {f g:α→Bool} {l:List α} (h:∀ x∈l,f x=g x):l.filter f=l.filter g:=List.filter_congr h
theorem a9b (key:Str) (w:Int) (L R:List Ev):(kps key w L R).map kpE=prs key w L R:=by
 unfold kps prs
 rw [List.map_flatMap]
 have h1:∀ x∈kdL key L,((((kdL key R).filter (okK w x)).map fun y=>(x,y)).map kpE)=(R.filter (mtE key w x.e)).map fun y=>(x.e,y):=fun x hx=>by
  rw [a5F fun y hy=>b4K hx hy,List.map_map]
  show ((kdL key R).filter fun y=>mtE key w x.e y.e).map (fun y=>(x.e,y.e))=_
  rw [a3u,a3u]
  rw [a7o key (fun e=>if mtE key w x.e e=true then [(x.e,e)] else []) R]
  refine a1P fun e _=>?_
  by_cases h:(a3a e key).2=true
  ·rw [if_pos h]
  ·rw [if_neg h]
   have:mtE key w x.e e=false:=by
    have:(a3a e key).2=false:=by simpa using h
    unfold mtE;rw [this];simp [-bind_some]
   rw [this];rfl
 rw [a1P h1,a7o key (fun e=>(R.filter (mtE key w e)).map fun y=>(e,y)) L]
 refine a1P fun e _=>?_
 by_cases h:(a3a e key).2=true
 ·rw [if_pos h]
 ·rw [if_neg h]
  have:∀ y∈R,mtE key w e y=false:=fun y _=>by
   have:(a3a e key).2=false:=by simpa using h
   unfold mtE;rw [this];simp [-bind_some]
  rw [a5F this]
  simp [-bind_some]
def prc (x y:Pr):Int:=orI [a1I x.l y.l,a1I x.r y.r]
theorem b7g (x y:Pr) (h:Hp):R a3v [.agg (prr x),.agg (prr y)] h=some (.int .i64 (prc x y),h):=by
 rw [b6l]
 have hs:SlOf 1 inr [a1I x.l y.l,a1I x.r y.r] (.sl 1 true [[.int .i64 (a1I x.l y.l)],[.int .i64 (a1I x.r y.r)]]) := .inr ⟨true,rfl⟩
 have hb:a2w tab a9Q 2 [0,1] [.int .i64 (a1I x.l y.l),.int .i64 (a1I x.r y.r)]=some (.sl 1 true [[.int .i64 (a1I x.l y.l)],[.int .i64 (a1I x.r y.r)]]):=id rfl
 have q0:∀ p:Pr,a0e tab a0d 0 (.fptr (prr p))=some (.fptr (prr p)):=fun p=>id rfl
 have q1:∀ p:Pr,a0e tab a0d 1 (.fptr (prr p))=some (.fptr [.int .i64 p.r]):=fun p=>id rfl
 have l0:∀ p:Pr,a0f tab h ty3 (.fptr (prr p))=some (.int .i64 p.l):=fun p=>id rfl
 have l1:∀ p:Pr,a0f tab h ty3 (.fptr [.int .i64 p.r])=some (.int .i64 p.r):=fun p=>id rfl
 simp only [b3u,a2S,bs,q0,q1,l0,l1,s90,hb,s89 _ _ h hs (by simp),a2r,a0y]
 rfl
theorem b5U:CmpFP (.fn (.func a3v) [] []) prc:=fun x y g=>by rw [a3S];exact b7g x y g
theorem a5V (x y:Pr):prc x y<0↔(x.l<y.l∨x.l=y.l∧x.r<y.r):=by
 unfold prc orI orI orI
 by_cases h:a1I x.l y.l=0
 ·rw [if_pos h]
  rw [a1O] at h
  have h3:(if a1I x.r y.r=0 then 0 else a1I x.r y.r)<0↔x.r<y.r:=by
   split
   ·rename_i h4;rw [a1O] at h4;omega
   ·rw [a4K]
  rw [h3];omega
 ·rw [if_neg h,a4K]
  rw [a1O] at h
  omega
theorem prcO:CmO prc where
 asm:=fun x y h=>by rw [a5V] at *;omega
 tr:=fun x y z h k=>by rw [a5V] at *;omega
theorem b2s (key:Str) (w:Int) (L R:List Ev):((kps key w L R).map kpP).Pairwise fun x y=>prc x y<0:=by
 unfold kps
 rw [List.pairwise_map,List.pairwise_flatMap]
 refine ⟨fun x hx=>?_,(a6p key L).imp fun {a b} hab p hp q hq=>?_⟩
 ·rw [List.pairwise_map]
  refine ((a6p key R).sublist List.filter_sublist).imp fun {a b} hab=>?_
  rw [a5V]
  exact .inr ⟨rfl,hab⟩
 ·obtain ⟨y,_,rfl⟩:=c0t.1 hp
  obtain ⟨z,_,rfl⟩:=c0t.1 hq
  rw [a5V]
  exact .inl hab
def a4l (w:Int) (B:List Kd) (x:Kd):List Pr:=(B.filter (okK w x)).map fun y=>⟨x.ix,y.ix⟩
theorem b1b {w:Int} {B:List Kd} (x:Kd) (hB:B.Pairwise a6h) {f:Nat} (hf:f≤B.length) (h1:∀ j y,j<f→B[j]?=some y→a1g w x y=true) (h2:∀ y,B[f]?=some y→a1g w x y=false) :
  a4l w B x=a2o x ((B.drop f).takeWhile fun y => !(a2B w x y)):=by
 rw [b4d (a1g w x) f B h1 hf h2,← b7R _ _ B (b2I x hB)]
 unfold a4l a2o
 rw [List.filter_filter]
 congr 1
 refine List.filter_congr fun y _=>?_
 unfold okK
 cases lsK x y <;> simp [-bind_some]
theorem b0f {key:Str} (w:Int) {L R:List Ev} {A B:List Kd} (ha:A.Perm (kdL key L)) (hb:B.Perm (kdL key R)):(A.flatMap (a4l w B)).Perm ((kps key w L R).map kpP):=by
 have:=b2c (okK w) (fun x y=>(⟨x.ix,y.ix⟩:Pr)) ha hb
 unfold kps a4l
 rw [List.map_flatMap]
 refine this.trans (List.Perm.of_eq (a1P fun x _=>?_))
 rw [List.map_map]
 rfl
theorem b6X {w:Int} {A B:List Kd} {dA dB:D} (hA:SlOf 12 kdr A dA) (hB:SlOf 12 kdr B dB) (hAl:A.length≤1000) (hBl:B.length≤1000) (hAt:∀ y∈A,0≤y.e.a5∧y.e.a5≤253402300799999) (hBt:∀ y∈B,0≤y.e.a5∧y.e.a5≤253402300799999) (hAs:A.Pairwise a6h) (hBs:B.Pairwise a6h) (h0:Hp)
  {β:Type} {K:Out→Option β} {Q:β→Prop}
  (k1:∀ dF' rest g',Own g' h0.length a0d 2 ((A.flatMap (a4l w B)).map prr) dF'→(A.flatMap (a4l w B)).length≤2000→Keep h0 g'→Wp (K (.ext 0,.nils :: .int .i64 0::dF'::rest,g')) Q)
  (k2:∀ rest g',2000<(A.flatMap (a4l w B)).length→Keep h0 g'→Wp (K (.ret,.nils :: .int .i64 4::rest,g')) Q) :
  Wp ((a0v (a4n (.int .i64 w) dB dA (.int .i64 (A.length:Int))) [.nils,.int .i64 0,.nils,.int .i64 0,.any,.any,.int .i64 0,.any,.any,.any,.any,.any,.any,.any,.any,.any] h0).bind K) Q:=by
 refine Wp.loop (fun n ds g=>∃ (i f:Nat) (dF a4 a5 a7 a8 a9 b0 b1 b2 b3 b4 b5:D),ds=[.nils,.int .i64 0,dF,.int .i64 (f:Int),a4,a5,.int .i64 (i:Int),a7,a8,a9,b0,b1,b2,b3,b4,b5]∧n+i=A.length∧f≤B.length∧(∀ x'∈A.drop i,∀ j y,j<f→B[j]?=some y→a1g w x' y=true)∧Own g h0.length a0d 2 (((A.take i).flatMap (a4l w B)).map prr) dF∧((A.take i).flatMap (a4l w B)).length≤2000∧Keep h0 g)
  (fun r=>(r.1 = .ext 0∧∃ dF' rest,r.2.1 = .nils :: .int .i64 0::dF'::rest∧Own r.2.2 h0.length a0d 2 ((A.flatMap (a4l w B)).map prr) dF'∧(A.flatMap (a4l w B)).length≤2000∧Keep h0 r.2.2)
   ∨ (r.1 = .ret∧∃ rest,r.2.1 = .nils :: .int .i64 4::rest∧2000<(A.flatMap (a4l w B)).length∧Keep h0 r.2.2)) A.length
  ⟨0,0,_,_,_,_,_,_,_,_,_,_,_,_,rfl,by omega,by omega,fun x' _ j y hj=>by omega,Own.nils _ _ _ _,by simp,.refl _⟩ ?_ ?_
 ·rintro n ds g ⟨i,f,dF,a4,a5,a7,a8,a9,b0,b1,b2,b3,b4,b5,rfl,hn,hf,he,ow,hlen,kp⟩
  simp only [a4n,a0g,a0i,bs,b9Y,a0r]
  refine Wp.dif ?_ ?_
  ·intro hlt
   have hlt:i<A.length:=by
    have:(i:Int)<(A.length:Int):=by simpa using hlt
    omega
   have hw:=wi_ i (by omega)
   obtain ⟨x,hx⟩:=gx_ hlt
   have hxi:A[i]=x:=by rw [c0l hlt] at hx;injection hx
   have hdr:A.drop i=x::A.drop (i+1):=by rw [List.drop_eq_getElem_cons hlt,hxi]
   have tk:A.take (i+1)=A.take i++[x]:=by rw [c0i,hx];rfl
   have hxt:=hAt x (c0k hx)
   simp only [a3B hA,Int.natCast_nonneg,if_true,c0f,hx,Option.map_some,bs,kL,kBx,b9Y]
   refine b4B hB hBl hBt x hxt f hf (fun j y=>he x (by rw [hdr];simp [-bind_some]) j y) _ g ?_
   intro f' a' hf' h1 h2
   obtain ⟨dM,eM,hM⟩:=b2J hB (k := .i64) (n:=(f':Int)) (by omega) (by omega)
   rw [c0f] at hM
   have hsel:=b1b x hBs hf' h1 h2
   have hall:(A.take (i+1)).flatMap (a4l w B)=(A.take i).flatMap (a4l w B)++a4l w B x:=by rw [tk,List.flatMap_append];simp [-bind_some]
   simp only [a0o,a0p,a0g,a0i,bs,eM,a3j hM,b9Y]
   refine b4C hM (by rw [c0p];omega) (fun y hy=>hBt y (List.mem_of_mem_drop hy)) x hxt h0 _ dF hlen _ _ _ _ _ _ _ g ow kp ?_ ?_
   ·intro dF' j3 j4 j5 j6 j7 j8 g' o l kp'
    rw [← hsel,← hall] at o l
    simp only [a0o,a1b,a0p,a0g,a0i,bs,a0k,hw]
    refine .some (.inl ⟨rfl,n - 1,by omega,i+1,f',_,_,_,_,_,_,_,_,_,_,_,_,rfl,by omega,hf',fun x' hx' j y hj hy=>?_,o,l,kp'⟩)
    refine a7N ?_ (h1 j y hj hy)
    have:=hAs.sublist (List.drop_sublist i A)
    rw [hdr] at this
    exact (List.pairwise_cons.1 this).1 x' hx'
   ·intro j2 j3 j4 j5 j6 j7 j8 g' l kp'
    rw [← hsel,← hall] at l
    simp only [a0Q,a1L,a0g,a0i,bs]
    refine .some (.inr ⟨by simp,.inr ⟨rfl,_,rfl,?_,kp'⟩⟩)
    have:=List.take_append_drop (i+1) A
    rw [← this,List.flatMap_append,c0c]
    omega
  ·intro hge
   have hge:A.length≤i:=by
    have:¬ (i:Int)<(A.length:Int):=by simpa using hge
    omega
   rw [List.take_of_length_le hge] at ow hlen
   exact .some (.inr ⟨by simp,.inl ⟨rfl,_,_,rfl,ow,hlen,kp⟩⟩)
 ·rintro ⟨ex,ds,g'⟩ (⟨rfl,dF',rest,rfl,o,l,kp⟩ | ⟨rfl,rest,rfl,l,kp⟩)
  ·exact k1 _ _ _ o l kp
  ·exact k2 _ _ l kp
theorem b4D {P:List (Kd × Kd)} {L R:List Ev} {dL dR:D} (h0:Hp) (hL:RdE h0 L dL) (hR:RdE h0 R dR) (hP:∀ p∈P,(∃ i:Nat,p.1.ix=i∧L[i]?=some p.1.e)∧∃ i:Nat,p.2.ix=i∧R[i]?=some p.2.e) (hPl:P.length≤2000) (o:Nat) (g:Hp) (ho:g[o]?=some (.row a0d 2 ((P.map kpP).map prr))) (ho0:h0.length≤o) (kp:Keep h0 g) (a b:D)
  {β:Type} {K:Out→Option β} {Q:β→Prop} (k:∀ d rest g',Own g' h0.length a3H 20 ((P.map kpE).map prE) d→Keep h0 g'→Wp (K (.ext 6,d::rest,g')) Q) :
  Wp ((a0v (a3g dL dR (.msl 2 o 0 P.length) (.int .i64 (P.length:Int))) [.nils,a,.int .i64 0,b] g).bind K) Q:=by
 have q0:∀ p:Pr,a0e tab a0d 0 (.fptr (prr p))=some (.fptr (prr p)):=fun p=>id rfl
 have q1:∀ p:Pr,a0e tab a0d 1 (.fptr (prr p))=some (.fptr [.int .i64 p.r]):=fun p=>id rfl
 have l0:∀ (p:Pr) h,a0f tab h ty3 (.fptr (prr p))=some (.int .i64 p.l):=fun p h=>id rfl
 have l1:∀ (n:Int) h,a0f tab h ty3 (.fptr [.int .i64 n])=some (.int .i64 n):=fun n h=>id rfl
 have bx:∀ p:Pr,a8f 2 (.agg (prr p))=some (.fptr (prr p)):=fun p=>a6S 2 _ rfl
 have hB:∀ x y:Ev,a1o tab a3H [0,1] [.agg (evr x),.agg (evr y)]=some (.agg (prE (x,y))):=fun x y=>id rfl
 have hS:∀ p:Ev × Ev,a2w tab a2p 1 [0] [.agg (prE p)]=some (.sl 20 true [prE p]):=fun p=>id rfl
 have lnm:(P.map kpP).length=P.length:=c0d ..
 refine Wp.loop (fun n ds g'=>∃ (i:Nat) (d a b:D),ds=[d,a,.int .i64 (i:Int),b]∧n+i=P.length∧g'[o]?=some (.row a0d 2 ((P.map kpP).map prr))∧Own g' h0.length a3H 20 (((P.take i).map kpE).map prE) d∧¬ d.inOb o∧Keep h0 g')
  (fun r=>r.1 = .ext 6∧∃ d rest,r.2.1=d::rest∧Own r.2.2 h0.length a3H 20 ((P.map kpE).map prE) d∧Keep h0 r.2.2) P.length
  ⟨0,_,_,_,rfl,by omega,ho,Own.nils _ _ _ _,(fun hh=>by obtain ⟨_,_,hh⟩:=hh;cases hh),kp⟩ ?_ ?_
 ·rintro n ds g' ⟨i,d,a,b,rfl,hn,ho,ow,hno,kp⟩
  simp only [a3g,a0g,a0i,bs,b9Y,a0r]
  refine Wp.dif ?_ ?_
  ·intro hlt
   have hlt:i<P.length:=by
    have:(i:Int)<(P.length:Int):=by simpa using hlt
    omega
   have hw:=wi_ i (by omega)
   obtain ⟨p,hp⟩:=gx_ hlt
   obtain ⟨⟨i1,e1,g1⟩,⟨i2,e2,g2⟩⟩:=hP p (c0k hp)
   have hpm:(P.map kpP)[i]?=some (kpP p):=by rw [c0j,hp];rfl
   have fl:a0f tab g' a0d (.ptr o i 0)=some (.agg (prr (kpP p))):=a0P ho hpm
   have k1:(kpP p).l=(i1:Int):=e1
   have k2:(kpP p).r=(i2:Int):=e2
   obtain ⟨qa,qe,ql⟩:=a9w hL i1 _ g1
   obtain ⟨ra,re,rl⟩:=a9w hR i2 _ g2
   simp only [adP hlt,fl,bs,bx,q0,l0,k1,qe,ql g' kp,q1,l1,k2,re,rl g' kp,hB,hS,b9Y]
   refine b2W (n0:=h0.length) (ys:=[prE (p.1.e,p.2.e)]) kp.1 ow (a2T _ _ _ _) (by simp;omega) fun x9 g3 o3 len3 b3 keep3 in3=>?_
   simp only [bs,a0k,hw]
   have hol:=(c0m.1 ho).1
   refine .some (.inl ⟨rfl,n - 1,by omega,i+1,_,_,_,rfl,by omega,?_,?_,?_,⟨by have:=kp.1;show h0.length≤g3.length;omega,fun q hq=>by show g3[q]?=_;rw [b3 q hq];exact kp.2 q hq⟩⟩)
   ·show g3[o]?=_
    rw [keep3 o hol hno];exact ho
   ·have:P.take (i+1)=P.take i++[p]:=by rw [c0i,hp];rfl
    rw [this,c0e,c0e]
    exact o3
   ·intro hh
    rcases in3 o hh with h1 | h1
    ·exact hno h1
    ·omega
  ·intro hge
   have hge:P.length≤i:=by
    have:¬ (i:Int)<(P.length:Int):=by simpa using hge
    omega
   rw [List.take_of_length_le hge] at ow
   exact .some (.inr ⟨by simp,rfl,_,_,rfl,ow,kp⟩)
 ·rintro ⟨ex,ds,g'⟩ ⟨rfl,d,rest,rfl,o,kp⟩
  exact k _ _ _ o kp
end Go.Proofs.YtkpnnfhodlanjaaDoor

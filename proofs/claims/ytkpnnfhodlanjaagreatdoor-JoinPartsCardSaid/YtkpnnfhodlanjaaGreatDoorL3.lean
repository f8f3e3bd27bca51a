/- Laws, on plain data, about functions that the statement reaches. -/
import Derived.Test.YtkpnnfhodlanjaaGreatDoorL2
set_option linter.unusedSimpArgs false
set_option linter.unusedVariables false
set_option linter.unnecessarySimpa false
set_option maxRecDepth 100000
namespace Go.Proofs.YtkpnnfhodlanjaaGreatDoor
open Go.Eng Go.Pi
open Option (bind_some)
theorem c5c {c:Kd→Kd→Int} (od:CmO c) {cmp:D} (hcmp:CmpFY cmp c) {o N:Nat} (hN:N≤1000000) {g:Hp} {l:List Kd} (hl:l.length=N) (ho:g[o]?=some (.row a0h 12 (l.map kdr))) (a b pv:Nat) (hb:b≤N) (hp1:a≤pv) (hp2:pv<b) :
  Wp (R b1N [.msl 12 o 0 N,.int .i64 (a:Int),.int .i64 (b:Int),.int .i64 (pv:Int),cmp] g) fun r=>∃ (m:Nat) (d:Bool) (l':List Kd),r.1 = .tup [.int .i64 (m:Int),.bool d]∧r.2[o]?=some (.row a0h 12 (l'.map kdr))∧Seg a b l l'∧Part c a b m l'∧Same o g r.2:=by
 rw [c2P]
 obtain ⟨x,hx⟩:∃ x,l[a]?=some x:=⟨_,c9c (by omega)⟩
 obtain ⟨p,hp⟩:∃ p,l[pv]?=some p:=⟨_,c9c (by omega)⟩
 have w1:=wi_ a (by omega)
 have w2:IntKind.wrap .i64 ((b:Int) - 1)=((b - 1:Nat):Int):=by rw [wrap_i64 (by omega) (by omega)];omega
 simp only [b8G,bs,adY (show pv<N by omega),adY (show a<N by omega),a1s ho hx,a1s ho hp,c8N]
 refine swY ho hx hp fun g1 p1 s1=>?_
 have sg1:Seg a b l ((l.set a p).set pv x):=a1O hx hp (by omega) (by omega) (by omega) (by omega)
 have pv1:((l.set a p).set pv x)[a]?=some p:=by
  rw [a3V hx hp]
  split
  ·rename_i e
   subst e
   rw [hx] at hp
   exact hp
  ·rw [if_pos rfl]
 have hl1:=sg1.len.trans hl
 generalize (l.set a p).set pv x=l1 at p1 sg1 pv1 hl1
 have P1:PI c a b (a+1) (b - 1) p l1:=⟨pv1,by omega,by omega,by omega,fun k x h1 h2=>by omega,fun k x h1 h2=>by omega⟩
 simp only [bs,a0k,w1,a0t,w2,c8N]
 refine c1j hcmp hN hl1 p1 a b _ _ p hb P1 _ fun i1 y1 P2 hi1 hd1=>?_
 simp only [a0o,a0j,bs,a0e,a0g,c8N]
 refine c1k hcmp hN hl1 p1 a b _ _ p hb P2 _ (by rfl) _ fun j1 y2 P3 hj1 hd2=>?_
 have hjb3:=P3.jb
 have hi3:=P3.i1
 have hij3:=P3.ij
 simp only [a0o,a0j,bs,a0e,a0g,a1e,c8N]
 obtain ⟨q,hq⟩:∃ q,l1[j1]?=some q:=⟨_,c9c (by omega)⟩
 by_cases hij:i1>j1
 ·have d0:decide ((i1:Int)>(j1:Int))=true:=decide_eq_true (by omega)
  have e1:i1=j1+1:=by omega
  subst e1
  simp only [d0,a0d,if_true,adY (show a<N by omega),adY (show j1<N by omega),a1s p1 pv1,a1s p1 hq,bs]
  refine swY p1 hq pv1 fun g2 p2 s2=>?_
  obtain ⟨pt,sg2⟩:=P3.part hq
  simp only [bs,a0G]
  exact .some ⟨j1,true,_,rfl,p2,sg1.trans sg2,pt,s1.trans s2⟩
 ·have d0:decide ((i1:Int)>(j1:Int))=false:=decide_eq_false (by omega)
  obtain ⟨u,hu,hcu⟩:=hd1 (by omega)
  obtain ⟨v,hv,hcv⟩:=hd2 (by omega)
  have hne:i1≠j1:=fun e=>by
   subst e
   rw [hu] at hv
   injection hv with hv
   subst hv
   exact hcu hcv
  have w3:=wi_ i1 (by omega)
  have w4:IntKind.wrap .i64 ((j1:Int) - 1)=((j1 - 1:Nat):Int):=by rw [wrap_i64 (by omega) (by omega)];omega
  simp only [d0,a0d,c8O,if_false,adY (show i1<N by omega),adY (show j1<N by omega),a1s p1 hu,a1s p1 hv,bs,c8N]
  refine swY p1 hu hv fun g2 p2 s2=>?_
  have P4:=P3.swap (by omega) hu hv hcu hcv
  have sg2:Seg a b l1 ((l1.set i1 v).set j1 u):=a1O hu hv (by omega) (by omega) (by omega) (by omega)
  have hl2:=sg2.len.trans hl1
  generalize (l1.set i1 v).set j1 u=l2 at p2 P4 sg2 hl2
  simp only [bs,a0k,a0t,w3,w4,c8N]
  refine Wp.loop (fun n ds g'=>∃ x2 x3 x4,∃ i j:Nat,∃ l',ds=[.int .i64 (i:Int),.int .i64 (j:Int),x2,x3,x4]∧n+i=j+1∧g'[o]?=some (.row a0h 12 (l'.map kdr))∧Seg a b l2 l'∧PI c a b i j p l'∧Same o g2 g')
   (fun r=>r.1 = .ext 4∧∃ j:Nat,∃ l',nth 1 r.2.1 = .int .i64 (j:Int)∧r.2.2[o]?=some (.row a0h 12 (l'.map kdr))∧Seg a b l2 l'∧PI c a b (j+1) j p l'∧Same o g2 r.2.2) (j1 - 1+1 - (i1+1)) ⟨_,_,_,i1+1,j1 - 1,l2,rfl,by omega,p2,.refl _ _ _,P4,.refl _ _⟩ ?_ ?_
  ·rintro n ds g' ⟨x2,x3,x4,i,j,l',rfl,hn,ho',sg,hP,sm⟩
   have hl':=sg.len.trans hl2
   simp only [a9b,a0e,a0g,bs,c8N]
   refine c1l hcmp hN hl' ho' a b _ _ p hb hP _ (by rfl) _ fun i2 y3 P5 hi2 hd3=>?_
   simp only [a0o,a0j,bs,a0e,a0g,c8N]
   refine c1m hcmp hN hl' ho' a b _ _ p hb P5 _ (by rfl) _ fun j2 y4 P6 hj2 hd4=>?_
   have hjb6:=P6.jb
   have hi6:=P6.i1
   have hij6:=P6.ij
   simp only [a0o,a0j,bs,a0e,a0g,a1e,c8N]
   by_cases hij:i2>j2
   ·have d0:decide ((i2:Int)>(j2:Int))=true:=decide_eq_true (by omega)
    have e1:i2=j2+1:=by omega
    subst e1
    simp only [d0,a0d,if_true]
    exact .some (.inr ⟨by simp,rfl,j2,l',rfl,ho',sg,P6,sm⟩)
   ·have d0:decide ((i2:Int)>(j2:Int))=false:=decide_eq_false (by omega)
    obtain ⟨u2,hu2,hcu2⟩:=hd3 (by omega)
    obtain ⟨v2,hv2,hcv2⟩:=hd4 (by omega)
    have hne2:i2≠j2:=fun e=>by
     subst e
     rw [hu2] at hv2
     injection hv2 with hv2
     subst hv2
     exact hcu2 hcv2
    have w5:=wi_ i2 (by omega)
    have w6:IntKind.wrap .i64 ((j2:Int) - 1)=((j2 - 1:Nat):Int):=by rw [wrap_i64 (by omega) (by omega)];omega
    simp only [d0,a0d,c8O,if_false,adY (show i2<N by omega),adY (show j2<N by omega),a1s ho' hu2,a1s ho' hv2,bs,c8N]
    refine swY ho' hu2 hv2 fun g3 p3 s3=>?_
    simp only [bs,a0k,a0t,w5,w6]
    exact .some (.inl ⟨rfl,j2 - 1+1 - (i2+1),by omega,_,_,_,i2+1,j2 - 1,_,rfl,by omega,p3,sg.trans (a1O hu2 hv2 (by omega) (by omega) (by omega) (by omega)),P6.swap (by omega) hu2 hv2 hcu2 hcv2,sm.trans s3⟩)
  ·rintro ⟨ex,ds,g3⟩ ⟨rfl,j3,l3,hj3,p3,sg3,P7,sm3⟩
   simp only at hj3 p3 sm3
   have hl3:=sg3.len.trans hl2
   have hjb7:=P7.jb
   obtain ⟨q3,hq3⟩:∃ q,l3[j3]?=some q:=⟨_,c9c (by omega)⟩
   simp only [a0o,a0j,bs,a0e,a0g,hj3,adY (show a<N by omega),adY (show j3<N by omega),a1s p3 P7.pv,a1s p3 hq3,c8N]
   refine swY p3 hq3 P7.pv fun g4 p4 s4=>?_
   obtain ⟨pt,sg4⟩:=P7.part hq3
   simp only [bs,a0G]
   exact .some ⟨j3,false,_,rfl,p4,((sg1.trans sg2).trans sg3).trans sg4,pt,((s1.trans s2).trans sm3).trans s4⟩
theorem c4Y {o N:Nat} (hN:N≤60000) {g:Hp} {l:List Kd} (hl:l.length=N) (ho:g[o]?=some (.row a0h 12 (l.map kdr))) (a b:Nat) (hab:a+8≤b) (hb:b≤N) (cmp:D) :
  Wp (R b1K [.msl 12 o 0 N,.int .i64 (a:Int),.int .i64 (b:Int),cmp] g) fun p=>∃ l',p.2[o]?=some (.row a0h 12 (l'.map kdr))∧Seg a b l l'∧Same o g p.2:=by
 obtain ⟨n,hn⟩:∃ n,n=b - a:=⟨_,rfl⟩
 obtain ⟨k,hk⟩:∃ k,k=n / 4:=⟨_,rfl⟩
 have ho':o<g.length:=(c9d.1 ho).1
 have w1:IntKind.wrap .i64 ((b:Int) - (a:Int))=((n:Nat):Int):=by rw [wrap_i64 (by omega) (by omega)];omega
 have wq:IntKind.wrap .i64 (Int.tdiv (n:Int) 4)=((k:Nat):Int):=by
  rw [show Int.tdiv (n:Int) 4=((n / 4:Nat):Int) from by rw [Int.tdiv_eq_ediv_of_nonneg (by omega)];omega,wrap_i64 (by omega) (by omega)];omega
 have wu:IntKind.wrap .u64 (n:Int)=(n:Int):=a1y (by omega) (by omega)
 have w2:IntKind.wrap .i64 ((k:Int)*2)=((2*k:Nat):Int):=by rw [wrap_i64 (by omega) (by omega)];omega
 have w3:IntKind.wrap .i64 ((a:Int)+((2*k:Nat):Int))=((a+2*k:Nat):Int):=by rw [wrap_i64 (by omega) (by omega)];omega
 have w4:IntKind.wrap .i64 (((a+2*k:Nat):Int) - 1)=((a+2*k - 1:Nat):Int):=by rw [wrap_i64 (by omega) (by omega)];omega
 have w5:IntKind.wrap .i64 (((a+2*k:Nat):Int)+1)=((a+2*k+1:Nat):Int):=by rw [wrap_i64 (by omega) (by omega)];omega
 have g8:decide ((n:Int)≥8)=true:=decide_eq_true (by omega)
 rw [c2L]
 simp only [b8C,bs,a0t,w1,a0S,g8,a0d,if_true,a9r,wu,c8N]
 have q0:(a1h g a0T 1 [[.int .u64 0]])[g.length]?=some (.row a0T 1 [[.int .u64 0]]):=a2j _ _ _ _
 have l0:(a1h g a0T 1 [[.int .u64 0]]).length=g.length+1:=a6R _ _ _ _
 have k0:∀ q,q<g.length→(a1h g a0T 1 [[.int .u64 0]])[q]?=g[q]?:=fun q hq=>a1T _ _ _ _ hq
 refine a5m (kk:=0) (off:=0) q0 (row:=[.int .u64 0]) (by rfl) (by rfl) (by simp) (by rfl) fun g1 p1 s1=>?_
 replace p1:g1[g.length]?=some (.row a0T 1 [[.int .u64 (n:Int)]]):=p1
 obtain ⟨m,em,m1,m2⟩:=c0I n (by omega) (by omega) g1
 have wm:IntKind.wrap .u64 ((m:Int) - 1)=((m - 1:Nat):Int):=by rw [a1y (by omega) (by omega)];omega
 simp only [bs,em,a1D,show ¬ (4:Int)=0 by omega,if_false,wq,a2i,w2,a0k,w3,a0t,w4,c8N]
 refine Wp.loop (fun j ds g'=>∃ x1 x2 x3,∃ i:Nat,∃ s:Int,∃ l',ds=[.int .i64 (i:Int),x1,x2,x3]∧j+i=a+2*k+2∧a+2*k - 1≤i∧g'[o]?=some (.row a0h 12 (l'.map kdr))∧g'[g.length]?=some (.row a0T 1 [[.int .u64 s]])∧Seg a b l l'∧Grow g.length o g g')
  (fun r=>r.1 = .ext 0∧∃ l',r.2.2[o]?=some (.row a0h 12 (l'.map kdr))∧Seg a b l l'∧Grow g.length o g r.2.2) 3 ⟨_,_,_,a+2*k - 1,(n:Int),l,rfl,by omega,Nat.le_refl _,by rw [s1.2 o (by omega),k0 o ho'];exact ho,p1,.refl _ _ _,by have:=s1.1;omega,fun q hq hne=>by rw [s1.2 q (by omega),k0 q hq]⟩ ?_ ?_
 ·rintro j ds g' ⟨x1,x2,x3,i,s,l',rfl,hj,hi,ho2,hq2,sg,gr⟩
  have hl':=sg.len.trans hl
  have w6:=wi_ i (by omega)
  simp only [a8Y,a0e,a0g,bs,a1D,show ¬ (4:Int)=0 by omega,if_false,wq,a2i,w2,a0k,w3,w5,a0Y,c8N]
  refine Wp.dif ?_ ?_
  ·intro h0
   have h0:i≤a+2*k+1:=by
    have:(i:Int)≤((a+2*k+1:Nat):Int):=by simpa using h0
    omega
   refine Wp.bind (c0J hq2) ?_
   rintro ⟨d,g3⟩ ⟨s',hd,hq3,sm3⟩
   simp only at hd hq3 sm3
   subst hd
   obtain ⟨v,hv,ev⟩:=b5i s' m m1 (by omega)
   have wv:IntKind.wrap .i64 (v:Int)=(v:Int):=wrap_i64 (by omega) (by omega)
   have ho3:g3[o]?=some (.row a0h 12 (l'.map kdr)):=by rw [sm3.2 o (by omega)];exact ho2
   simp only [bs,a0t,wm,a9s,ev,b1f,wv,a0S,c8N]
   refine Wp.bind (P:=fun r=>r.1 = .nrm∧r.2.2=g3∧∃ w:Nat,r.2.1=[.int .i64 (w:Int)]∧w<n) ?_ ?_
   ·by_cases hvn:v≥n
    ·have d0:decide ((v:Int)≥(n:Int))=true:=decide_eq_true (by omega)
     have w7:IntKind.wrap .i64 ((v:Int) - (n:Int))=((v - n:Nat):Int):=by rw [wrap_i64 (by omega) (by omega)];omega
     simp only [d0,a0d,if_true,a0t,w7,bs]
     exact .some ⟨rfl,rfl,v - n,rfl,by omega⟩
    ·have d0:decide ((v:Int)≥(n:Int))=false:=decide_eq_false (by omega)
     simp only [d0,a0d,c8O,if_false]
     exact .some ⟨rfl,rfl,v,rfl,by omega⟩
   ·rintro ⟨ex,ds2,g4⟩ ⟨rfl,rfl,w,hds,hw⟩
    simp only at hds
    subst hds
    have w8:IntKind.wrap .i64 ((a:Int)+(w:Int))=((a+w:Nat):Int):=by rw [wrap_i64 (by omega) (by omega)];omega
    obtain ⟨x,hx⟩:∃ x,l'[i]?=some x:=⟨_,c9c (by omega)⟩
    obtain ⟨y,hy⟩:∃ y,l'[a+w]?=some y:=⟨_,c9c (by omega)⟩
    simp only [a0j,a0e,a0k,w8,bs,adY (show i<N by omega),adY (show a+w<N by omega),a1s ho3 hx,a1s ho3 hy,c8N]
    refine swY ho3 hx hy fun g5 p5 s5=>?_
    simp only [bs,a0k,w6]
    exact .some (.inl ⟨rfl,j - 1,by omega,_,_,_,i+1,s',_,rfl,by omega,by omega,p5,by rw [s5.2 _ (by omega)];exact hq3,sg.trans (a1O hx hy (by omega) (by omega) (by omega) (by omega)),gr.trans ⟨by show g'.length≤g5.length;have:=s5.1;have:=sm3.1;omega,fun q hq hne=>by show g5[q]?=g'[q]?;rw [s5.2 q hne,sm3.2 q (by omega)]⟩⟩)
  ·intro h0
   exact .some (.inr ⟨by simp,rfl,l',ho2,sg,gr⟩)
 ·rintro ⟨ex,ds,g2⟩ ⟨rfl,l2,p2,sg,gr⟩
  simp only at p2 gr
  simp only [a0o,a1M,bs]
  obtain ⟨e1,e2,e3⟩:=a4g (d:=a0m []) (d':=a0m []) (by rfl) (.tup _ fun d hd=>by cases hd) gr (fun T sz rows hr row hrow d hd=>by
   rw [p2] at hr
   injection hr with hr
   injection hr with _ _ hr
   subst hr
   obtain ⟨x,_,rfl⟩:=c9k.1 hrow
   exact b2h _ x d hd)
  rw [e1]
  exact .some ⟨l2,by rw [e3 o ho'];exact p2,sg,e2⟩
theorem c1f {c:Kd→Kd→Int} (od:CmO c) {cmp:D} (hcmp:CmpFY cmp c) {o N:Nat} (hN:N≤1000000) {g:Hp} {l:List Kd} (hl:l.length=N) (ho:g[o]?=some (.row a0h 12 (l.map kdr))) (a b:Nat) (hab:a≤b) (hb:b≤N) :
  Wp (R a4X [.msl 12 o 0 N,.int .i64 (a:Int),.int .i64 (b:Int),cmp] g) fun p=>∃ l',p.2[o]?=some (.row a0h 12 (l'.map kdr))∧Seg a b l l'∧Srt c a b l'∧Same o g p.2:=by
 have e:=b0c l hab
 rw [← List.append_assoc] at e
 have h1:(l.take a).length=a:=by rw [c9h];omega
 have h2:((l.take b).drop a).length=b - a:=by rw [c9g,c9h];omega
 obtain ⟨⟨d,g'⟩,e1,C,q1,q2,q3,q4⟩:=b6N od.od hcmp (g:=g) (o:=o) (N:=N) (P:=l.take a) (A:=(l.take b).drop a) (Q:=l.drop b) (by omega) (by rw [← e];exact hl) (List.pairwise_of_forall fun _ _=>trivial) (by rw [← e];exact ho) (a:Int) (b:Int) (by rw [h1]) (by rw [h1,h2];omega)
 refine ⟨(d,g'),e1,_,q3,?_,?_,q4⟩
 ·have:=b2W (P:=l.take a) (Q:=l.drop b) q1
  rw [← e,h1,h2,show a+(b - a)=b by omega] at this
  exact this
 ·have:=b5R (c:=c) (P:=l.take a) (Q:=l.drop b) q2
  rw [q1.length_eq,h1,h2,show a+(b - a)=b by omega] at this
  exact this
theorem c4Q {c:Kd→Kd→Int} (od:CmO c) {cmp:D} (hcmp:CmpFY cmp c) {o N:Nat} (hN:N≤60000):∀ (n:Nat) (g:Hp) (l:List Kd) (a b:Nat) (lim:Int),b - a=n→l.length=N→g[o]?=some (.row a0h 12 (l.map kdr))→a≤b→b≤N→Low c a b l→Nd c l →
  Wp (R a5I [.msl 12 o 0 N,.int .i64 (a:Int),.int .i64 (b:Int),.int .i64 lim,cmp] g) fun p=>∃ l',p.2[o]?=some (.row a0h 12 (l'.map kdr))∧Seg a b l l'∧Srt c a b l'∧Same o g p.2:=by
 intro n
 induction n using Nat.strongRecOn with
 | _ n ih =>
  intro g l a b lim hn hl ho hab hb lw nd
  rw [b9z]
  simp only [b6c,bs,c8N]
  refine Wp.loop (fun k ds g'=>∃ a' b':Nat,∃ lim':Int,∃ wb wp:Bool,∃ x5 x6 x7 x8 x9 y0 y1 y2 y3 y4 y5 y6 y7 y8 y9 z0 z1,∃ l',ds=[.int .i64 (a':Int),.int .i64 (b':Int),.int .i64 lim',.bool wb,.bool wp,x5,x6,x7,x8,x9,y0,y1,y2,y3,y4,y5,y6,y7,y8,y9,z0,z1]∧k=b' - a'∧a≤a'∧a'≤b'∧b'≤b∧g'[o]?=some (.row a0h 12 (l'.map kdr))∧Seg a b l l'∧Low c a' b' l'∧Out2 c a b a' b' l'∧Same o g g')
   (fun r=>r.1 = .ret∧∃ l',r.2.2[o]?=some (.row a0h 12 (l'.map kdr))∧Seg a b l l'∧Srt c a b l'∧Same o g r.2.2) (b - a)
   ⟨a,b,lim,true,true,_,_,_,_,_,_,_,_,_,_,_,_,_,_,_,_,_,l,rfl,rfl,Nat.le_refl _,hab,Nat.le_refl _,ho,.refl _ _ _,lw,fun i j x y h1 h2 h3 h4=>absurd ⟨h1,h3⟩ h4,.refl _ _⟩ ?_ ?_
  ·rintro k ds g' ⟨a',b',lim',wb,wp,x5,x6,x7,x8,x9,y0,y1,y2,y3,y4,y5,y6,y7,y8,y9,z0,z1,l',rfl,rfl,ha,hab',hbb,ho',sg,lw',out,sm⟩
   have hl':=sg.len.trans hl
   have wlen:IntKind.wrap .i64 ((b':Int) - (a':Int))=((b' - a':Nat):Int):=by rw [wrap_i64 (by omega) (by omega)];omega
   simp only [a6a,a0e,a0g,bs,c8N,a0t,wlen,a0Y]
   by_cases h12:b' - a'≤12
   ·have d0:decide (((b' - a':Nat):Int)≤12)=true:=decide_eq_true (by omega)
    simp only [d0,a0d,if_true,bs,c8N]
    refine Wp.bind (c1f od hcmp (by omega) hl' ho' a' b' hab' (by omega)) ?_
    rintro ⟨d,g2⟩ ⟨l2,p2,s2,st2,m2⟩
    exact .some (.inr ⟨by simp,rfl,l2,p2,sg.trans (s2.mono ha hbb),(out.seg s2 ha hbb).all st2,sm.trans m2⟩)
   ·have d0:decide (((b' - a':Nat):Int)≤12)=false:=decide_eq_false (by omega)
    simp only [d0,a0d,c8O,if_false,bs,a0Q,c8N]
    by_cases hlim:lim'=0
    ·simp only [hlim,decide_true,a0d,if_true,bs,c8N]
     refine Wp.bind (c4X od hcmp (by omega) hl' ho' a' b' (by omega) (by omega)) ?_
     rintro ⟨d,g2⟩ ⟨l2,p2,s2,st2,m2⟩
     exact .some (.inr ⟨by simp,rfl,l2,p2,sg.trans (s2.mono ha hbb),(out.seg s2 ha hbb).all st2,sm.trans m2⟩)
    ·simp only [hlim,decide_false,a0d,c8O,if_false,bs,a1f,c8N]
     refine Wp.bind (P:=fun r=>r.1 = .nrm∧∃ (lim2:Int) (l2:List Kd),r.2.1=[.int .i64 lim2]∧r.2.2[o]?=some (.row a0h 12 (l2.map kdr))∧Seg a' b' l' l2∧Same o g' r.2.2) ?_ ?_
     ·cases wb with
      | true =>
       simp only [c8X,a0d,c8O,if_false]
       exact .some ⟨rfl,lim',l',rfl,ho',.refl _ _ _,.refl _ _⟩
      | false =>
       simp only [c8Y,a0d,if_true]
       refine Wp.bind (c4Y hN hl' ho' a' b' (by omega) (by omega) cmp) ?_
       rintro ⟨d,g2⟩ ⟨l2,p2,s2,m2⟩
       simp only [a0t,bs]
       exact .some ⟨rfl,_,l2,rfl,p2,s2,m2⟩
     ·rintro ⟨ex,ds1,g2⟩ ⟨rfl,lim2,l2,hds,p2,s2,m2⟩
      simp only at hds p2 m2
      subst hds
      have hl2:=s2.len.trans hl'
      obtain ⟨pv,t,e35,pv1,pv2⟩:=c4Z hcmp (by omega) hl2 p2 a' b' (by omega) (by omega)
      simp only [a0j,a0e,a0g,e35,bs,a0H,c8Q,c8R,a0Q,c8N]
      refine Wp.bind (P:=fun r=>r.1 = .nrm∧∃ (pv:Nat) (t:Int) (l3:List Kd),r.2.1=[.int .i64 (pv:Int),.int .i64 t]∧a'≤pv∧pv<b'∧r.2.2[o]?=some (.row a0h 12 (l3.map kdr))∧Seg a' b' l2 l3∧Same o g2 r.2.2) ?_ ?_
      ·by_cases h2:t=2
       ·have w1:IntKind.wrap .i64 ((b':Int) - 1)=((b' - 1:Nat):Int):=by rw [wrap_i64 (by omega) (by omega)];omega
        have w2:IntKind.wrap .i64 ((pv:Int) - (a':Int))=((pv - a':Nat):Int):=by rw [wrap_i64 (by omega) (by omega)];omega
        have w3:IntKind.wrap .i64 (((b' - 1:Nat):Int) - ((pv - a':Nat):Int))=((b' - 1 - (pv - a'):Nat):Int):=by rw [wrap_i64 (by omega) (by omega)];omega
        simp only [h2,decide_true,a0d,if_true]
        refine Wp.bind (c5a (by omega) hl2 p2 a' b' (by omega) (by omega) cmp) ?_
        rintro ⟨d,g3⟩ ⟨l3,p3,s3,m3⟩
        simp only [a0t,w1,w2,w3,bs]
        exact .some ⟨rfl,b' - 1 - (pv - a'),1,l3,rfl,by omega,by omega,p3,s3,m3⟩
       ·simp only [h2,decide_false,a0d,c8O,if_false]
        exact .some ⟨rfl,pv,t,l2,rfl,pv1,pv2,p2,.refl _ _ _,.refl _ _⟩
      ·rintro ⟨ex,ds2,g3⟩ ⟨rfl,pv,t,l3,hds,pv1,pv2,p3,s3,m3⟩
       simp only at hds p3 m3
       subst hds
       have hl3:=s3.len.trans hl2
       simp only [a0j,a0e,a0g,b5l,c8N]
       refine Wp.bind (P:=fun r=>(r.1 = .nrm∧∃ x l4,r.2.1=[x]∧r.2.2[o]?=some (.row a0h 12 (l4.map kdr))∧Seg a' b' l3 l4∧Same o g3 r.2.2)∨(r.1 = .ret∧∃ x l4,r.2.1=[x]∧r.2.2[o]?=some (.row a0h 12 (l4.map kdr))∧Seg a' b' l3 l4∧Srt c a' b' l4∧Same o g3 r.2.2)) ?_ ?_
       ·cases (wb&&wp&&decide (t=1)) with
        | false =>
         simp only [a0d,c8O,if_false]
         exact .some (.inl ⟨rfl,_,l3,rfl,p3,.refl _ _ _,.refl _ _⟩)
        | true =>
         simp only [a0d,if_true]
         refine Wp.bind (c5b od hcmp (by omega) hl3 p3 a' b' (by omega) (by omega) (lw'.seg (s2.trans s3))) ?_
         rintro ⟨d,g4⟩ ⟨bb,l4,hd,p4,s4,st4,m4⟩
         simp only at hd p4 m4
         subst hd
         cases bb with
         | true =>
          simp only [a0d,if_true]
          exact .some (.inr ⟨rfl,_,l4,rfl,p4,s4,st4 rfl,m4⟩)
         | false =>
          simp only [a0d,c8O,if_false]
          exact .some (.inl ⟨rfl,_,l4,rfl,p4,s4,m4⟩)
       ·rintro ⟨ex,ds3,g4⟩ (⟨rfl,x,l4,hds,p4,s4,m4⟩ | ⟨rfl,x,l4,hds,p4,s4,st4,m4⟩)
        ·simp only at hds p4 m4
         subst hds
         have hl4:=s4.len.trans hl3
         have sgA:=(s2.trans s3).trans s4
         have lw4:=lw'.seg sgA
         obtain ⟨v,hv⟩:∃ v,l4[pv]?=some v:=⟨_,c9c (by omega)⟩
         have h0:decide ((a':Int)>0)=false∨(decide ((a':Int)>0)=true∧∃ u,l4[a' - 1]?=some u∧c u v<0∧IntKind.wrap .i64 ((a':Int) - 1)=((a' - 1:Nat):Int)∧a' - 1<N):=by
          by_cases hh:0<a'
          ·obtain ⟨u,hu⟩:∃ u,l4[a' - 1]?=some u:=⟨_,c9c (by omega)⟩
           exact .inr ⟨decide_eq_true (by omega),u,hu,lw4 (a' - 1) pv u v (by omega) pv1 pv2 hu hv,by rw [wrap_i64 (by omega) (by omega)];omega,by omega⟩
          ·exact .inl (decide_eq_false (by omega))
         simp only [a0j,a0e,a0g,a1e]
         rcases h0 with dg | ⟨dg,u,hu,hcu,wa,hlt⟩
         all_goals
          simp only [dg,a0x,a0F,a1a,reduceCtorEq,c8O,if_false,if_true,bs,a0t,a0n,a0d,c8N]
          try simp only [wa,adY hlt,adY (show pv<N by omega),a1s p4 hu,a1s p4 hv,hcmp.ap,a0q,hcu,decide_true,a1f,c8X,bs,a0n,a0d,c8O,if_false,if_true,c8N]
          refine Wp.bind (c5c od hcmp (by omega) hl4 p4 a' b' pv (by omega) pv1 pv2) ?_
          rintro ⟨d,g5⟩ ⟨m,dd,l5,hd,p5,s5,pt,m5⟩
          simp only at hd p5 m5
          subst hd
          have hl5:=s5.len.trans hl4
          have pl:=pt.lo
          have ph:=pt.hi
          have sgB:=sgA.trans s5
          have sg5:=sg.trans (sgB.mono ha hbb)
          have lw5:=lw'.seg sgB
          have out5:=out.seg sgB ha hbb
          have nd5:Nd c l5:=nd.pm sg5.pm
          have sm5:=(((sm.trans m2).trans m3).trans m4).trans m5
          have w6:IntKind.wrap .i64 ((m:Int) - (a':Int))=((m - a':Nat):Int):=by rw [wrap_i64 (by omega) (by omega)];omega
          have w7:IntKind.wrap .i64 ((b':Int) - (m:Int))=((b' - m:Nat):Int):=by rw [wrap_i64 (by omega) (by omega)];omega
          have w8:=wi_ m (by omega)
          simp only [bs,a0H,c8Q,c8R,a0t,w6,w7,a1D,show ¬ (8:Int)=0 by omega,if_false,a0q,c8N]
          by_cases hlr:m - a'<b' - m
          ·have d2:decide (((m - a':Nat):Int)<((b' - m:Nat):Int))=true:=decide_eq_true (by omega)
           simp only [d2,a0d,if_true,a0S,bs,c8N]
           refine Wp.bind (ih (m - a') (by omega) g5 l5 a' m lim2 rfl hl5 p5 pl (by omega) (lw5.lft pt) nd5) ?_
           rintro ⟨d,g6⟩ ⟨l6,p6,s6,st6,m6⟩
           simp only [bs,a0k,w8,a0L,a0e,a0g]
           exact .some (.inl ⟨rfl,b' - (m+1),by omega,m+1,b',lim2,_,dd,_,_,_,_,_,_,_,_,_,_,_,_,_,_,_,_,_,l6,rfl,rfl,by omega,by omega,hbb,p6,sg5.trans (s6.mono ha (by omega)),(lw5.rgt od pt nd5 (by omega)).pre s6,out5.left od pt (by omega) s6 st6 ha hbb,sm5.trans m6⟩)
          ·have d2:decide (((m - a':Nat):Int)<((b' - m:Nat):Int))=false:=decide_eq_false (by omega)
           simp only [d2,a0d,c8O,if_false,a0S,a0k,w8,bs,c8N]
           refine Wp.bind (ih (b' - (m+1)) (by omega) g5 l5 (m+1) b' lim2 rfl hl5 p5 (by omega) (by omega) (lw5.rgt od pt nd5 (by omega)) nd5) ?_
           rintro ⟨d,g6⟩ ⟨l6,p6,s6,st6,m6⟩
           simp only [bs,a0L,a0e,a0g]
           exact .some (.inl ⟨rfl,m - a',by omega,a',m,lim2,_,dd,_,_,_,_,_,_,_,_,_,_,_,_,_,_,_,_,_,l6,rfl,rfl,ha,pl,by omega,p6,sg5.trans (s6.mono (by omega) hbb),(lw5.lft pt).post s6 (by omega) (by omega),out5.right od pt (by omega) s6 st6 ha hbb,sm5.trans m6⟩)
        ·simp only at hds p4 m4
         subst hds
         have sgA:=(s2.trans s3).trans s4
         simp only [a1n,a0U,a0e,a0g,bs]
         exact .some (.inr ⟨by simp,rfl,l4,p4,sg.trans (sgA.mono ha hbb),(out.seg sgA ha hbb).all st4,((sm.trans m2).trans m3).trans m4⟩)
  ·rintro ⟨ex,ds,g'⟩ ⟨rfl,l',h1,h2,h3,h4⟩
   simp only [a0U,a1i]
   exact .some ⟨l',h1,h2,h3,h4⟩
theorem c4O {c:Kd→Kd→Int} (od:CmO c) {cmp:D} (hcmp:CmpFY cmp c) {o N:Nat} (hN:N≤60000) {g:Hp} {l:List Kd} (hl:l.length=N) (ho:g[o]?=some (.row a0h 12 (l.map kdr))) (nd:Nd c l) :
  Wp (R a5G [.msl 12 o 0 N,cmp] g) fun p=>∃ C:List Kd,C.Perm l∧(C.Pairwise fun x y=>¬ c y x<0)∧p.2[o]?=some (.row a0h 12 (C.map kdr))∧Same o g p.2:=by
 have wu:IntKind.wrap .u64 (N:Int)=(N:Int):=a1y (by omega) (by omega)
 obtain ⟨k,ek,_⟩:=b2V N (by omega) g
 rw [b9x]
 simp only [b6a,b4w,bs,a4L,wu,ek]
 refine Wp.bind (c4Q od hcmp hN N g l 0 N (k:Int) (by omega) hl ho (by omega) (Nat.le_refl _) (fun i j x y h1=>by omega) nd) ?_
 rintro ⟨d,g'⟩ ⟨l',h1,h2,h3,h4⟩
 exact .some ⟨l',h2.pm,b3g (by rw [h2.len,hl];exact h3),h1,h4⟩
theorem c0H (d cmp:D) (h:Hp) (hd:SlOf 12 kdr [] d):∃ x,R a5G [d,cmp] h=some (x,h):=by
 have hl:a0B tab a0u d=some (.int .i64 0):=a4B hd
 have h65:∃ x,R a4X [d,.int .i64 0,.int .i64 0,cmp] h=some (x,h):=by
  rw [b9B]
  refine ⟨a0m [],?_⟩
  simp only [b6e,bs,c8N,a0k,show IntKind.wrap .i64 ((0:Int)+1)=1 from rfl]
  rw [a1w]
  simp [-bind_some, a6k]
 obtain ⟨x,h65⟩:=h65
 obtain ⟨k,ek,_⟩:=b2V 0 (by omega) h
 have ek:R a4V [.int .u64 0] h=some (.int .i64 (k:Int),h):=ek
 have h63:∃ y,R a5I [d,.int .i64 0,.int .i64 0,.int .i64 (k:Int),cmp] h=some (y,h):=by
  rw [b9z]
  refine ⟨a0m [],?_⟩
  simp only [b6c,bs,c8N]
  rw [a1w]
  simp only [a6a,a0e,a0g,bs,a0t,show IntKind.wrap .i64 ((0:Int) - 0)=0 from rfl,a0Y,show decide ((0:Int)≤12)=true from rfl,a0d,if_true,h65,a0U,a1i]
 obtain ⟨y,h63⟩:=h63
 refine ⟨a0m [],?_⟩
 rw [b9x]
 simp only [b6a,bs,hl,a4L,show IntKind.wrap .u64 (0:Int)=0 from rfl,ek,h63]
theorem b9s {β:Type} (p:β→Bool):∀ (f:Nat) (B:List β),(∀ j y,j<f→B[j]?=some y→p y=true)→f≤B.length→(∀ y,B[f]?=some y→p y=false)→B.drop f=B.dropWhile p
 | 0,[],_,_,_=>rfl
 | 0,y::B,_,_,h=>by simp [-bind_some, List.dropWhile,h y rfl]
 | f+1,[],_,h,_=>by simp at h
 | f+1,y::B,h1,h2,h3=>by
  have:p y=true:=h1 0 y (by omega) rfl
  simp only [List.drop_succ_cons,List.dropWhile,this]
  exact b9s p f B (fun j z hj hz=>h1 (j+1) z (by omega) (by simpa using hz)) (by simpa using h2) (fun z hz=>h3 z (by simpa using hz))
theorem c5G {β:Type} (e l:β→Bool):∀ B:List β,B.Pairwise (fun y z=>(e z=true→e y=true)∧(e y=false→l y=true→l z=true))→B.filter (fun y => !e y && !l y)=(B.dropWhile e).takeWhile (fun y => !l y)
 | [],_=>rfl
 | y :: B, h=>by
  obtain ⟨h1,h2⟩:=List.pairwise_cons.1 h
  have ih:=c5G e l B h2
  cases ey:e y with
  | true=>simpa [-bind_some, List.dropWhile,ey] using ih
  | false =>
   have hB:B.dropWhile e=B:=by
    cases B with
    | nil=>rfl
    | cons z B =>
     have:e z=false:=by
      cases ez:e z with
      | false=>rfl
      | true=>have:=(h1 z (by simp)).1 ez;rw [ey] at this;cases this
     simp [-bind_some, List.dropWhile,this]
   rw [hB] at ih
   cases ly:l y with
   | false=>simp [-bind_some, List.dropWhile,List.takeWhile,ey,ly,ih]
   | true =>
    have:B.filter (fun y => !e y && !l y)=[]:=List.filter_eq_nil_iff.2 fun z hz=>by
     have:=(h1 z hz).2 ey ly
     simp [-bind_some, this]
    simp [-bind_some, List.dropWhile,List.takeWhile,ey,ly]
    exact fun z hz _=>(h1 z hz).2 ey ly
theorem a7T {α:Type} {R:α→α→Prop} (an:∀ x y,R x y→R y x→x=y):∀ {A B:List α},A.Pairwise R→B.Pairwise R→A.Perm B→A=B
 | [],B,_,_,p=>by simpa using p.symm
 | x::A,[],_,_,p=>by simpa using p
 | x::A,y::B,ha,hb,p=>by
  obtain ⟨h1,h2⟩:=List.pairwise_cons.1 ha
  obtain ⟨k1,k2⟩:=List.pairwise_cons.1 hb
  have e:x=y:=by
   have hx:x∈y::B:=p.subset (by simp)
   have hy:y∈x::A:=p.symm.subset (by simp)
   rcases c9i.1 hx with rfl | hx
   ·rfl
   ·rcases c9i.1 hy with rfl | hy
    ·rfl
    ·exact an _ _ (h1 y hy) (k1 x hx)
  subst e
  rw [a7T an h2 k2 ((List.perm_cons _).1 p)]
theorem b1z {α β:Type} (f g:α→List β):∀ A:List α,(∀ x∈A,(f x).Perm (g x))→(A.flatMap f).Perm (A.flatMap g)
 | [],_ => .refl _
 | x::A,h=>by
  simp only [List.flatMap_cons]
  exact (h x (by simp)).append (b1z f g A fun y hy=>h y (by simp [-bind_some, hy]))
theorem b6D {α β γ:Type} (F:α→β→Bool) (G:α→β→γ) {A A':List α} {B B':List β} (ha:A.Perm A') (hb:B.Perm B'):(A.flatMap fun x=>(B.filter (F x)).map (G x)).Perm (A'.flatMap fun x=>(B'.filter (F x)).map (G x)) :=
 (ha.flatMap_right _).trans (b1z _ _ _ fun x _=>(hb.filter _).map _)
def mg {γ:Type} (same:γ→γ→Bool):List γ→List γ→List γ→Bool
 | [],_,_=>true
 | x::p,q,r=>match q with
  | a::q'=>if same a x then mg same p q' r else match r with
   | c::r'=>if same c x then mg same p (a::q') r' else false
   | []=>false
  | []=>match r with
   | c::r'=>if same c x then mg same p [] r' else false
   | []=>false
theorem c5E {γ:Type} {same:γ→γ→Bool} (hs:∀ x,same x x=true) (p q r:List γ):∀ bl:List γ,mg same (bl++p) (bl++q) r=mg same p q r
 | []=>rfl
 | x::bl=>by simp only [List.cons_append,mg,hs,if_true];exact c5E hs p q r bl
theorem c5F {γ:Type} {same:γ→γ→Bool} (hs:∀ x,same x x=true) (p q r:List γ):∀ bl:List γ,(∀ a∈q,∀ x∈bl,same a x=false)→mg same (bl++p) q (bl++r)=mg same p q r
 | [],_=>rfl
 | x::bl,h=>by
  have ih:=c5F hs p q r bl fun a ha y hy=>h a ha y (by simp [-bind_some, hy])
  cases q with
  | nil=>simp only [List.cons_append,mg,hs,if_true];exact ih
  | cons a q =>
   have:=h a (by simp) x (by simp)
   simp only [List.cons_append,mg,hs,if_true,this,c8O,if_false]
   exact ih
def a2J {α:Type} (b:Bool):List α→List Bool→List α
 | x::l,c::s=>if c=b then x::a2J b l s else a2J b l s
 | _,_=>[]
theorem a2K {α:Type} {b:Bool} {x:α}:∀ {l:List α} {s:List Bool},x∈a2J b l s→x∈l
 | [],_,h=>by simp [-bind_some, a2J] at h
 | y::l,[],h=>by simp [-bind_some, a2J] at h
 | y::l,c::s,h=>by
  simp only [a2J] at h
  split at h
  ·rcases c9i.1 h with rfl | h
   ·simp [-bind_some]
   ·simp [-bind_some, a2K h]
  ·simp [-bind_some, a2K h]
theorem b5D {α β:Type} {same:α × β→α × β→Bool} (hs:∀ x,same x x=true) (se:α→α→Bool) (hse:∀ x y,same x y=true→se x.1 y.1=true) (F:α→List β) :
  ∀ (l:List α) (s:List Bool),l.length=s.length→l.Pairwise (fun x y=>se y x=false) →
   mg same (l.flatMap fun x=>(F x).map fun y=>(x,y)) ((a2J true l s).flatMap fun x=>(F x).map fun y=>(x,y)) ((a2J false l s).flatMap fun x=>(F x).map fun y=>(x,y))=true
 | [],_,_,_=>rfl
 | x::l,[],h,_=>by simp at h
 | x::l,c::s,h,hp=>by
  obtain ⟨h1,h2⟩:=List.pairwise_cons.1 hp
  have ih:=b5D hs se hse F l s (by simpa using h) h2
  cases c with
  | true =>
   simp only [a2J,if_true,List.flatMap_cons,c8P,if_false]
   rw [c5E hs];exact ih
  | false =>
   simp only [a2J,if_true,List.flatMap_cons,c8O,if_false]
   rw [c5F hs]
   ·exact ih
   ·intro a ha z hz
    obtain ⟨x',hx',ha⟩:=List.mem_flatMap.1 ha
    obtain ⟨y',_,rfl⟩:=c9k.1 ha
    obtain ⟨y,_,rfl⟩:=c9k.1 hz
    cases hh:same (x',y') (x,y) with
    | false=>rfl
    | true=>have:=hse _ _ hh;rw [h1 x' (a2K hx')] at this;cases this
theorem b2X {α β:Type} (F:α→List β):∀ (l:List α) (s:List Bool),l.length=s.length→((a2J true l s).flatMap F).length+((a2J false l s).flatMap F).length=(l.flatMap F).length
 | [],_,_=>rfl
 | x::l,[],h=>by simp at h
 | x::l,c::s,h=>by
  have ih:=b2X F l s (by simpa using h)
  cases c <;> simp only [a2J,if_true,List.flatMap_cons,c8O,c8P,if_false,c8S] <;> omega
def evI (its:List It):List Ev:=(its.filter fun i=>decide (i.r=[])).map (·.e)
theorem b1t (its:List It):(evI its).length≤its.length:=by
 unfold evI
 rw [c8T]
 exact List.length_filter_le _ _
theorem b4q (l:List Ev) (e:Ev):(ins l e).Perm (e::l):=by
 have h:=List.perm_middle (a:=e) (l₁:=l.take (a1J l e l.length)) (l₂:=l.drop (a1J l e l.length))
 rw [List.take_append_drop] at h
 unfold ins
 rw [List.append_assoc]
 exact h
theorem a5b:∀ (E l:List Ev),(E.foldl ins l).Perm (E++l)
 | [],l => .refl _
 | e::E,l=>((a5b E (ins l e)).trans ((b4q l e).append_left E)).trans List.perm_middle
theorem b2c:∀ (E l:List Ev),b0g l→(∀ e∈E,a8L e)→b0g (E.foldl ins l)
 | [],_,h,_=>h
 | e::E,l,h,k=>b2c E (ins l e) (b9T h (k e (by simp))) fun x hx=>k x (by simp [-bind_some, hx])
theorem a4A (E l:List Ev):(E.foldl ins l).length=E.length+l.length:=by rw [(a5b E l).length_eq,c8S]
theorem c3W (ps:List (List It × D)) (d:D) (hd:SlOf 1 (fun p=>[p.2]) ps d) (i:Nat) (ds1:List D) (hds:nth 1 ds1 = .int .i64 i) (its:List It) (y:D) (hi:ps[i]?=some (its,y)) (hy:SlOf 11 itr its y) (hln:its.length≤100)
  (l:List Ev) (x a b:D) (hx:SlOf 10 evr l x) (hll:l.length≤100000) (g:Hp) {β:Type} {K:Out→Option β} {Q:β→Prop}
  (cont:∀ x' c a b,SlOf 10 evr ((evI its).foldl ins l) x'→Wp (K (.ext 4,[x',c,a,b],g)) Q) :
  Wp ((a0z (b0P d ds1) [x,.int .i64 0,a,b] g).bind K) Q:=by
 refine Wp.loop (fun k ds g'=>g'=g∧∃ x a b,∃ j:Nat,ds=[x,.int .i64 j,a,b]∧SlOf 10 evr ((evI (its.take j)).foldl ins l) x∧k+j=its.length)
  (fun r=>r.1 = .ext 4∧r.2.2=g∧∃ x c a b,r.2.1=[x,c,a,b]∧SlOf 10 evr ((evI its).foldl ins l) x)
  its.length ⟨rfl,x,a,b,0,rfl,hx,by omega⟩ ?_ ?_
 ·rintro k ds g' ⟨rfl,x,a,b,j,rfl,hx,hk⟩
  have hix:a0a tab a3D d (.int .i64 i)=some (.fptr [y]):=by
   rw [b9X hd];simp [-bind_some, hi]
  simp only [b0P,a0e,a0g,bs,hds,hix,c3X,b7e hy,a0q,c8N]
  refine Wp.dif ?_ ?_
  ·intro h0
   have hj:j<its.length:=by
    have:(j:Int)<its.length:=by simpa using h0
    omega
   have hg:its[j]?=some its[j]:=c9c hj
   generalize hit:its[j]=it at hg
   have hiy:a0a tab a2n y (.int .i64 j)=some (.fptr (itr it)):=by
    rw [b9Y hy];simp [-bind_some, hg]
   have hw:=wi_ j (by omega)
   have hlen:((evI (its.take j)).foldl ins l).length≤1000000000:=by
    rw [a4A]
    have:=b1t (its.take j)
    rw [c9h] at this
    omega
   have hts:evI (its.take (j+1))=evI (its.take j)++if it.r=[] then [it.e] else []:=by
    unfold evI
    rw [c8Z,hg,List.filter_append,c8U]
    congr 1
    by_cases hr:it.r=[] <;> simp [-bind_some, hr]
   simp only [hiy,bs,c5y,c5A,c5z,evL,a1L]
   refine Wp.join (P:=fun r=>∃ x,r=(.nrm,[x],g')∧SlOf 10 evr ((evI (its.take (j+1))).foldl ins l) x) ?_ ?_ ?_
   ·intro hr
    have hr:it.r=[]:=by simpa using hr
    obtain ⟨d',e1,hd'⟩:=s72 _ x it.e g' hx hlen
    simp only [e1,bs]
    refine .some ⟨d',rfl,?_⟩
    rw [hts,if_pos hr,List.foldl_append]
    exact hd'
   ·intro hr
    have hr:¬ it.r=[]:=by simpa using hr
    refine .some ⟨x,rfl,?_⟩
    rw [hts,if_neg hr,List.append_nil]
    exact hx
   ·rintro _ ⟨x,rfl,hx⟩
    simp only [a0L,a0j,a0e,bs,a0k,hw]
    exact .some (.inl ⟨rfl,k - 1,by omega,rfl,x,_,_,j+1,rfl,hx,by omega⟩)
  ·intro h0
   have h0:its.length≤j:=by
    have:¬ (j:Int)<its.length:=by simpa using h0
    omega
   rw [List.take_of_length_le h0] at hx
   exact .some (.inr ⟨by simp,rfl,rfl,x,_,_,_,rfl,hx⟩)
 ·rintro ⟨ex,ds,g'⟩ ⟨rfl,rfl,x,c,a,b,rfl,hx⟩
  exact cont x c a b hx
def evF (ps:List (List It × D)):List Ev:=ps.flatMap fun p=>evI p.1
theorem a8p:∀ (ps:List (List It × D)),(∀ p∈ps,p.1.length≤100)→(evF ps).length≤100*ps.length
 | [],_=>by simp [-bind_some, evF]
 | p::ps,h=>by
  have:=a8p ps fun q hq=>h q (by simp [-bind_some, hq])
  have h1:=b1t p.1
  have h2:=h p (by simp)
  simp only [evF,List.flatMap_cons,c8S,c9e] at this ⊢
  omega
theorem c3V (ps:List (List It × D)) (d:D) (hd:SlOf 1 (fun p=>[p.2]) ps d) (hln:ps.length≤3) (hok:∀ p∈ps,SlOf 11 itr p.1 p.2∧p.1.length≤100)
  (l:List Ev) (x a b c e:D) (hx:SlOf 10 evr l x) (hll:l.length≤10000) (g:Hp) {β:Type} {K:Out→Option β} {Q:β→Prop}
  (cont:∀ x' f a b c e,SlOf 10 evr ((evF ps).foldl ins l) x'→Wp (K (.ext 2,[x',f,a,b,c,e],g)) Q) :
  Wp ((a0z (b0O d) [x,.int .i64 0,a,b,c,e] g).bind K) Q:=by
 refine Wp.loop (fun k ds g'=>g'=g∧∃ x a b c e,∃ j:Nat,ds=[x,.int .i64 j,a,b,c,e]∧SlOf 10 evr ((evF (ps.take j)).foldl ins l) x∧k+j=ps.length)
  (fun r=>r.1 = .ext 2∧r.2.2=g∧∃ x f a b c e,r.2.1=[x,f,a,b,c,e]∧SlOf 10 evr ((evF ps).foldl ins l) x)
  ps.length ⟨rfl,x,a,b,c,e,0,rfl,hx,by omega⟩ ?_ ?_
 ·rintro k ds g' ⟨rfl,x,a,b,c,e,j,rfl,hx,hk⟩
  simp only [b0O,a0e,a0g,bs,b7d hd,a0q,c8N]
  refine Wp.dif ?_ ?_
  ·intro h0
   have hj:j<ps.length:=by
    have:(j:Int)<ps.length:=by simpa using h0
    omega
   have hg:ps[j]?=some ps[j]:=c9c hj
   generalize hit:ps[j]=p at hg
   obtain ⟨hy,hpl⟩:=hok p (c9b hg)
   have hw:=wi_ j (by omega)
   have hlen:((evF (ps.take j)).foldl ins l).length≤100000:=by
    rw [a4A]
    have:=a8p (ps.take j) fun q hq=>(hok q (List.mem_of_mem_take hq)).2
    rw [c9h] at this
    omega
   have hts:evF (ps.take (j+1))=evF (ps.take j)++evI p.1:=by
    unfold evF
    rw [c8Z,hg,List.flatMap_append]
    simp [-bind_some]
   refine c3W ps d hd j _ rfl p.1 p.2 (by rw [hg]) hy hpl _ x _ _ hx hlen g' ?_
   intro x2 c2 a2 b2 hx2
   simp only [a0o,a0L,a0j,a0e,a0g,bs,a0k,hw]
   refine .some (.inl ⟨rfl,k - 1,by omega,rfl,x2,_,_,_,_,j+1,rfl,?_,by omega⟩)
   rw [hts,List.foldl_append]
   exact hx2
  ·intro h0
   have h0:ps.length≤j:=by
    have:¬ (j:Int)<ps.length:=by simpa using h0
    omega
   rw [List.take_of_length_le h0] at hx
   exact .some (.inr ⟨by simp,rfl,rfl,x,_,_,_,_,_,rfl,hx⟩)
 ·rintro ⟨ex,ds,g'⟩ ⟨rfl,rfl,x,f,a,b,c,e,rfl,hx⟩
  exact cont x f a b c e hx
def plt (a b:Ev):Prop:=a.a0<b.a0∨a.a0=b.a0∧(a.a1<b.a1∨a.a1=b.a1∧a.a2<b.a2)
theorem a7L (hst fil:Int):∀ (l:List It) (a b:Int),a4e hst fil a l b→(evI l).Pairwise plt∧∀ e∈evI l,e.a0=hst∧e.a1=fil∧a≤e.a2
 | [],_,_,_=>⟨.nil,fun e he=>by simp [-bind_some, evI] at he⟩
 | i::r,a,b,h=>by
  obtain ⟨h1,h2⟩:=a7L hst fil r _ b h.2
  have hf:=h.1.fr
  have h0:=h.1.host
  have h3:=h.1.file
  have hc:=(a4x _ _ _ h.1.ch).1
  have hn:=h.1.n1
  have h2':∀ e∈evI r,e.a0=hst∧e.a1=fil∧a+1≤e.a2:=fun e he=>by
   obtain ⟨k1,k2,k3⟩:=h2 e he
   exact ⟨k1,k2,by omega⟩
  by_cases hr:i.r=[]
  ·have:evI (i::r)=i.e::evI r:=by simp [-bind_some, evI,hr]
   rw [this]
   refine ⟨List.pairwise_cons.2 ⟨fun e he=>?_,h1⟩,fun e he=>?_⟩
   ·obtain ⟨k1,k2,k3⟩:=h2' e he
    exact .inr ⟨by omega,.inr ⟨by omega,by omega⟩⟩
   ·rcases c9i.1 he with rfl | he
    ·exact ⟨h0,h3,by omega⟩
    ·obtain ⟨k1,k2,k3⟩:=h2' e he
     exact ⟨k1,k2,by omega⟩
  ·have:evI (i::r)=evI r:=by simp [-bind_some, evI,hr]
   rw [this]
   exact ⟨h1,fun e he=>by obtain ⟨k1,k2,k3⟩:=h2' e he;exact ⟨k1,k2,by omega⟩⟩
theorem a7y (hst:Int):∀ (ps:List (List It × D)) (f:Int),(∀ (i:Nat) p,ps[i]?=some p→∃ po,a4e hst (f+i) 0 p.1 po)→(evF ps).Pairwise plt∧∀ e∈evF ps,e.a0=hst∧f≤e.a1
 | [],_,_=>⟨.nil,fun e he=>by simp [-bind_some, evF] at he⟩
 | p::ps,f,h=>by
  obtain ⟨po,h0⟩:=h 0 p rfl
  obtain ⟨h1,h2⟩:=a7L hst _ p.1 _ _ h0
  obtain ⟨h3,h4⟩:=a7y hst ps (f+1) fun i q hq=>by
   obtain ⟨po,k⟩:=h (i+1) q (by simpa using hq)
   refine ⟨po,?_⟩
   have:f+((i+1:Nat):Int)=f+1+(i:Int):=by omega
   rw [this] at k
   exact k
  have e:evF (p::ps)=evI p.1++evF ps:=by simp [-bind_some, evF]
  rw [e,List.pairwise_append]
  refine ⟨⟨h1,h3,fun x hx y hy=>?_⟩,fun x hx=>?_⟩
  ·obtain ⟨a1,a2,_⟩:=h2 x hx
   obtain ⟨b1,b2⟩:=h4 y hy
   exact .inr ⟨by omega,.inl (by omega)⟩
  ·rcases c9j.1 hx with hx | hx
   ·obtain ⟨a1,a2,_⟩:=h2 x hx
    exact ⟨a1,by omega⟩
   ·obtain ⟨b1,b2⟩:=h4 x hx
    exact ⟨b1,by omega⟩
theorem b4i (hst:Int) (h1:1≤hst) (h2:hst≤2) (ps:List (List It × D)) (hl:ps.length≤3) (h:∀ (i:Nat) p,ps[i]?=some p→∃ po,a4e hst (5+i) 0 p.1 po):∀ e∈evF ps,a8L e:=fun e he=>by
 obtain ⟨p,hp,he⟩:=List.mem_flatMap.1 he
 obtain ⟨it,hit,rfl⟩:=c9k.1 he
 obtain ⟨hit,hr⟩:=List.mem_filter.1 hit
 have hr:it.r=[]:=by simpa using hr
 obtain ⟨f,hf⟩:=List.getElem?_of_mem hp
 obtain ⟨po,h3⟩:=h f p hf
 obtain ⟨fr,hio⟩:=a7M _ _ _ _ _ h3 it hit
 have hf3:=(c9d.1 hf).1
 have e0:=hio.host
 have e1:=hio.file
 have e2:=hio.fr
 refine ⟨?_,by omega,by omega,by omega,by omega⟩
 have:(⟨[],it.e⟩:It)=it:=by cases it;simp at hr;simp [-bind_some, hr]
 rw [this,e0,e1,e2];exact hio
def PlD (l:List Ev):Prop:=l.Pairwise fun a b=>¬ (a.a0=b.a0∧a.a1=b.a1∧a.a2=b.a2)
theorem c0w {E l:List Ev} (h:E.Pairwise plt) (p:l.Perm E):PlD l :=
 (p.pairwise_iff (R:=fun a b:Ev=>¬ (a.a0=b.a0∧a.a1=b.a1∧a.a2=b.a2)) fun {a b} hh k=>hh ⟨k.1.symm,k.2.1.symm,k.2.2.symm⟩).2 (h.imp fun {a b} hab k=>by unfold plt at hab;omega)
theorem c5P {h:Hp} {o:Nat} (hc:CD h o) (most:Int) (hm0:0≤most) (hm1:most≤100):∃ x h',R c1D [.ptr o 0 0,.int .i64 most] h=some (x,h')∧CD h' o∧Same o h h'∧∃ l:List Ev,SlOf 10 evr l x∧b0g l∧PlD l∧l.length≤600:=by
 suffices Wp (R c1D [.ptr o 0 0,.int .i64 most] h) (fun p=>CD p.2 o∧Same o h p.2∧∃ l:List Ev,SlOf 10 evr l p.1∧b0g l∧PlD l∧l.length≤600) by
  obtain ⟨⟨x,h'⟩,h1,h2⟩:=this
  exact ⟨x,h',h1,h2⟩
 rw [e48]
 simp only [F48,bs,c8N]
 refine Wp.loop (fun k ds g=>∃ x a b c d e f' g',∃ j:Nat,∃ E:List Ev,ds=[x,.int .i64 j,a,b,c,d,e,f',g']∧CD g o∧Same o h g∧SlOf 10 evr (E.foldl ins []) x∧(∀ e∈E,a8L e∧e.a0<j)∧E.Pairwise plt∧E.length+300≤300*j∧k+j=3∧1≤j)
  (fun r=>r.1 = .ext 0∧∃ x a b c d e f' g' h',∃ E:List Ev,r.2.1=[x,a,b,c,d,e,f',g',h']∧CD r.2.2 o∧Same o h r.2.2∧SlOf 10 evr (E.foldl ins []) x∧(∀ e∈E,a8L e)∧E.Pairwise plt∧E.length≤600)
  2 ⟨.nils,.any,.any,.any,.any,.any,.any,.any,1,[],rfl,hc,.refl _ _,SlOf.nils _ _,by simp,.nil,by simp,rfl,by omega⟩ ?_ ?_
 ·rintro k ds g ⟨x,a,b,c,d,e,f',g',j,E,rfl,hc,hs,hx,hE,hP,hlen,hk,hj⟩
  simp only [b5a,a0e,a0g,bs,c8N]
  obtain ⟨v,g1,e1,c1,s1,v0,v1⟩:=a1z hc 2 (by omega) (by omega)
  refine Wp.step e1 ?_
  simp only [a0k,wrap_i64 (n:=1+v) (by omega) (by omega),a0Y,bs]
  refine Wp.dif ?_ ?_
  ·intro h0
   have h0:(j:Int)≤1+v:=by simpa using h0
   obtain ⟨y,g2,e2,c2,s2,ps,hy,hpl,hps⟩:=d71 c1 j most hm0 hm1
   refine Wp.step e2 ?_
   simp only [bs]
   have hok:∀ p∈ps,SlOf 11 itr p.1 p.2∧p.1.length≤100:=by
    intro p hp
    obtain ⟨f,hf⟩:=List.getElem?_of_mem hp
    obtain ⟨h1,h2,po,h3⟩:=hps f p hf
    exact ⟨h1,by omega⟩
   have hfi:∀ (i:Nat) p,ps[i]?=some p→∃ po,a4e j (5+i) 0 p.1 po:=fun i p hp=>(hps i p hp).2.2
   obtain ⟨as1,as2⟩:=a7y j ps 5 hfi
   have hev:=b4i j (by omega) (by omega) ps hpl hfi
   have hfl:=a8p ps fun p hp=>(hok p hp).2
   refine c3V ps y hy hpl hok _ x _ _ _ _ hx (by rw [a4A];simp [-bind_some];omega) g2 ?_
   intro x2 f2 a2 b2 c3 e3 hx2
   have hw:=wi_ j (by omega)
   simp only [a0o,a0L,a0j,a0e,a0g,bs,a0k,hw]
   refine .some (.inl ⟨rfl,k - 1,by omega,x2,_,_,_,_,_,_,_,j+1,E++evF ps,rfl,c2,(hs.trans s1).trans s2,?_,?_,?_,?_,by omega,by omega⟩)
   ·rw [List.foldl_append];exact hx2
   ·intro e he
    rcases c9j.1 he with he | he
    ·exact ⟨(hE e he).1,by have:=(hE e he).2;omega⟩
    ·exact ⟨hev e he,by have:=(as2 e he).1;omega⟩
   ·rw [List.pairwise_append]
    refine ⟨hP,as1,fun a ha b hb => .inl ?_⟩
    have h1:=(hE a ha).2
    have h2:=(as2 b hb).1
    omega
   ·rw [c8S];omega
  ·intro h0
   exact .some (.inr ⟨by simp,rfl,x,_,_,_,_,_,_,_,_,E,rfl,c1,hs.trans s1,hx,fun e he=>(hE e he).1,hP,by omega⟩)
 ·rintro ⟨ex,ds,g⟩ ⟨rfl,x,a,b,c,d,e,f',g',h',E,rfl,hc,hs,hx,hE,hP,hlen⟩
  simp only [a0o,a0j,a0e,bs,a0s]
  have hp:=a5b E []
  rw [List.append_nil] at hp
  exact .some ⟨hc,hs,_,hx,b2c E [] ⟨by simp,by simp⟩ hE,c0w hP hp,by rw [a4A];simpa using hlen⟩
theorem kF0 (p:Kd):a0b tab a0h 0 (.fptr (kdr p))=some (.fptr (kdr p)):=id rfl
theorem kF1 (p:Kd):a0b tab a0h 1 (.fptr (kdr p))=some (.fptr [.str p.v,.int .i64 p.ix]):=id rfl
theorem kF2 (p:Kd):a0b tab a0h 2 (.fptr (kdr p))=some (.fptr [.int .i64 p.ix]):=id rfl
theorem kdT (p:Kd):a0b tab a0C 5 (.fptr (kdr p))=some (.fptr [.int .i64 p.e.a5,.int .i64 p.e.a6,.str p.e.s7,.str p.e.s8,p.e.fd,.str p.v,.int .i64 p.ix]):=id rfl
theorem c3Q (p:Kd) (h:Hp):a0c tab h ty3 (.fptr [.int .i64 p.e.a5,.int .i64 p.e.a6,.str p.e.s7,.str p.e.s8,p.e.fd,.str p.v,.int .i64 p.ix])=some (.int .i64 p.e.a5):=id rfl
theorem kVL (p:Kd) (h:Hp):a0c tab h ty9 (.fptr [.str p.v,.int .i64 p.ix])=some (.str p.v):=id rfl
theorem kIL (p:Kd) (h:Hp):a0c tab h ty3 (.fptr [.int .i64 p.ix])=some (.int .i64 p.ix):=id rfl
theorem kEL (p:Kd) (h:Hp):a0c tab h a0C (.fptr (kdr p))=some (.agg (evr p.e)):=id rfl
theorem kL (p:Kd) (h:Hp):a0c tab h a0h (.fptr (kdr p))=some (.agg (kdr p)):=id rfl
theorem kBx (p:Kd):b0n 12 (.agg (kdr p))=some (.fptr (kdr p)):=a6v 12 _ rfl
def kc (x y:Kd):Int:=orI [b0o x.v y.v,a2h x.e.a5 y.e.a5,a2h x.ix y.ix]
theorem c4p (x y:Kd) (h:Hp):R a4U [.agg (kdr x),.agg (kdr y)] h=some (.int .i64 (kc x y),h):=by
 rw [c2C]
 have hs:SlOf 1 inr [b0o x.v y.v,a2h x.e.a5 y.e.a5,a2h x.ix y.ix] (.sl 1 true [[.int .i64 (b0o x.v y.v)],[.int .i64 (a2h x.e.a5 y.e.a5)],[.int .i64 (a2h x.ix y.ix)]]) := .inr ⟨true,rfl⟩
 have hb:a0J tab a3t 3 [0,1,2] [.int .i64 (b0o x.v y.v),.int .i64 (a2h x.e.a5 y.e.a5),.int .i64 (a2h x.ix y.ix)]=some (.sl 1 true [[.int .i64 (b0o x.v y.v)],[.int .i64 (a2h x.e.a5 y.e.a5)],[.int .i64 (a2h x.ix y.ix)]]):=id rfl
 simp only [b8t,a1l,bs,kF1,kVL,s91,kF0,kdT,c3Q,s90,kF2,kIL,hb,s89 _ _ h hs (by simp),a1j,a0s]
 rfl
theorem c2e:CmpFY (.fn (.func a4U) [] []) kc:=fun x y g=>by rw [a5w];exact c4p x y g
def c0a (x y:Kd):Prop:=Op.bytesLess x.v y.v=true∨x.v=y.v∧(x.e.a5<y.e.a5∨x.e.a5=y.e.a5∧x.ix<y.ix)
def a8j (x y:Kd):Prop:=Op.bytesLess x.v y.v=true∨x.v=y.v∧(x.e.a5<y.e.a5∨x.e.a5=y.e.a5∧x.ix≤y.ix)
theorem b4r (x y:Kd):kc x y<0↔c0a x y:=by
 unfold kc c0a orI orI orI orI
 by_cases h:b0o x.v y.v=0
 ·rw [if_pos h]
  rw [a7q] at h
  have hb:¬ Op.bytesLess x.v y.v=true:=by rw [h,a2R];simp [-bind_some]
  by_cases h2:a2h x.e.a5 y.e.a5=0
  ·rw [if_pos h2]
   rw [a2u] at h2
   have h3:(if a2h x.ix y.ix=0 then 0 else a2h x.ix y.ix)<0↔x.ix<y.ix:=by
    split
    ·rename_i h4;rw [a2u] at h4;omega
    ·rw [a6w]
   rw [h3]
   constructor
   ·intro h4;exact .inr ⟨h,.inr ⟨h2,h4⟩⟩
   ·rintro (h4 | ⟨_,h4 | h4⟩)
    ·exact absurd h4 hb
    ·omega
    ·exact h4.2
  ·rw [if_neg h2,a6w]
   rw [a2u] at h2
   constructor
   ·intro h4;exact .inr ⟨h,.inl h4⟩
   ·rintro (h4 | ⟨_,h4 | h4⟩)
    ·exact absurd h4 hb
    ·exact h4
    ·exact absurd h4.1 h2
 ·rw [if_neg h,b6l]
  rw [a7q] at h
  constructor
  ·intro h4;exact .inl h4
  ·rintro (h4 | ⟨h4,_⟩)
   ·exact h4
   ·exact absurd h4 h
theorem b6V (x y:Kd):¬ kc y x<0↔a8j x y:=by
 rw [b4r]
 unfold c0a a8j
 by_cases h:x.v=y.v
 ·have hb:¬ Op.bytesLess y.v x.v=true:=by rw [h,a2R];simp [-bind_some]
  constructor
  ·intro h2
   refine .inr ⟨h,?_⟩
   have:¬ (y.e.a5<x.e.a5∨y.e.a5=x.e.a5∧y.ix<x.ix):=fun h3=>h2 (.inr ⟨h.symm,h3⟩)
   omega
  ·rintro (h2 | ⟨_,h2⟩) (h3 | ⟨_,h3⟩)
   ·exact hb h3
   ·rw [h,a2R] at h2;cases h2
   ·exact hb h3
   ·omega
 ·constructor
  ·intro h2
   refine .inl ?_
   cases hh:Op.bytesLess x.v y.v with
   | true=>rfl
   | false=>exact absurd (.inl (a9n hh h)) h2
  ·rintro (h2 | ⟨h2,_⟩) (h3 | ⟨h3,_⟩)
   ·have:=b0i h2 h3;rw [a2R] at this;cases this
   ·exact h h3.symm
   ·exact h h2
   ·exact h h2
theorem b6W {x y z:Kd} (h:a8j x y) (k:a8j y z):a8j x z:=by
 unfold a8j at *
 rcases h with h | ⟨h,h2⟩ <;> rcases k with k | ⟨k,k2⟩
 ·exact .inl (b0i h k)
 ·exact .inl (k▸h)
 ·exact .inl (h▸k)
 ·exact .inr ⟨h.trans k,by omega⟩
theorem kcO:CmO kc where
 asm:=fun x y h=>by
  rw [b6V]
  rw [b4r] at h
  unfold c0a at h
  unfold a8j
  rcases h with h | ⟨h,h2⟩
  ·exact .inl h
  ·exact .inr ⟨h,by omega⟩
 tr:=fun x y z h k=>by
  rw [b6V] at *
  exact b6W h k
def kdL (key:Str) (L:List Ev):List Kd:=L.zipIdx.filterMap fun p=>if (a3W p.1 key).2=true then some ⟨p.1,(a3W p.1 key).1,(p.2:Int)⟩ else none
theorem b4s (key:Str) (L:List Ev) (e:Ev):kdL key (L++[e])=kdL key L++if (a3W e key).2=true then [⟨e,(a3W e key).1,(L.length:Int)⟩] else []:=by
 unfold kdL
 rw [List.zipIdx_append,List.filterMap_append]
 congr 1
 by_cases h:(a3W e key).2=true <;> simp [-bind_some, h]
theorem a6L (key:Str) (L:List Ev):(kdL key L).length≤L.length:=by
 have:=List.length_filterMap_le (fun p:Ev × Nat=>if (a3W p.1 key).2=true then some (⟨p.1,(a3W p.1 key).1,(p.2:Int)⟩:Kd) else none) L.zipIdx
 rw [List.length_zipIdx] at this
 exact this
theorem a5e {key:Str} {L:List Ev} {p:Kd} (h:p∈kdL key L):∃ i:Nat,p.ix=i∧L[i]?=some p.e∧a3W p.e key=(p.v,true):=by
 unfold kdL at h
 obtain ⟨⟨e,i⟩,h1,h2⟩:=List.mem_filterMap.1 h
 split at h2
 ·rename_i hv
  injection h2 with h2
  subst h2
  have:=List.mem_zipIdx_iff_getElem?.1 h1
  exact ⟨i,rfl,this,Prod.ext rfl hv⟩
 ·cases h2
theorem a8v (key:Str) (L:List Ev):(kdL key L).Pairwise fun x y=>x.ix<y.ix:=by
 unfold kdL
 rw [List.pairwise_filterMap,List.pairwise_iff_getElem]
 intro i j hi hj hij x hx y hy
 simp only [List.getElem_zipIdx] at hx hy
 split at hx
 ·split at hy
  ·injection hx with hx
   injection hy with hy
   subst hx hy
   show ((0+i:Nat):Int)<((0+j:Nat):Int)
   omega
  ·cases hy
 ·cases hx
def JE (e:Ev):Prop:=0≤e.a0∧e.a0≤9∧0≤e.a5∧e.a5≤253402300799999
def Keep (h g:Hp):Prop:=h.length≤g.length∧∀ q,q<h.length→g[q]?=h[q]?
theorem Keep.refl (h:Hp):Keep h h:=⟨Nat.le_refl _,fun _ _=>rfl⟩
theorem Keep.trans {h g k:Hp} (a:Keep h g) (b:Keep g k):Keep h k:=⟨Nat.le_trans a.1 b.1,fun q hq=>(b.2 q (Nat.lt_of_lt_of_le hq a.1)).trans (a.2 q hq)⟩
def RdE (h:Hp) (l:List Ev) (d:D):Prop:=SlOf 10 evr l d∨∃ ob,d = .msl 10 ob 0 l.length∧h[ob]?=some (.row a0C 10 (l.map evr))
theorem RdE.of {h:Hp} {l:List Ev} {d:D} (hd:SlOf 10 evr l d):RdE h l d := .inl hd
theorem RdE.own {h:Hp} {n0:Nat} {l:List Ev} {d:D} (hd:Own h n0 a0C 10 (l.map evr) d):RdE h l d:=by
 rcases hd with ⟨rfl,hl⟩ | ⟨o,_,rfl,ho⟩
 ·exact .inl (.inl ⟨rfl,by simpa using hl⟩)
 ·exact .inr ⟨o,by rw [c8T],ho⟩
theorem RdE.keep {h g:Hp} {l:List Ev} {d:D} (hd:RdE h l d) (k:Keep h g):RdE g l d:=by
 rcases hd with hd | ⟨ob,rfl,ho⟩
 ·exact .inl hd
 ·exact .inr ⟨ob,rfl,by rw [k.2 ob (c9d.1 ho).1];exact ho⟩
theorem b7t {h:Hp} {l:List Ev} {d:D} (hd:RdE h l d):a0B tab a2o d=some (.int .i64 l.length):=by
 rcases hd with hd | ⟨ob,rfl,_⟩
 ·exact a9Q hd
 ·exact c0h _ _ _ _
theorem b2O {h:Hp} {l:List Ev} {d:D} (hd:RdE h l d) (i:Nat) (e:Ev) (he:l[i]?=some e):∃ q,a0a tab a2o d (.int .i64 (i:Int))=some q∧∀ g,Keep h g→a0c tab g a0C q=some (.agg (evr e)):=by
 have hi:=(c9d.1 he).1
 rcases hd with hd | ⟨ob,rfl,ho⟩
 ·exact ⟨.fptr (evr e),by rw [b0A hd];simp [-bind_some, he],fun g _=>id rfl⟩
 ·have hr:(l.map evr)[i]?=some (evr e):=by rw [c9a,he];rfl
  have hh:(0:Int)≤(i:Int)∧(i:Int)<(l.length:Int):=by omega
  refine ⟨.ptr ob i 0,by rw [c3P];simp [-bind_some, hh],fun g k=>?_⟩
  have ho':g[ob]?=some (.row a0C 10 (l.map evr)):=by rw [k.2 ob (c9d.1 ho).1];exact ho
  rw [b2m,a1A ho',hr];rfl
theorem c1u (L:List Ev) (dL:D) (key:Str) (h:Hp) (hd:RdE h L dL) (hl:L.length≤1000) (he:∀ e∈L,JE e) (hk:b3t key):∃ (d:D) (C:List Kd),R1 a7C [dL,.str key] h=some (d,h)∧SlOf 12 kdr C d∧C.Perm (kdL key L)∧C.Pairwise a8j:=by
 suffices Wp (R1 a7C [dL,.str key] h) (fun p=>p.2=h∧∃ C:List Kd,SlOf 12 kdr C p.1∧C.Perm (kdL key L)∧C.Pairwise a8j) by
  obtain ⟨⟨x,h'⟩,h1,rfl,C,h2⟩:=this
  exact ⟨x,C,h1,h2⟩
 have hB:∀ (e:Ev) (v:Str) (i:Int),a0N tab a0h [0,1,2] [.agg (evr e),.str v,.int .i64 i]=some (.agg (kdr ⟨e,v,i⟩)):=fun e v i=>id rfl
 have hS:∀ p:Kd,a0J tab a0u 1 [0] [.agg (kdr p)]=some (.sl 12 true [kdr p]):=fun p=>id rfl
 rw [c2A]
 simp only [b8r,bs,b7t hd,c8N]
 refine Wp.loop (fun k ds g=>∃ x a b c d e f,∃ i:Nat,ds=[x,a,b,c,d,.int .i64 (i:Int),e,f]∧k+i=L.length∧Own g h.length a0h 12 ((kdL key (L.take i)).map kdr) x∧h.length≤g.length∧(∀ q,q<h.length→g[q]?=h[q]?))
  (fun r=>r.1 = .ext 0∧∃ x,nth 0 r.2.1=x∧Own r.2.2 h.length a0h 12 ((kdL key L).map kdr) x∧h.length≤r.2.2.length∧(∀ q,q<h.length→r.2.2[q]?=h[q]?)) L.length
  ⟨_,_,_,_,_,_,_,0,rfl,rfl,Own.nils _ _ _ _,Nat.le_refl _,fun _ _=>rfl⟩ ?_ ?_
 ·rintro k ds g ⟨x,a,b,c,d,e,f,i,rfl,hk',ow,hlen,hq⟩
  simp only [a8P,a0e,a0g,bs,c8N,a0q]
  refine Wp.dif ?_ ?_
  ·intro h0
   have h0:i<L.length:=by
    have:(i:Int)<(L.length:Int):=by simpa using h0
    omega
   have hw:=wi_ i (by omega)
   obtain ⟨u,hu⟩:=gx_ h0
   have hje:=he u (c9b hu)
   have hts:kdL key (L.take (i+1))=kdL key (L.take i)++if (a3W u key).2=true then [⟨u,(a3W u key).1,(i:Int)⟩] else []:=by
    rw [c8Z,hu]
    show kdL key (L.take i++[u])=_
    rw [b4s,c9h,Nat.min_eq_left (by omega)]
   obtain ⟨qa,qe,ql⟩:=b2O hd i u hu
   simp only [qe,bs,ql g ⟨hlen,hq⟩,c8N]
   refine b4Z (kk:=0) (off:=0) (v := .agg (evr u)) (a2j _ _ _ _) (by rfl) (by rfl) (by exact Nat.le_refl _) (b1v u) fun g2 p2 s2=>?_
   have p2:g2[g.length]?=some (.row a0C 10 [evr u]):=p2
   have lu:a0c tab g2 a0C (.ptr g.length 0 0)=some (.agg (evr u)):=by rw [b2m,a1A p2];rfl
   have old:∀ q,q<g.length→g2[q]?=g[q]?:=fun q hq'=>by rw [s2.2 q (by omega)];exact a1T g _ _ _ hq'
   have len2:g.length≤g2.length:=by have:=s2.1;simp [-bind_some, a1h] at this;omega
   have ow2:Own g2 h.length a0h 12 ((kdL key (L.take i)).map kdr) x:=ow.keep fun q _ hq'=>old q (ow.lt hq').2
   have hq2:∀ q,q<h.length→g2[q]?=h[q]?:=fun q hq'=>by rw [old q (by omega)];exact hq q hq'
   simp only [bs,lu,c5j u key g2 hje.1 hje.2.1 hk,a0H,c8Q,c8R,c8N]
   refine Wp.join (P:=fun r=>∃ x',r.1 = .nrm∧r.2.1=[x']∧Own r.2.2 h.length a0h 12 ((kdL key (L.take (i+1))).map kdr) x'∧h.length≤r.2.2.length∧(∀ q,q<h.length→r.2.2[q]?=h[q]?)) ?_ ?_ ?_
   ·intro hv
    rw [hv,if_pos rfl] at hts
    simp only [hB,hS,bs]
    have:=a6L key (L.take i)
    rw [c9h] at this
    refine b7K (n0:=h.length) (by omega) ow2 (a0O _ _ _ _) (by simp;omega) fun x9 g3 o3 l3 b3 _ _=>?_
    refine .some ⟨x9,rfl,rfl,?_,by show h.length≤g3.length;omega,fun q hq'=>by show g3[q]?=_;rw [b3 q hq'];exact hq2 q hq'⟩
    rw [hts,c8U]
    exact o3
   ·intro hv
    rw [hv] at hts
    simp only [c8O,if_false,List.append_nil] at hts
    rw [hts]
    exact .some ⟨x,rfl,rfl,ow2,by show h.length≤g2.length;omega,hq2⟩
   ·rintro ⟨ex,ds1,g3⟩ ⟨x',rfl,rfl,o3,l3,q3⟩
    simp only [a0j,a0L,a0e,bs,a0k,hw]
    exact .some (.inl ⟨rfl,k - 1,by omega,x',_,_,_,_,_,_,i+1,rfl,by omega,o3,l3,q3⟩)
  ·intro h0
   have h0:L.length≤i:=by
    have:¬ (i:Int)<(L.length:Int):=by simpa using h0
    omega
   rw [List.take_of_length_le h0] at ow
   exact .some (.inr ⟨by simp,rfl,x,rfl,ow,hlen,hq⟩)
 ·rintro ⟨ex,ds,g⟩ ⟨rfl,x,hx,ow,hlen,hq⟩
  simp only at hx ow hlen hq
  simp only [a0o,a0j,bs,a0e,hx,b7q]
  have nd:Nd kc (kdL key L):=(a8v key L).imp fun {a b} hab=>by
   rw [b4r,b4r]
   unfold c0a
   by_cases h1:a.v=b.v
   ·rcases Int.lt_trichotomy a.e.a5 b.e.a5 with h2 | h2 | h2
    ·exact .inl (.inr ⟨h1,.inl h2⟩)
    ·exact .inl (.inr ⟨h1,.inr ⟨h2,hab⟩⟩)
    ·exact .inr (.inr ⟨h1.symm,.inl h2⟩)
   ·cases hh:Op.bytesLess a.v b.v with
    | true=>exact .inl (.inl rfl)
    | false=>exact .inr (.inl (a9n hh h1))
  have hkl:=a6L key L
  rcases ow with ⟨rfl,hr⟩ | ⟨o,hno,rfl,ho⟩
  ·have hr:kdL key L=[]:=by simpa using hr
   obtain ⟨y,ey⟩:=c0H .nils (.fn (.func a4U) [] []) g (.nils _ _)
   rw [ey]
   simp only [bs,a0s]
   have hsc:scope h g .nils=some (.nils,h):=a1m (by simp) .nils hlen hq
   rw [hsc]
   exact .some ⟨rfl,[],.nils _ _,by rw [hr],.nil⟩
  ·rw [c8T]
   refine Wp.bind (c4O kcO c2e (N:=(kdL key L).length) (by omega) rfl ho nd) ?_
   rintro ⟨y,g'⟩ ⟨C,c1,c2,c3,c4⟩
   simp only at c3 c4
   have ow':Own g' h.length a0h 12 (C.map kdr) (.msl 12 o 0 (kdL key L).length) := .inr ⟨o,hno,by rw [c8T,c1.length_eq],c3⟩
   have hs:=a2D (n0:=h.length) (n:=3) ow' (Nat.le_refl _) fun s _ d hd=>by
    rcases c9j.1 hd with hd | hd
    ·exact a4d _ _ _ s.e d hd
    ·simp only [c9i,List.not_mem_nil,or_false] at hd
     rcases hd with rfl | rfl
     ·exact a6H _ _ _ _
     ·exact a4Y _ _ _ _ _
   simp only [a0s]
   have hsc:scope h g' (.msl 12 o 0 (kdL key L).length)=some (frz h.length g' 4 (.msl 12 o 0 (kdL key L).length),h):=a1m rfl (a1C hs fun s _=>b2h _ s) (by have:=c4.1;omega) fun q hq'=>by rw [c4.2 q (by omega)];exact hq q hq'
   rw [hsc]
   exact .some ⟨rfl,C,hs,c1,c2.imp fun {a b} hab=>(b6V a b).1 hab⟩
def a1F (w:Int) (x y:Kd):Bool:=Op.bytesLess y.v x.v||(decide (y.v=x.v)&&decide (w<x.e.a5 - y.e.a5))
def a1R (w:Int) (x y:Kd):Bool := !decide (y.v=x.v)||decide (w<y.e.a5 - x.e.a5)
def lsK (x y:Kd):Bool:=a2A x.e y.e||a2A y.e x.e
theorem earlyK_iff {w:Int} {x y:Kd}:a1F w x y=true↔(Op.bytesLess y.v x.v=true∨y.v=x.v∧w<x.e.a5 - y.e.a5):=by simp [-bind_some, a1F]
theorem a3R {w:Int} {x y:Kd}:a1R w x y=true↔(y.v≠x.v∨w<y.e.a5 - x.e.a5):=by simp [-bind_some, a1R]
theorem b0v {w:Int} {x x' y:Kd} (h:a8j x x') (k:a1F w x y=true):a1F w x' y=true:=by
 rw [earlyK_iff] at *
 unfold a8j at h
 rcases k with k | ⟨k,k2⟩ <;> rcases h with h | ⟨h,h2⟩
 ·exact .inl (b0i k h)
 ·exact .inl (h▸k)
 ·exact .inl (k▸h)
 ·exact .inr ⟨k.trans h,by omega⟩
theorem b7w {w:Int} (x:Kd) {B:List Kd} (h:B.Pairwise a8j):B.Pairwise fun y z=>(a1F w x z=true→a1F w x y=true)∧(a1F w x y=false→a1R w x y=true→a1R w x z=true) :=
 h.imp fun {y z} hyz=>by
  unfold a8j at hyz
  refine ⟨fun hz=>?_,fun h1 h2=>?_⟩
  ·rw [earlyK_iff] at *
   rcases hz with k | ⟨k,k2⟩ <;> rcases hyz with h | ⟨h,h2⟩
   ·exact .inl (b0i h k)
   ·exact .inl (h▸k)
   ·exact .inl (k▸h)
   ·exact .inr ⟨h.trans k,by omega⟩
  ·have h1:¬ (Op.bytesLess y.v x.v=true∨y.v=x.v∧w<x.e.a5 - y.e.a5):=by rw [← earlyK_iff,h1];simp [-bind_some]
   rw [a3R] at *
   by_cases e:y.v=x.v
   ·have h2:w<y.e.a5 - x.e.a5:=by
      rcases h2 with h2 | h2
      ·exact absurd e h2
      ·exact h2
    rcases hyz with h | ⟨h,h3⟩
    ·refine .inl fun hh=>?_
     rw [e,hh,a2R] at h;cases h
    ·exact .inr (by omega)
   ·have hb:Op.bytesLess x.v y.v=true:=by
      cases hh:Op.bytesLess x.v y.v with
      | true=>rfl
      | false =>
       exact absurd (.inl (a9n hh fun h=>e h.symm)) h1
    refine .inl fun hh=>?_
    rcases hyz with h | ⟨h,h3⟩
    ·have:=b0i hb h
     rw [hh,a2R] at this;cases this
    ·exact e (h.trans hh)
def a3f (x:Kd) (l:List Kd):List Pr:=(l.filter (lsK x)).map fun y=>⟨x.ix,y.ix⟩
theorem a9Z (x:Kd) (a b:List Kd):a3f x (a++b)=a3f x a++a3f x b:=by simp [-bind_some, a3f]
theorem b3m {β:Type} {p:β→Bool} {M:List β} {i:Nat} (h:∀ y∈M.take i,p y=true):M.takeWhile p=M.take i++(M.drop i).takeWhile p:=by
 have h2:=List.takeWhile_append_of_pos (l₂:=M.drop i) h
 rw [List.take_append_drop] at h2
 exact h2
theorem c0b {w:Int} {B:List Kd} {dB:D} (hB:SlOf 12 kdr B dB) (hBl:B.length≤1000) (ht:∀ y∈B,0≤y.e.a5∧y.e.a5≤253402300799999) (x:Kd) (hx:0≤x.e.a5∧x.e.a5≤253402300799999) (f:Nat) (hf:f≤B.length) (he:∀ j y,j<f→B[j]?=some y→a1F w x y=true) (a:D) (g:Hp)
  {β:Type} {K:Out→Option β} {Q:β→Prop} (k:∀ (f':Nat) (a':D),f'≤B.length→(∀ j y,j<f'→B[j]?=some y→a1F w x y=true)→(∀ y,B[f']?=some y→a1F w x y=false)→Wp (K (.ext 2,[.int .i64 (f':Int),a'],g)) Q) :
  Wp ((a0z (a5X (.int .i64 w) dB (.fptr (kdr x))) [.int .i64 (f:Int),a] g).bind K) Q:=by
 refine Wp.loop (fun n ds g'=>g'=g∧∃ (f:Nat) (a:D),ds=[.int .i64 (f:Int),a]∧n+f=B.length∧∀ j y,j<f→B[j]?=some y→a1F w x y=true)
  (fun r=>r.1 = .ext 2∧r.2.2=g∧∃ (f':Nat) (a':D),r.2.1=[.int .i64 (f':Int),a']∧f'≤B.length∧(∀ j y,j<f'→B[j]?=some y→a1F w x y=true)∧(∀ y,B[f']?=some y→a1F w x y=false)) (B.length - f)
  ⟨rfl,f,a,rfl,by omega,he⟩ ?_ ?_
 ·rintro n ds g' ⟨rfl,f,a,rfl,hn,he⟩
  simp only [a5X,a0e,a0g,bs,c8N,a4B hB,a0q]
  by_cases hlt:f<B.length
  ·obtain ⟨u,hu⟩:=gx_ hlt
   have htu:=ht u (c9b hu)
   have d0:decide ((f:Int)<(B.length:Int))=true:=decide_eq_true (by omega)
   have hw:=wi_ f (by omega)
   have hs:IntKind.wrap .i64 (x.e.a5 - u.e.a5)=x.e.a5 - u.e.a5:=wrap_i64 (by omega) (by omega)
   have more:a1F w x u=true→∀ j y,j<f+1→B[j]?=some y→a1F w x y=true:=fun hh j y hj hy=>by
    rcases Nat.lt_or_ge j f with h1 | h1
    ·exact he j y h1 hy
    ·have:j=f:=by omega
     subst this
     rw [hu] at hy
     injection hy with hy
     subst hy
     exact hh
   simp only [d0,a0x,if_true,bs,a5d hB,Int.natCast_nonneg,c8W,hu,Option.map_some,kF1,kVL,a2S,c8N]
   cases hb:Op.bytesLess u.v x.v with
   | true =>
    simp only [a0x,a1a,reduceCtorEq,c8P,if_false,if_true,bs,a0n,a0d,a0k,hw]
    exact .some (.inl ⟨rfl,n - 1,by omega,rfl,f+1,_,rfl,by omega,more (earlyK_iff.2 (.inl hb))⟩)
   | false =>
    have seq:(u.v==x.v)=decide (u.v=x.v):=by by_cases e:u.v=x.v <;> simp [-bind_some, e]
    simp only [a0x,if_true,bs,a5d hB,Int.natCast_nonneg,c8W,hu,Option.map_some,kF1,kVL,a1L,seq,c8N]
    by_cases e:u.v=x.v
    ·have de:decide (u.v=x.v)=true:=decide_eq_true e
     simp only [de,a0x,if_true,bs,a5d hB,Int.natCast_nonneg,c8W,hu,Option.map_some,kF0,kdT,c3Q,a0t,hs,a1e,a0n,c8O,if_false,c8N]
     by_cases h5:w<x.e.a5 - u.e.a5
     ·simp only [h5,decide_true,a0d,if_true,a0k,hw,bs]
      exact .some (.inl ⟨rfl,n - 1,by omega,rfl,f+1,_,rfl,by omega,more (earlyK_iff.2 (.inr ⟨e,h5⟩))⟩)
     ·simp only [h5,decide_false,a0d,c8O,if_false,bs]
      refine .some (.inr ⟨by simp,rfl,rfl,f,_,rfl,by omega,he,fun y hy=>?_⟩)
      rw [hu] at hy
      injection hy with hy
      subst hy
      cases hh:a1F w x u with
      | false=>rfl
      | true =>
       rw [earlyK_iff,hb] at hh
       rcases hh with hh | hh
       ·cases hh
       ·exact absurd hh.2 h5
    ·have de:decide (u.v=x.v)=false:=decide_eq_false e
     simp only [de,a0x,a1a,reduceCtorEq,c8O,if_false,bs,a0n,a0d,c8N,if_true]
     refine .some (.inr ⟨by simp,rfl,rfl,f,_,rfl,by omega,he,fun y hy=>?_⟩)
     rw [hu] at hy
     injection hy with hy
     subst hy
     cases hh:a1F w x u with
     | false=>rfl
     | true =>
      rw [earlyK_iff,hb] at hh
      rcases hh with hh | hh
      ·cases hh
      ·exact absurd hh.1 e
  ·have d0:decide ((f:Int)<(B.length:Int))=false:=decide_eq_false (by omega)
   simp only [d0,a0x,a1a,reduceCtorEq,c8O,if_false,bs,a0n,a0d,c8N]
   refine .some (.inr ⟨by simp,rfl,rfl,f,_,rfl,by omega,he,fun y hy=>?_⟩)
   rw [List.getElem?_eq_none (by omega)] at hy
   cases hy
 ·rintro ⟨ex,ds,g'⟩ ⟨rfl,rfl,f',a',rfl,h1,h2,h3⟩
  exact k f' a' h1 h2 h3
theorem c0c {w:Int} {M:List Kd} {dM:D} (hM:SlOf 12 kdr M dM) (hMl:M.length≤1000) (ht:∀ y∈M,0≤y.e.a5∧y.e.a5≤253402300799999) (x:Kd) (hx:0≤x.e.a5∧x.e.a5≤253402300799999) (h0:Hp) (F:List Pr) (dF:D) (hF:F.length≤2000)
  (r0 r1 a b c d e:D) (g:Hp) (ow:Own g h0.length a0i 2 (F.map prr) dF) (kp:Keep h0 g) {β:Type} {K:Out→Option β} {Q:β→Prop}
  (k1:∀ dF' j3 j4 j5 j6 j7 j8 g',Own g' h0.length a0i 2 ((F++a3f x (M.takeWhile fun y=>not (a1R w x y))).map prr) dF'→(F++a3f x (M.takeWhile fun y=>not (a1R w x y))).length≤2000→Keep h0 g'→Wp (K (.ext 4,[r0,r1,dF',j3,j4,j5,j6,j7,j8],g')) Q)
  (k2:∀ j2 j3 j4 j5 j6 j7 j8 g',2000<(F++a3f x (M.takeWhile fun y=>not (a1R w x y))).length→Keep h0 g'→Wp (K (.ret,[.nils,.int .i64 4,j2,j3,j4,j5,j6,j7,j8],g')) Q) :
  Wp ((a0z (a5Y (.int .i64 w) (.fptr (kdr x)) dM (.int .i64 (M.length:Int))) [r0,r1,dF,a,.int .i64 0,b,c,d,e] g).bind K) Q:=by
 refine Wp.loop (fun n ds g'=>∃ (i:Nat) (dF a b c d e:D),ds=[r0,r1,dF,a,.int .i64 (i:Int),b,c,d,e]∧n+i=M.length∧(∀ y∈M.take i,a1R w x y=false)∧Own g' h0.length a0i 2 ((F++a3f x (M.take i)).map prr) dF∧(F++a3f x (M.take i)).length≤2000∧Keep h0 g')
  (fun r=>(r.1 = .ext 4∧∃ dF' j3 j4 j5 j6 j7 j8,r.2.1=[r0,r1,dF',j3,j4,j5,j6,j7,j8]∧Own r.2.2 h0.length a0i 2 ((F++a3f x (M.takeWhile fun y=>not (a1R w x y))).map prr) dF'∧(F++a3f x (M.takeWhile fun y=>not (a1R w x y))).length≤2000∧Keep h0 r.2.2)
   ∨ (r.1 = .ret∧∃ j2 j3 j4 j5 j6 j7 j8,r.2.1=[.nils,.int .i64 4,j2,j3,j4,j5,j6,j7,j8]∧2000<(F++a3f x (M.takeWhile fun y=>not (a1R w x y))).length∧Keep h0 r.2.2)) M.length
  ⟨0,dF,a,b,c,d,e,rfl,by omega,by simp,by simpa [-bind_some, a3f] using ow,by simpa [-bind_some, a3f] using hF,kp⟩ ?_ ?_
 ·rintro n ds g' ⟨i,dF,a,b,c,d,e,rfl,hn,hlate,ow,hF',kp⟩
  have pre:∀ y∈M.take i,(not (a1R w x y))=true:=fun y hy=>by rw [hlate y hy];rfl
  simp only [a5Y,a0e,a0g,bs,c8N,a0q]
  by_cases hlt:i<M.length
  ·obtain ⟨u,hu⟩:=gx_ hlt
   have htu:=ht u (c9b hu)
   have d0:decide ((i:Int)<(M.length:Int))=true:=decide_eq_true (by omega)
   have hw:=wi_ i (by omega)
   have hs:IntKind.wrap .i64 (u.e.a5 - x.e.a5)=u.e.a5 - x.e.a5:=wrap_i64 (by omega) (by omega)
   have seq:(u.v==x.v)=decide (u.v=x.v):=by by_cases e:u.v=x.v <;> simp [-bind_some, e]
   have tk:M.take (i+1)=M.take i++[u]:=by rw [c8Z,hu];rfl
   have stop:a1R w x u=true→(M.takeWhile fun y=>not (a1R w x y))=M.take i:=fun hl=>by
    rw [b3m pre,List.drop_eq_getElem_cons hlt]
    have:M[i]=u:=by rw [c9c hlt] at hu;injection hu
    rw [this,List.takeWhile_cons,hl]
    simp [-bind_some]
   have cont:a1R w x u=false→∃ t,(M.takeWhile fun y=>not (a1R w x y))=M.take (i+1)++t:=fun hl=>by
    refine ⟨_,b3m fun y hy=>?_⟩
    rw [tk] at hy
    rcases c9j.1 hy with hy | hy
    ·exact pre y hy
    ·simp at hy;subst hy;rw [hl];rfl
   have hlate':a1R w x u=false→∀ y∈M.take (i+1),a1R w x y=false:=fun hl y hy=>by
    rw [tk] at hy
    rcases c9j.1 hy with hy | hy
    ·exact hlate y hy
    ·simp at hy;subst hy;exact hl
   simp only [d0,a0d,if_true,bs,a5d hM,Int.natCast_nonneg,c8W,hu,Option.map_some,kL,kBx,kF1,kVL,b1g,seq,c8N]
   by_cases e:u.v=x.v
   ·have de:decide (u.v=x.v)=true:=decide_eq_true e
    simp only [de,c8X,a0x,if_true,bs,kF0,kdT,c3Q,a0t,hs,a1e,a0n,c8O,if_false,c8N]
    by_cases h5:w<u.e.a5 - x.e.a5
    ·have hl:a1R w x u=true:=by rw [a3R];exact .inr h5
     simp only [h5,decide_true,a0d,if_true,bs]
     refine .some (.inr ⟨by simp,.inl ⟨rfl,_,_,_,_,_,_,_,rfl,?_,?_,kp⟩⟩)
     ·rw [stop hl];exact ow
     ·rw [stop hl];exact hF'
    ·have hl:a1R w x u=false:=by
       cases hh:a1R w x u with
       | false=>rfl
       | true =>
        rw [a3R] at hh
        rcases hh with hh | hh
        ·exact absurd e hh
        ·exact absurd hh h5
     have hP:a0N tab a0i [0,1] [.int .i64 x.ix,.int .i64 u.ix]=some (.agg (prr ⟨x.ix,u.ix⟩)):=id rfl
     have hS:a0J tab a0v 1 [0] [.agg (prr ⟨x.ix,u.ix⟩)]=some (.sl 2 true [prr ⟨x.ix,u.ix⟩]):=id rfl
     simp only [h5,decide_false,a0d,c8O,if_false,bs,kEL,b2N,c0D,c8N]
     have fin:∀ (r:Out),(r.1 = .nrm∧∃ dF' j,r.2.1=[r0,r1,dF',j]∧Own r.2.2 h0.length a0i 2 ((F++a3f x (M.take (i+1))).map prr) dF'∧(F++a3f x (M.take (i+1))).length≤2000∧Keep h0 r.2.2)∨(r.1 = .ret∧∃ j2 j3,r.2.1=[.nils,.int .i64 4,j2,j3]∧2000<(F++a3f x (M.take (i+1))).length∧Keep h0 r.2.2) →
       ∀ (t78 t96 t108 t17:D),Wp (a0y (a0w 5 r.1) ((a0f tab .add ty3 (.int .i64 (i:Int)) (.int .i64 1)).bind fun t120=>some ((Ex.nrm,[nth 0 r.2.1,nth 1 r.2.1,nth 2 r.2.1,t17,t120,t78,t96,t108,nth 3 r.2.1],r.2.2):Out)) fun x_1=>some (x_1,[nth 0 r.2.1,nth 1 r.2.1,nth 2 r.2.1,t17,.int .i64 (i:Int),t78,t96,t108,nth 3 r.2.1],r.2.2))
        fun r=>(r.1 = .nrm∧∃ k',k'<n∧∃ (i:Nat) (dF a b c d e:D),r.2.1=[r0,r1,dF,a,.int .i64 (i:Int),b,c,d,e]∧k'+i=M.length∧(∀ y∈M.take i,a1R w x y=false)∧Own r.2.2 h0.length a0i 2 ((F++a3f x (M.take i)).map prr) dF∧(F++a3f x (M.take i)).length≤2000∧Keep h0 r.2.2)∨(r.1 ≠ .nrm∧((r.1 = .ext 4∧∃ dF' j3 j4 j5 j6 j7 j8,r.2.1=[r0,r1,dF',j3,j4,j5,j6,j7,j8]∧Own r.2.2 h0.length a0i 2 ((F++a3f x (M.takeWhile fun y=>not (a1R w x y))).map prr) dF'∧(F++a3f x (M.takeWhile fun y=>not (a1R w x y))).length≤2000∧Keep h0 r.2.2)
   ∨ (r.1 = .ret∧∃ j2 j3 j4 j5 j6 j7 j8,r.2.1=[.nils,.int .i64 4,j2,j3,j4,j5,j6,j7,j8]∧2000<(F++a3f x (M.takeWhile fun y=>not (a1R w x y))).length∧Keep h0 r.2.2))):=by
         rintro ⟨ex,ds1,g2⟩ (⟨rfl,dF',j,hds,o3,l3,kp3⟩ | ⟨rfl,j2,j3,hds,l3,kp3⟩) t78 t96 t108 t17
         ·simp only at hds o3 kp3
          subst hds
          simp only [a0L,a0j,a0e,a0g,a0k,hw,bs]
          exact .some (.inl ⟨rfl,n - 1,by omega,i+1,_,_,_,_,_,_,rfl,by omega,hlate' hl,o3,l3,kp3⟩)
         ·simp only at hds kp3
          subst hds
          simp only [a0U,a1n,a0e,a0g,bs]
          refine .some (.inr ⟨by simp,.inr ⟨rfl,_,_,_,_,_,_,_,rfl,?_,kp3⟩⟩)
          obtain ⟨t,ht'⟩:=cont hl
          rw [ht',a9Z,← List.append_assoc,c8S]
          omega
     have sel:a3f x (M.take (i+1))=a3f x (M.take i)++if lsK x u=true then [⟨x.ix,u.ix⟩] else []:=by
      rw [tk,a9Z]
      congr 1
      unfold a3f
      by_cases hls:lsK x u=true <;> simp [-bind_some, hls]
     cases hab:a2A x.e u.e
     all_goals
      simp only [a0x,a0F,a1a,b6J,reduceCtorEq,c8O,c8P,if_false,if_true,bs,kF0,kEL,c0D,b2N,a0n,c8N]
      refine Wp.join (P:=fun r=>(r.1 = .nrm∧∃ dF' j,r.2.1=[r0,r1,dF',j]∧Own r.2.2 h0.length a0i 2 ((F++a3f x (M.take (i+1))).map prr) dF'∧(F++a3f x (M.take (i+1))).length≤2000∧Keep h0 r.2.2)∨(r.1 = .ret∧∃ j2 j3,r.2.1=[.nils,.int .i64 4,j2,j3]∧2000<(F++a3f x (M.take (i+1))).length∧Keep h0 r.2.2)) ?_ ?_ ?_
      ·intro hls
       have hls:lsK x u=true:=by unfold lsK;rw [hab];exact hls
       rw [if_pos hls] at sel
       simp only [kF2,kIL,bs,hP,hS]
       have hF2:=hF'
       rw [c8S] at hF2
       refine b7L (n0:=h0.length) kp.1 ow (a0O _ _ _ _) (by rw [c8T];simp [-bind_some];omega) fun x9 g3 o3 l3 b3 _ _=>?_
       have o3:Own g3 h0.length a0i 2 ((F++a3f x (M.take (i+1))).map prr) x9:=by rw [sel,← List.append_assoc,c8U];exact o3
       have kp3:Keep h0 g3:=⟨by have:=kp.1;omega,fun q hq=>by rw [b3 q hq];exact kp.2 q hq⟩
       simp only [b4y o3,bs,a1e,c8T]
       refine Wp.dif ?_ ?_
       ·intro hg
        have hg:2000<(F++a3f x (M.take (i+1))).length:=by
         have:(2000:Int)<((F++a3f x (M.take (i+1))).length:Int):=by simpa using hg
         omega
        exact .some (.inr ⟨rfl,_,_,rfl,hg,kp3⟩)
       ·intro hg
        have hg:(F++a3f x (M.take (i+1))).length≤2000:=by
         have:¬ (2000:Int)<((F++a3f x (M.take (i+1))).length:Int):=by simpa using hg
         omega
        exact .some (.inl ⟨rfl,_,_,rfl,o3,hg,kp3⟩)
      ·intro hls
       have hls:lsK x u=false:=by unfold lsK;rw [hab];exact hls
       rw [if_neg (by rw [hls];simp [-bind_some]),List.append_nil] at sel
       refine .some (.inl ⟨rfl,_,_,rfl,?_,?_,kp⟩)
       ·rw [sel];exact ow
       ·rw [sel];exact hF'
      ·intro r hr
       exact fin r hr _ _ _ _
   ·have hl:a1R w x u=true:=by rw [a3R];exact .inl e
    have de:decide (u.v=x.v)=false:=decide_eq_false e
    simp only [de,c8Y,a0x,a1a,reduceCtorEq,c8P,if_false,if_true,bs,a0n,a0d,c8N]
    refine .some (.inr ⟨by simp,.inl ⟨rfl,_,_,_,_,_,_,_,rfl,?_,?_,kp⟩⟩)
    ·rw [stop hl];exact ow
    ·rw [stop hl];exact hF'
  ·have d0:decide ((i:Int)<(M.length:Int))=false:=decide_eq_false (by omega)
   have hall:(M.takeWhile fun y=>not (a1R w x y))=M.take i:=by
    rw [b3m pre,List.drop_eq_nil_of_le (by omega)];simp [-bind_some]
   simp only [d0,a0d,c8O,if_false,bs]
   refine .some (.inr ⟨by simp,.inl ⟨rfl,_,_,_,_,_,_,_,rfl,?_,?_,kp⟩⟩)
   ·rw [hall];exact ow
   ·rw [hall];exact hF'
 ·rintro ⟨ex,ds,g'⟩ (⟨rfl,dF',j3,j4,j5,j6,j7,j8,rfl,o,l,kp⟩ | ⟨rfl,j2,j3,j4,j5,j6,j7,j8,rfl,l,kp⟩)
  ·exact k1 _ _ _ _ _ _ _ _ o l kp
  ·exact k2 _ _ _ _ _ _ _ _ l kp
def prE (p:Ev × Ev):List D:=evr p.1++evr p.2
def mtE (key:Str) (w:Int) (x y:Ev):Bool:=(a3W x key).2&&(a3W y key).2&&decide ((a3W x key).1=(a3W y key).1)&&decide (x.a5 - y.a5≤w)&&decide (y.a5 - x.a5≤w)&&(a2A x y||a2A y x)
def prs (key:Str) (w:Int) (L R:List Ev):List (Ev × Ev):=L.flatMap fun x=>(R.filter (mtE key w x)).map fun y=>(x,y)
def okK (w:Int) (x y:Kd):Bool:=not (a1F w x y)&&not (a1R w x y)&&lsK x y
theorem c0r {key:Str} {w:Int} {L R:List Ev} {x y:Kd} (hx:x∈kdL key L) (hy:y∈kdL key R):okK w x y=mtE key w x.e y.e:=by
 obtain ⟨_,_,_,h1⟩:=a5e hx
 obtain ⟨_,_,_,h2⟩:=a5e hy
 unfold okK mtE a1F a1R lsK
 rw [h1,h2]
 by_cases e:y.v=x.v
 ·rw [← e,a2R]
  simp only [Bool.false_or,decide_true,Bool.true_and,c8X]
  congr 1
  have a1:(!decide (w<x.e.a5 - y.e.a5))=decide (x.e.a5 - y.e.a5≤w):=by rw [← decide_not];exact decide_eq_decide.2 (by omega)
  have a2:(!decide (w<y.e.a5 - x.e.a5))=decide (y.e.a5 - x.e.a5≤w):=by rw [← decide_not];exact decide_eq_decide.2 (by omega)
  rw [a1,a2]
 ·have e2:¬ x.v=y.v:=fun h=>e h.symm
  simp [-bind_some, e,e2]
theorem a9N {γ:Type} (key:Str) (G:Ev→List γ) (L:List Ev):(kdL key L).flatMap (fun x=>G x.e)=L.flatMap fun e=>if (a3W e key).2=true then G e else []:=by
 unfold kdL
 suffices ∀ n,((L.zipIdx n).filterMap fun p=>if (a3W p.1 key).2=true then some (⟨p.1,(a3W p.1 key).1,(p.2:Int)⟩:Kd) else none).flatMap (fun x=>G x.e)=L.flatMap fun e=>if (a3W e key).2=true then G e else [] from this 0
 induction L with
 | nil=>intro n;rfl
 | cons a L ih =>
  intro n
  rw [List.zipIdx_cons,List.filterMap_cons,List.flatMap_cons]
  by_cases h:(a3W a key).2=true
  ·simp only [h,if_true,List.flatMap_cons]
   rw [ih]
  ·simp only [h,if_false,List.nil_append]
   exact ih _
theorem a4R {α γ:Type} (p:α→Bool) (f:α→γ):∀ l:List α,(l.filter p).map f=l.flatMap fun y=>if p y=true then [f y] else []
 | []=>rfl
 | y::l=>by
  rw [List.flatMap_cons,← a4R p f l]
  by_cases h:p y=true <;> simp [-bind_some, h]
def kps (key:Str) (w:Int) (L R:List Ev):List (Kd × Kd):=(kdL key L).flatMap fun x=>((kdL key R).filter (okK w x)).map fun y=>(x,y)
def kpP (p:Kd × Kd):Pr:=⟨p.1.ix,p.2.ix⟩
def kpE (p:Kd × Kd):Ev × Ev:=(p.1.e,p.2.e)
theorem a2v {α β:Type} {f g:α→List β}:∀ {l:List α},(∀ x∈l,f x=g x)→l.flatMap f=l.flatMap g
 | [],_=>rfl
 | x::l,h=>by rw [List.flatMap_cons,List.flatMap_cons,h x (by simp),a2v fun y hy=>h y (by simp [-bind_some, hy])]
theorem a7z {α:Type} {f g:α→Bool} {l:List α} (h:∀ x∈l,f x=g x):l.filter f=l.filter g:=List.filter_congr h
theorem b2i (key:Str) (w:Int) (L R:List Ev):(kps key w L R).map kpE=prs key w L R:=by
 unfold kps prs
 rw [List.map_flatMap]
 have h1:∀ x∈kdL key L,((((kdL key R).filter (okK w x)).map fun y=>(x,y)).map kpE)=(R.filter (mtE key w x.e)).map fun y=>(x.e,y):=fun x hx=>by
  rw [a7z fun y hy=>c0r hx hy,List.map_map]
  show ((kdL key R).filter fun y=>mtE key w x.e y.e).map (fun y=>(x.e,y.e))=_
  rw [a4R,a4R]
  rw [a9N key (fun e=>if mtE key w x.e e=true then [(x.e,e)] else []) R]
  refine a2v fun e _=>?_
  by_cases h:(a3W e key).2=true
  ·rw [if_pos h]
  ·rw [if_neg h]
   have:mtE key w x.e e=false:=by
    have:(a3W e key).2=false:=by simpa using h
    unfold mtE;rw [this];simp [-bind_some]
   rw [this];rfl
 rw [a2v h1,a9N key (fun e=>(R.filter (mtE key w e)).map fun y=>(e,y)) L]
 refine a2v fun e _=>?_
 by_cases h:(a3W e key).2=true
 ·rw [if_pos h]
 ·rw [if_neg h]
  have:∀ y∈R,mtE key w e y=false:=fun y _=>by
   have:(a3W e key).2=false:=by simpa using h
   unfold mtE;rw [this];simp [-bind_some]
  rw [a7z this]
  simp [-bind_some]
def prc (x y:Pr):Int:=orI [a2h x.l y.l,a2h x.r y.r]
theorem c4o (x y:Pr) (h:Hp):R a4T [.agg (prr x),.agg (prr y)] h=some (.int .i64 (prc x y),h):=by
 rw [c2B]
 have hs:SlOf 1 inr [a2h x.l y.l,a2h x.r y.r] (.sl 1 true [[.int .i64 (a2h x.l y.l)],[.int .i64 (a2h x.r y.r)]]) := .inr ⟨true,rfl⟩
 have hb:a0J tab a3t 2 [0,1] [.int .i64 (a2h x.l y.l),.int .i64 (a2h x.r y.r)]=some (.sl 1 true [[.int .i64 (a2h x.l y.l)],[.int .i64 (a2h x.r y.r)]]):=id rfl
 have q0:∀ p:Pr,a0b tab a0i 0 (.fptr (prr p))=some (.fptr (prr p)):=fun p=>id rfl
 have q1:∀ p:Pr,a0b tab a0i 1 (.fptr (prr p))=some (.fptr [.int .i64 p.r]):=fun p=>id rfl
 have l0:∀ p:Pr,a0c tab h ty3 (.fptr (prr p))=some (.int .i64 p.l):=fun p=>id rfl
 have l1:∀ p:Pr,a0c tab h ty3 (.fptr [.int .i64 p.r])=some (.int .i64 p.r):=fun p=>id rfl
 simp only [b8s,a1l,bs,q0,q1,l0,l1,s90,hb,s89 _ _ h hs (by simp),a1j,a0s]
 rfl
theorem c2d:CmpFP (.fn (.func a4T) [] []) prc:=fun x y g=>by rw [a5w];exact c4o x y g
theorem a7U (x y:Pr):prc x y<0↔(x.l<y.l∨x.l=y.l∧x.r<y.r):=by
 unfold prc orI orI orI
 by_cases h:a2h x.l y.l=0
 ·rw [if_pos h]
  rw [a2u] at h
  have h3:(if a2h x.r y.r=0 then 0 else a2h x.r y.r)<0↔x.r<y.r:=by
   split
   ·rename_i h4;rw [a2u] at h4;omega
   ·rw [a6w]
  rw [h3];omega
 ·rw [if_neg h,a6w]
  rw [a2u] at h
  omega
theorem prcO:CmO prc where
 asm:=fun x y h=>by rw [a7U] at *;omega
 tr:=fun x y z h k=>by rw [a7U] at *;omega
theorem b6X (key:Str) (w:Int) (L R:List Ev):((kps key w L R).map kpP).Pairwise fun x y=>prc x y<0:=by
 unfold kps
 rw [List.pairwise_map,List.pairwise_flatMap]
 refine ⟨fun x hx=>?_,(a8v key L).imp fun {a b} hab p hp q hq=>?_⟩
 ·rw [List.pairwise_map]
  refine ((a8v key R).sublist List.filter_sublist).imp fun {a b} hab=>?_
  rw [a7U]
  exact .inr ⟨rfl,hab⟩
 ·obtain ⟨y,_,rfl⟩:=c9k.1 hp
  obtain ⟨z,_,rfl⟩:=c9k.1 hq
  rw [a7U]
  exact .inl hab
def a5T (w:Int) (B:List Kd) (x:Kd):List Pr:=(B.filter (okK w x)).map fun y=>⟨x.ix,y.ix⟩
theorem b4U {w:Int} {B:List Kd} (x:Kd) (hB:B.Pairwise a8j) {f:Nat} (hf:f≤B.length) (h1:∀ j y,j<f→B[j]?=some y→a1F w x y=true) (h2:∀ y,B[f]?=some y→a1F w x y=false) :
  a5T w B x=a3f x ((B.drop f).takeWhile fun y=>not (a1R w x y)):=by
 rw [b9s (a1F w x) f B h1 hf h2,← c5G _ _ B (b7w x hB)]
 unfold a5T a3f
 rw [List.filter_filter]
 congr 1
 refine List.filter_congr fun y _=>?_
 unfold okK
 cases lsK x y <;> simp [-bind_some]
theorem b3L {key:Str} (w:Int) {L R:List Ev} {A B:List Kd} (ha:A.Perm (kdL key L)) (hb:B.Perm (kdL key R)):(A.flatMap (a5T w B)).Perm ((kps key w L R).map kpP):=by
 have:=b6D (okK w) (fun x y=>(⟨x.ix,y.ix⟩:Pr)) ha hb
 unfold kps a5T
 rw [List.map_flatMap]
 refine this.trans (List.Perm.of_eq (a2v fun x _=>?_))
 rw [List.map_map]
 rfl
theorem c3R {w:Int} {A B:List Kd} {dA dB:D} (hA:SlOf 12 kdr A dA) (hB:SlOf 12 kdr B dB) (hAl:A.length≤1000) (hBl:B.length≤1000) (hAt:∀ y∈A,0≤y.e.a5∧y.e.a5≤253402300799999) (hBt:∀ y∈B,0≤y.e.a5∧y.e.a5≤253402300799999) (hAs:A.Pairwise a8j) (hBs:B.Pairwise a8j) (h0:Hp)
  {β:Type} {K:Out→Option β} {Q:β→Prop}
  (k1:∀ dF' rest g',Own g' h0.length a0i 2 ((A.flatMap (a5T w B)).map prr) dF'→(A.flatMap (a5T w B)).length≤2000→Keep h0 g'→Wp (K (.ext 0,.nils :: .int .i64 0::dF'::rest,g')) Q)
  (k2:∀ rest g',2000<(A.flatMap (a5T w B)).length→Keep h0 g'→Wp (K (.ret,.nils :: .int .i64 4::rest,g')) Q) :
  Wp ((a0z (a5W (.int .i64 w) dB dA (.int .i64 (A.length:Int))) [.nils,.int .i64 0,.nils,.int .i64 0,.any,.any,.int .i64 0,.any,.any,.any,.any,.any,.any,.any,.any,.any] h0).bind K) Q:=by
 refine Wp.loop (fun n ds g=>∃ (i f:Nat) (dF a4 a5 a7 a8 a9 b0 b1 b2 b3 b4 b5:D),ds=[.nils,.int .i64 0,dF,.int .i64 (f:Int),a4,a5,.int .i64 (i:Int),a7,a8,a9,b0,b1,b2,b3,b4,b5]∧n+i=A.length∧f≤B.length∧(∀ x'∈A.drop i,∀ j y,j<f→B[j]?=some y→a1F w x' y=true)∧Own g h0.length a0i 2 (((A.take i).flatMap (a5T w B)).map prr) dF∧((A.take i).flatMap (a5T w B)).length≤2000∧Keep h0 g)
  (fun r=>(r.1 = .ext 0∧∃ dF' rest,r.2.1 = .nils :: .int .i64 0::dF'::rest∧Own r.2.2 h0.length a0i 2 ((A.flatMap (a5T w B)).map prr) dF'∧(A.flatMap (a5T w B)).length≤2000∧Keep h0 r.2.2)
   ∨ (r.1 = .ret∧∃ rest,r.2.1 = .nils :: .int .i64 4::rest∧2000<(A.flatMap (a5T w B)).length∧Keep h0 r.2.2)) A.length
  ⟨0,0,_,_,_,_,_,_,_,_,_,_,_,_,rfl,by omega,by omega,fun x' _ j y hj=>by omega,Own.nils _ _ _ _,by simp,.refl _⟩ ?_ ?_
 ·rintro n ds g ⟨i,f,dF,a4,a5,a7,a8,a9,b0,b1,b2,b3,b4,b5,rfl,hn,hf,he,ow,hlen,kp⟩
  simp only [a5W,a0e,a0g,bs,c8N,a0q]
  refine Wp.dif ?_ ?_
  ·intro hlt
   have hlt:i<A.length:=by
    have:(i:Int)<(A.length:Int):=by simpa using hlt
    omega
   have hw:=wi_ i (by omega)
   obtain ⟨x,hx⟩:=gx_ hlt
   have hxi:A[i]=x:=by rw [c9c hlt] at hx;injection hx
   have hdr:A.drop i=x::A.drop (i+1):=by rw [List.drop_eq_getElem_cons hlt,hxi]
   have tk:A.take (i+1)=A.take i++[x]:=by rw [c8Z,hx];rfl
   have hxt:=hAt x (c9b hx)
   simp only [a5d hA,Int.natCast_nonneg,if_true,c8W,hx,Option.map_some,bs,kL,kBx,c8N]
   refine c0b hB hBl hBt x hxt f hf (fun j y=>he x (by rw [hdr];simp [-bind_some]) j y) _ g ?_
   intro f' a' hf' h1 h2
   obtain ⟨dM,eM,hM⟩:=b7x hB (k := .i64) (n:=(f':Int)) (by omega) (by omega)
   rw [c8W] at hM
   have hsel:=b4U x hBs hf' h1 h2
   have hall:(A.take (i+1)).flatMap (a5T w B)=(A.take i).flatMap (a5T w B)++a5T w B x:=by rw [tk,List.flatMap_append];simp [-bind_some]
   simp only [a0o,a0j,a0e,a0g,bs,eM,a4B hM,c8N]
   refine c0c hM (by rw [c9g];omega) (fun y hy=>hBt y (List.mem_of_mem_drop hy)) x hxt h0 _ dF hlen _ _ _ _ _ _ _ g ow kp ?_ ?_
   ·intro dF' j3 j4 j5 j6 j7 j8 g' o l kp'
    rw [← hsel,← hall] at o l
    simp only [a0o,a0L,a0j,a0e,a0g,bs,a0k,hw]
    refine .some (.inl ⟨rfl,n - 1,by omega,i+1,f',_,_,_,_,_,_,_,_,_,_,_,_,rfl,by omega,hf',fun x' hx' j y hj hy=>?_,o,l,kp'⟩)
    refine b0v ?_ (h1 j y hj hy)
    have:=hAs.sublist (List.drop_sublist i A)
    rw [hdr] at this
    exact (List.pairwise_cons.1 this).1 x' hx'
   ·intro j2 j3 j4 j5 j6 j7 j8 g' l kp'
    rw [← hsel,← hall] at l
    simp only [a0U,a1n,a0e,a0g,bs]
    refine .some (.inr ⟨by simp,.inr ⟨rfl,_,rfl,?_,kp'⟩⟩)
    have:=List.take_append_drop (i+1) A
    rw [← this,List.flatMap_append,c8S]
    omega
  ·intro hge
   have hge:A.length≤i:=by
    have:¬ (i:Int)<(A.length:Int):=by simpa using hge
    omega
   rw [List.take_of_length_le hge] at ow hlen
   exact .some (.inr ⟨by simp,.inl ⟨rfl,_,_,rfl,ow,hlen,kp⟩⟩)
 ·rintro ⟨ex,ds,g'⟩ (⟨rfl,dF',rest,rfl,o,l,kp⟩ | ⟨rfl,rest,rfl,l,kp⟩)
  ·exact k1 _ _ _ o l kp
  ·exact k2 _ _ l kp
theorem c0d {P:List (Kd × Kd)} {L R:List Ev} {dL dR:D} (h0:Hp) (hL:RdE h0 L dL) (hR:RdE h0 R dR) (hP:∀ p∈P,(∃ i:Nat,p.1.ix=i∧L[i]?=some p.1.e)∧∃ i:Nat,p.2.ix=i∧R[i]?=some p.2.e) (hPl:P.length≤2000) (o:Nat) (g:Hp) (ho:g[o]?=some (.row a0i 2 ((P.map kpP).map prr))) (ho0:h0.length≤o) (kp:Keep h0 g) (a b:D)
  {β:Type} {K:Out→Option β} {Q:β→Prop} (k:∀ d rest g',Own g' h0.length a1q 20 ((P.map kpE).map prE) d→Keep h0 g'→Wp (K (.ext 6,d::rest,g')) Q) :
  Wp ((a0z (a4v dL dR (.msl 2 o 0 P.length) (.int .i64 (P.length:Int))) [.nils,a,.int .i64 0,b] g).bind K) Q:=by
 have q0:∀ p:Pr,a0b tab a0i 0 (.fptr (prr p))=some (.fptr (prr p)):=fun p=>id rfl
 have q1:∀ p:Pr,a0b tab a0i 1 (.fptr (prr p))=some (.fptr [.int .i64 p.r]):=fun p=>id rfl
 have l0:∀ (p:Pr) h,a0c tab h ty3 (.fptr (prr p))=some (.int .i64 p.l):=fun p h=>id rfl
 have l1:∀ (n:Int) h,a0c tab h ty3 (.fptr [.int .i64 n])=some (.int .i64 n):=fun n h=>id rfl
 have bx:∀ p:Pr,b0n 2 (.agg (prr p))=some (.fptr (prr p)):=fun p=>a6v 2 _ rfl
 have hB:∀ x y:Ev,a0N tab a1q [0,1] [.agg (evr x),.agg (evr y)]=some (.agg (prE (x,y))):=fun x y=>id rfl
 have hS:∀ p:Ev × Ev,a0J tab a0P 1 [0] [.agg (prE p)]=some (.sl 20 true [prE p]):=fun p=>id rfl
 have lnm:(P.map kpP).length=P.length:=c8T ..
 refine Wp.loop (fun n ds g'=>∃ (i:Nat) (d a b:D),ds=[d,a,.int .i64 (i:Int),b]∧n+i=P.length∧g'[o]?=some (.row a0i 2 ((P.map kpP).map prr))∧Own g' h0.length a1q 20 (((P.take i).map kpE).map prE) d∧¬ d.inOb o∧Keep h0 g')
  (fun r=>r.1 = .ext 6∧∃ d rest,r.2.1=d::rest∧Own r.2.2 h0.length a1q 20 ((P.map kpE).map prE) d∧Keep h0 r.2.2) P.length
  ⟨0,_,_,_,rfl,by omega,ho,Own.nils _ _ _ _,(fun hh=>by obtain ⟨_,_,hh⟩:=hh;cases hh),kp⟩ ?_ ?_
 ·rintro n ds g' ⟨i,d,a,b,rfl,hn,ho,ow,hno,kp⟩
  simp only [a4v,a0e,a0g,bs,c8N,a0q]
  refine Wp.dif ?_ ?_
  ·intro hlt
   have hlt:i<P.length:=by
    have:(i:Int)<(P.length:Int):=by simpa using hlt
    omega
   have hw:=wi_ i (by omega)
   obtain ⟨p,hp⟩:=gx_ hlt
   obtain ⟨⟨i1,e1,g1⟩,⟨i2,e2,g2⟩⟩:=hP p (c9b hp)
   have hpm:(P.map kpP)[i]?=some (kpP p):=by rw [c9a,hp];rfl
   have fl:a0c tab g' a0i (.ptr o i 0)=some (.agg (prr (kpP p))):=a1r ho hpm
   have k1:(kpP p).l=(i1:Int):=e1
   have k2:(kpP p).r=(i2:Int):=e2
   obtain ⟨qa,qe,ql⟩:=b2O hL i1 _ g1
   obtain ⟨ra,re,rl⟩:=b2O hR i2 _ g2
   simp only [adP hlt,fl,bs,bx,q0,l0,k1,qe,ql g' kp,q1,l1,k2,re,rl g' kp,hB,hS,c8N]
   refine b7J (n0:=h0.length) (ys:=[prE (p.1.e,p.2.e)]) kp.1 ow (a0O _ _ _ _) (by simp;omega) fun x9 g3 o3 len3 b3 keep3 in3=>?_
   simp only [bs,a0k,hw]
   have hol:=(c9d.1 ho).1
   refine .some (.inl ⟨rfl,n - 1,by omega,i+1,_,_,_,rfl,by omega,?_,?_,?_,⟨by have:=kp.1;show h0.length≤g3.length;omega,fun q hq=>by show g3[q]?=_;rw [b3 q hq];exact kp.2 q hq⟩⟩)
   ·show g3[o]?=_
    rw [keep3 o hol hno];exact ho
   ·have:P.take (i+1)=P.take i++[p]:=by rw [c8Z,hp];rfl
    rw [this,c8U,c8U]
    exact o3
   ·intro hh
    rcases in3 o hh with h1 | h1
    ·exact hno h1
    ·omega
  ·intro hge
   have hge:P.length≤i:=by
    have:¬ (i:Int)<(P.length:Int):=by simpa using hge
    omega
   rw [List.take_of_length_le hge] at ow
   exact .some (.inr ⟨by simp,rfl,_,_,rfl,ow,kp⟩)
 ·rintro ⟨ex,ds,g'⟩ ⟨rfl,d,rest,rfl,o,kp⟩
  exact k _ _ _ o kp
theorem b7m (n0:Nat) (h:Hp) (n:Nat) (p:Ev × Ev):∀ d∈prE p,frz n0 h (n+1) d=d:=fun d hd=>by
 rcases c9j.1 hd with hd | hd
 ·exact a4d _ _ _ _ d hd
 ·exact a4d _ _ _ _ d hd
theorem c0x (n:Nat) (p:Ev × Ev):∀ d∈prE p,Ok n d:=fun d hd=>by
 rcases c9j.1 hd with hd | hd
 ·exact a5z n _ d hd
 ·exact a5z n _ d hd
theorem b3q (L R:List Ev) (dL dR:D) (key:Str) (w:Int) (h:Hp) (hL:RdE h L dL) (hR:RdE h R dR) (hl:L.length≤1000) (hr:R.length≤1000) (heL:∀ e∈L,JE e) (heR:∀ e∈R,JE e) (hk:b3t key) :
  (2000<(prs key w L R).length∧R1 a2w [dL,dR,.str key,.int .i64 w] h=some (.tup [.nils,.int .i64 4],h)) ∨
  ((prs key w L R).length≤2000∧∃ d,R1 a2w [dL,dR,.str key,.int .i64 w] h=some (.tup [d,.int .i64 0],h)∧SlOf 20 prE (prs key w L R) d):=by
 suffices Wp (R1 a2w [dL,dR,.str key,.int .i64 w] h) (fun p=>p.2=h∧((2000<(prs key w L R).length∧p.1 = .tup [.nils,.int .i64 4])∨((prs key w L R).length≤2000∧∃ d,p.1 = .tup [d,.int .i64 0]∧SlOf 20 prE (prs key w L R) d))) by
  obtain ⟨⟨x,h'⟩,h1,rfl,⟨h2,rfl⟩ | ⟨h2,d,rfl,h3⟩⟩:=this
  ·exact .inl ⟨h2,h1⟩
  ·exact .inr ⟨h2,d,h1,h3⟩
 obtain ⟨dA,A,eA,hA,pA,sA⟩:=c1u L dL key h hL hl heL hk
 obtain ⟨dB,B,eB,hB,pB,sB⟩:=c1u R dR key h hR hr heR hk
 have tm:∀ (l:List Ev) (C:List Kd),(∀ e∈l,JE e)→C.Perm (kdL key l)→∀ y∈C,0≤y.e.a5∧y.e.a5≤253402300799999:=fun l C hl hC y hy=>by
  obtain ⟨i,_,h2,_⟩:=a5e (hC.mem_iff.1 hy)
  have:=hl y.e (c9b h2)
  exact ⟨this.2.2.1,this.2.2.2⟩
 have lenA:A.length≤1000:=by rw [pA.length_eq];have:=a6L key L;omega
 have lenB:B.length≤1000:=by rw [pB.length_eq];have:=a6L key R;omega
 have hp:=b3L w pA pB
 have hlen:(A.flatMap (a5T w B)).length=(prs key w L R).length:=by rw [hp.length_eq,c8T,← b2i,c8T]
 have hasc:=b6X key w L R
 have hPm:∀ p∈kps key w L R,(∃ i:Nat,p.1.ix=i∧L[i]?=some p.1.e)∧∃ i:Nat,p.2.ix=i∧R[i]?=some p.2.e:=fun p hp=>by
  unfold kps at hp
  obtain ⟨x,hx,hp⟩:=List.mem_flatMap.1 hp
  obtain ⟨y,hy,rfl⟩:=c9k.1 hp
  obtain ⟨i,h1,h2,_⟩:=a5e hx
  obtain ⟨j,h3,h4,_⟩:=a5e (List.mem_filter.1 hy).1
  exact ⟨⟨i,h1,h2⟩,⟨j,h3,h4⟩⟩
 rw [c2y]
 simp only [b8p,eA,eB,bs,a4B hA,c8N]
 refine c3R hA hB lenA lenB (tm L A heL pA) (tm R B heR pB) sA sB h ?_ ?_
 ·intro dF rest g ow hl2 kp
  rw [hlen] at hl2
  simp only [a0o,a0j,a0e,a0g,bs,b7p,c8N]
  rcases ow with ⟨rfl,hnil⟩ | ⟨o,hno,rfl,ho⟩
  ·have hnil:A.flatMap (a5T w B)=[]:=by simpa using hnil
   obtain ⟨y,ey⟩:=c0G .nils (.fn (.func a4T) [] []) g (.nils _ _)
   have hz:prs key w L R=[]:=List.eq_nil_of_length_eq_zero (by rw [← hlen,hnil];rfl)
   simp only [ey,bs,b4x,c8N]
   rw [a1w]
   simp only [a4v,a0e,a0g,bs,a0q,Int.lt_irrefl,decide_false,a0d,c8O,if_false,a0o,a0j,a0G]
   have hsc:scope h g (.tup [.nils,.int .i64 0])=some (.tup [.nils,.int .i64 0],h):=a1m (by simp) (.tup _ (by simp;exact ⟨.nils,.int _ _⟩)) kp.1 kp.2
   rw [hsc]
   exact .some ⟨rfl,.inr ⟨hl2,.nils,rfl,by rw [hz];exact .nils _ _⟩⟩
  ·rw [c8T,a9O]
   have nd:Nd prc (A.flatMap (a5T w B)):=Nd.pm (hasc.imp fun {a b} hab => .inl hab) hp
   simp only [bs]
   refine Wp.bind (c4N prcO c2d (N:=(A.flatMap (a5T w B)).length) (by omega) rfl ho nd) ?_
   rintro ⟨y,g'⟩ ⟨C,c1,c2,c3,c4⟩
   simp only at c3 c4
   have hC:C=(kps key w L R).map kpP:=a7T (R:=fun x y=>¬ prc y x<0) (fun x y h1 h2=>by
    rw [a7U] at h1 h2
    have e1:x.l=y.l:=by omega
    have e2:x.r=y.r:=by omega
    cases x;cases y;simp at e1 e2;simp [-bind_some, e1,e2]) c2 (hasc.imp fun {a b} hab=>prcO.asm _ _ hab) (c1.trans hp)
   subst hC
   have kp':Keep h g':=⟨by have:=kp.1;have:=c4.1;omega,fun q hq=>by rw [c4.2 q (by omega)];exact kp.2 q hq⟩
   have hN:(A.flatMap (a5T w B)).length=(kps key w L R).length:=by rw [hp.length_eq,c8T]
   rw [hN]
   simp only [bs]
   refine c0d h hL hR hPm (by omega) o g' c3 hno kp' _ _ ?_
   intro d rest g2 ow2 kp2
   rw [b2i] at ow2
   simp only [a0o,a0j,a0e,bs,a0G]
   have hs:=a2D (n0:=h.length) (n:=2) ow2 (Nat.le_refl _) fun p _=>b7m _ _ _ p
   have hsc:scope h g2 (.tup [d,.int .i64 0])=some (.tup [frz h.length g2 3 d,.int .i64 0],h):=a1m (by simp) (.tup _ (by simp;exact ⟨a1C hs fun p _=>c0x _ p,.int _ _⟩)) kp2.1 kp2.2
   rw [hsc]
   exact .some ⟨rfl,.inr ⟨hl2,_,rfl,hs⟩⟩
 ·intro rest g hl2 kp
  rw [hlen] at hl2
  simp only [a0U,a1n,a1i,a0e,a0g,bs,a0G]
  have hsc:scope h g (.tup [.nils,.int .i64 4])=some (.tup [.nils,.int .i64 4],h):=a1m (by simp) (.tup _ (by simp;exact ⟨.nils,.int _ _⟩)) kp.1 kp.2
  rw [hsc]
  exact .some ⟨rfl,.inl ⟨hl2,rfl⟩⟩
def evZ (a0 a2 a5:Int) (s7:Str):Ev:=⟨a0,0,a2,0,[],.nils,a5,0,s7,[],[],.nils,.nils _ _,by simp,.nils _ _,by simp⟩
theorem c0F (x y:Ev) (w:Int) (h:Hp) (hx:0≤x.a5∧x.a5≤253402300799999) (hy:0≤y.a5∧y.a5≤253402300799999):R a3O [.agg (evr x),.agg (evr y),.int .i64 w] h=some (.bool (decide (x.a5 - y.a5≤w)&&decide (y.a5 - x.a5≤w)),h):=by
 have q:∀ e:Ev,a0b tab a0C 5 (.fptr (evr e))=some (.fptr [.int .i64 e.a5,.int .i64 e.a6,.str e.s7,.str e.s8,e.fd]):=fun e=>id rfl
 have l:∀ e:Ev,a0c tab h ty3 (.fptr [.int .i64 e.a5,.int .i64 e.a6,.str e.s7,.str e.s8,e.fd])=some (.int .i64 e.a5):=fun e=>id rfl
 have w1:IntKind.wrap .i64 (x.a5 - y.a5)=x.a5 - y.a5:=wrap_i64 (by omega) (by omega)
 have w2:IntKind.wrap .i64 (y.a5 - x.a5)=y.a5 - x.a5:=wrap_i64 (by omega) (by omega)
 rw [c2z]
 simp only [b8q,a1l,bs,q,l,a0t,w1,w2,a0Y,c8N]
 cases hd:decide (x.a5 - y.a5≤w) with
 | true=>simp only [a0x,if_true,bs,q,l,a0t,w1,w2,a0Y,a0n,a0s,Bool.true_and,c8N]
 | false=>simp only [a0x,a1a,reduceCtorEq,c8O,if_false,bs,a0n,a0s,Bool.false_and,c8N]
theorem c4n (h:Hp):R a4S [] h=some (.bool true,h):=by
 have b5:a0N tab a0C [5] [.int .i64 5]=some (.agg (evr (evZ 0 0 5 []))):=id rfl
 have b7:a0N tab a0C [5] [.int .i64 7]=some (.agg (evr (evZ 0 0 7 []))):=id rfl
 have h1:∀ g,R a3O [.agg (evr (evZ 0 0 5 [])),.agg (evr (evZ 0 0 7 [])),.int .i64 2] g=some (.bool true,g):=fun g=>c0F _ _ 2 g ⟨by decide,by decide⟩ ⟨by decide,by decide⟩
 have h2:∀ g,R a3O [.agg (evr (evZ 0 0 5 [])),.agg (evr (evZ 0 0 7 [])),.int .i64 1] g=some (.bool false,g):=fun g=>c0F _ _ 1 g ⟨by decide,by decide⟩ ⟨by decide,by decide⟩
 rw [c2x]
 simp only [b8o,b5,b7,bs,h1,a0x,a0F,if_true,h2,a1f,c8Y,a0n,a0s]
def sr (s:Str):List D:=[.str s]
theorem b0d (n0:Nat) (h:Hp) (n:Nat) (s:Str):∀ d∈sr s,frz n0 h n d=d:=fun d hd=>by
 simp only [sr,List.mem_singleton] at hd
 subst hd
 exact a6H _ _ _ _
theorem b4Q (n:Nat) (s:Str):∀ d∈sr s,Ok n d:=fun d hd=>by
 simp only [sr,List.mem_singleton] at hd
 subst hd
 exact .str _
def RdW (h:Hp) (l:List Str) (d:D):Prop:=SlOf 1 sr l d∨∃ (ob r:Nat) (full:List Str),d = .msl 1 ob r l.length∧h[ob]?=some (.row ty9 1 (full.map sr))∧(full.drop r).take l.length=l
theorem RdW.own {h:Hp} {n0:Nat} {l:List Str} {d:D} (hd:Own h n0 ty9 1 (l.map sr) d):RdW h l d:=by
 rcases hd with ⟨rfl,hl⟩ | ⟨o,_,rfl,ho⟩
 ·exact .inl (.inl ⟨rfl,by simpa using hl⟩)
 ·exact .inr ⟨o,0,l,by rw [c8T],ho,by simp⟩
theorem b7u {h:Hp} {l:List Str} {d:D} (hd:RdW h l d):a0B tab a1d d=some (.int .i64 l.length):=by
 rcases hd with hd | ⟨ob,r,full,rfl,_⟩
 ·exact a2z hd
 ·exact c0i _ _ _ _
theorem b4H {h:Hp} {l:List Str} {d:D} (hd:RdW h l d):a1b h 1 d=some (l.map sr):=by
 rcases hd with hd | ⟨ob,r,full,rfl,ho,hl⟩
 ·exact a5k h hd
 ·simp only [a1b,if_true,ho]
  rw [← List.map_drop,← List.map_take,hl]
theorem c0z {h:Hp} {l:List Str} {d:D} (hd:RdW h l d) (m:Nat) (hm:m≤l.length):∃ d',a0E tab a1d false true false [d,.int .i64 (m:Int)]=some d'∧RdW h (l.take m) d':=by
 rcases hd with hd | ⟨ob,r,full,rfl,ho,hl⟩
 ·obtain ⟨d',e,h2⟩:=b3d (T:=tab) (t:=a1d) (i:=b7D) (j:=ti9) (id rfl) (id rfl) (id rfl) (id rfl) hd (k := .i64) (n:=(m:Int)) (by omega) (by omega)
  exact ⟨d',e,.inl (by rwa [c8W] at h2)⟩
 ·refine ⟨_,c0p (T:=tab) (t:=a1d) (i:=b7D) (j:=ti9) (id rfl) (id rfl) (id rfl) (id rfl) (by decide) hm,.inr ⟨ob,r,full,?_,ho,?_⟩⟩
  ·rw [c9h,Nat.min_eq_left hm];rfl
  ·rw [c9h,Nat.min_eq_left hm]
   conv=>rhs;rw [← hl,List.take_take,Nat.min_eq_left hm]
theorem c0A {h:Hp} {l:List Str} {d:D} (hd:RdW h l d) (m:Nat) (hm:m<l.length):∃ d',a0E tab a1d true false false [d,.int .i64 (m:Int)]=some d'∧RdW h (l.drop m) d':=by
 rcases hd with hd | ⟨ob,r,full,rfl,ho,hl⟩
 ·obtain ⟨d',e,h2⟩:=a8F (T:=tab) (t:=a1d) (i:=b7D) (j:=ti9) (id rfl) (id rfl) (id rfl) (id rfl) hd (k := .i64) (n:=(m:Int)) (by omega) (by omega)
  exact ⟨d',e,.inl (by rwa [c8W] at h2)⟩
 ·refine ⟨_,c0q (T:=tab) (t:=a1d) (i:=b7D) (j:=ti9) (id rfl) (id rfl) (id rfl) (id rfl) (by decide) hm (Nat.zero_le _),.inr ⟨ob,r+m,full,?_,ho,?_⟩⟩
  ·rw [c9g];rfl
  ·rw [c9g]
   conv=>rhs;rw [← hl]
   rw [List.drop_take,List.drop_drop]
def Apart (x y:D):Prop:=∀ q,x.inOb q→¬ y.inOb q
theorem Apart.symm {x y:D} (h:Apart x y):Apart y x:=fun q a b=>h q b a
theorem a1c {h:Hp} {n e z n' e' z':Nat} {rows rows':List (List D)} {d d':D} (a:Own h n e z rows d) (b:Own h n' e' z' rows' d') (hne:e≠e'):Apart d d':=fun q hq=>b2I a b hne hq
theorem a1Q {h:Hp} {n e z:Nat} {rows:List (List D)} {x x' y:D} (b:Own h n e z rows y) (ap:Apart x y) (hin:∀ q,x'.inOb q→x.inOb q∨h.length≤q):Apart x' y:=fun q hq hy=>by
 rcases hin q hq with h1 | h1
 ·exact ap q h1 hy
 ·have:=(b.lt hy).2;omega
theorem a0V {h h':Hp} {n e z:Nat} {rows:List (List D)} {x y:D} (b:Own h n e z rows y) (ap:Apart x y) (kp:∀ q,q<h.length→¬ x.inOb q→h'[q]?=h[q]?):Own h' n e z rows y:=b.keep fun q _ hy=>kp q (b.lt hy).2 fun hx=>ap q hx hy
theorem c4j (A B:List Str) (dA dB:D) (h:Hp) (hA:SlOf 1 sr A dA) (hB:SlOf 1 sr B dB) (hl:A.length+B.length≤100000):∃ (l:List Str) (d dx dy:D),R a9B [dA,dB] h=some (.tup [d,dx,dy],h)∧SlOf 1 sr l d∧l.length≤A.length+B.length:=by
 suffices Wp (R a9B [dA,dB] h) (fun p=>p.2=h∧∃ (l:List Str) (d dx dy:D),p.1 = .tup [d,dx,dy]∧SlOf 1 sr l d∧l.length≤A.length+B.length) by
  obtain ⟨⟨x,h'⟩,h1,rfl,l,d,dx,dy,rfl,h2⟩:=this
  exact ⟨l,d,dx,dy,h1,h2⟩
 rw [c2u]
 simp only [b8m,bs,c8N]
 refine Wp.loop (fun n ds g=>∃ (i k:Nat) (x y z a b c:D) (l:List Str) (X Y:List Int),ds=[x,y,z,.int .i64 (i:Int),.int .i64 (k:Int),a,b,c]∧n+i+k=A.length+B.length∧i≤A.length∧k≤B.length∧l.length≤i+k∧X.length≤i+k∧Y.length≤i+k∧Own g h.length ty9 1 (l.map sr) x∧Own g h.length ty3 1 (X.map inr) y∧Own g h.length ty3 1 (Y.map inr) z∧Apart y z∧Keep h g)
  (fun r=>r.1 = .ext 0∧∃ (x y z:D) (rest:List D) (l:List Str) (X Y:List Int),r.2.1=x::y::z::rest∧l.length≤A.length+B.length∧Own r.2.2 h.length ty9 1 (l.map sr) x∧Own r.2.2 h.length ty3 1 (X.map inr) y∧Own r.2.2 h.length ty3 1 (Y.map inr) z∧Keep h r.2.2) (A.length+B.length)
  ⟨0,0,_,_,_,_,_,_,[],[],[],rfl,by omega,by omega,by omega,by simp,by simp,by simp,Own.nils _ _ _ _,Own.nils _ _ _ _,Own.nils _ _ _ _,(fun q hq=>by obtain ⟨_,_,hq⟩:=hq;cases hq),.refl _⟩ ?_ ?_
 ·rintro n ds g ⟨i,k,x,y,z,a,b,c,l,X,Y,rfl,hn,hi,hk,hll,hXl,hYl,ox,oy,oz,ap,kp⟩
  have ld:∀ (s:Str) g,a0c tab g ty9 (.fptr [.str s])=some (.str s):=fun s g=>id rfl
  have w1:=wi_ i (by omega)
  have w2:=wi_ k (by omega)
  have bi:∀ v:Int,a0J tab a3t 1 [0] [.int .i64 v]=some (.sl 1 true [inr v]):=fun v=>id rfl
  have bst:∀ s:Str,a0J tab a1d 1 [0] [.str s]=some (.sl 1 true [sr s]):=fun s=>id rfl
  simp only [a8N,a0e,a0g,bs,c8N,a2z hA,a0q]
  by_cases hiA:i<A.length
  ·have dA1:decide ((i:Int)<(A.length:Int))=true:=decide_eq_true (by omega)
   obtain ⟨sa,gA⟩:∃ u,A[i]?=some u:=⟨_,c9c hiA⟩
   have dA2:decide ((i:Int)=(A.length:Int))=false:=decide_eq_false (by omega)
   by_cases hkB:k=B.length
   ·have dB1:decide ((k:Int)=(B.length:Int))=true:=decide_eq_true (by omega)
    simp only [dA1,a0x,a1a,reduceCtorEq,c8P,if_false,if_true,bs,a0n,a0d,a2z hB,a0Q,dB1,c8N]
    simp only [a5N ox,bs,bi,c8N]
    refine b0L (n0:=h.length) kp.1 oy (a0O _ _ _ _) (by rw [c8T];simp [-bind_some];omega) fun y' g2 oy' l2 b2 k2 in2=>?_
    have ox2:=a0V ox (a1c oy ox (by decide)) k2
    have oz2:=a0V oz ap k2
    have kp2:Keep h g2:=⟨Nat.le_trans kp.1 l2,fun q hq=>(b2 q hq).trans (kp.2 q hq)⟩
    have ap2:Apart y' z:=a1Q oz ap in2
    simp only [a4u hA,Int.natCast_nonneg,if_true,c8W,gA,Option.map_some,bs,sr,ld,bst,c8N]
    refine a8I (n0:=h.length) (ys:=[sr sa]) kp2.1 ox2 (a0O _ _ _ _) (by rw [c8T];simp [-bind_some];omega) fun x' g3 ox3 l3 b3 k3 in3=>?_
    have oy3:=a0V oy' (a1c ox2 oy' (by decide)) k3
    have oz3:=a0V oz2 (a1c ox2 oz2 (by decide)) k3
    have kp3:Keep h g3:=⟨Nat.le_trans kp2.1 l3,fun q hq=>(b3 q hq).trans (kp2.2 q hq)⟩
    simp only [bs,a0k,w1,a0L,a0e,a0g]
    exact .some (.inl ⟨rfl,n - 1,by omega,i+1,k,_,_,_,_,_,_,l++[sa],X++[(l.length:Int)],Y,rfl,by omega,by omega,by omega,by rw [c8S];simp [-bind_some];omega,by rw [c8S];simp [-bind_some];omega,by omega,by rw [c8U];exact ox3,by rw [c8U];rw [c8T] at oy3;exact oy3,oz3,ap2,kp3⟩)
   ·have hkB':k<B.length:=by omega
    have dB1:decide ((k:Int)=(B.length:Int))=false:=decide_eq_false (by omega)
    obtain ⟨sb,gB⟩:∃ v,B[k]?=some v:=⟨_,c9c hkB'⟩
    simp only [dA1,a0x,a1a,reduceCtorEq,c8P,c8O,if_false,if_true,bs,a0n,a0d,a2z hB,a0Q,dB1,a2z hA,a0q,a4u hA,a4u hB,Int.natCast_nonneg,c8W,gA,gB,Option.map_some,sr,ld,a2S,c8N]
    cases Op.bytesLess sa sb with
    | true =>
     simp only [a0d,if_true,bs,c8N]
     simp only [a5N ox,bs,bi,c8N]
     refine b0L (n0:=h.length) kp.1 oy (a0O _ _ _ _) (by rw [c8T];simp [-bind_some];omega) fun y' g2 oy' l2 b2 k2 in2=>?_
     have ox2:=a0V ox (a1c oy ox (by decide)) k2
     have oz2:=a0V oz ap k2
     have kp2:Keep h g2:=⟨Nat.le_trans kp.1 l2,fun q hq=>(b2 q hq).trans (kp.2 q hq)⟩
     have ap2:Apart y' z:=a1Q oz ap in2
     simp only [a4u hA,Int.natCast_nonneg,if_true,c8W,gA,Option.map_some,bs,sr,ld,bst,c8N]
     refine a8I (n0:=h.length) (ys:=[sr sa]) kp2.1 ox2 (a0O _ _ _ _) (by rw [c8T];simp [-bind_some];omega) fun x' g3 ox3 l3 b3 k3 in3=>?_
     have oy3:=a0V oy' (a1c ox2 oy' (by decide)) k3
     have oz3:=a0V oz2 (a1c ox2 oz2 (by decide)) k3
     have kp3:Keep h g3:=⟨Nat.le_trans kp2.1 l3,fun q hq=>(b3 q hq).trans (kp2.2 q hq)⟩
     simp only [bs,a0k,w1,a0L,a0e,a0g]
     exact .some (.inl ⟨rfl,n - 1,by omega,i+1,k,_,_,_,_,_,_,l++[sa],X++[(l.length:Int)],Y,rfl,by omega,by omega,by omega,by rw [c8S];simp [-bind_some];omega,by rw [c8S];simp [-bind_some];omega,by omega,by rw [c8U];exact ox3,by rw [c8U];rw [c8T] at oy3;exact oy3,oz3,ap2,kp3⟩)
    | false =>
     simp only [a0d,dA2,a0x,a1a,reduceCtorEq,c8P,c8O,if_false,if_true,bs,a0n,a2z hB,a0Q,a2z hA,a0q,a4u hA,a4u hB,Int.natCast_nonneg,c8W,gA,gB,Option.map_some,sr,ld,a2S,c8N]
     cases Op.bytesLess sb sa with
     | true =>
      simp only [a0d,if_true,bs,c8N]
      simp only [a5N ox,bs,bi,c8N]
      refine b0L (n0:=h.length) kp.1 oz (a0O _ _ _ _) (by rw [c8T];simp [-bind_some];omega) fun z' g2 oz' l2 b2 k2 in2=>?_
      have ox2:=a0V ox (a1c oz ox (by decide)) k2
      have oy2:=a0V oy ap.symm k2
      have kp2:Keep h g2:=⟨Nat.le_trans kp.1 l2,fun q hq=>(b2 q hq).trans (kp.2 q hq)⟩
      have ap2:Apart y z':=(a1Q oy ap.symm in2).symm
      simp only [a4u hB,Int.natCast_nonneg,if_true,c8W,gB,Option.map_some,bs,sr,ld,bst,c8N]
      refine a8I (n0:=h.length) (ys:=[sr sb]) kp2.1 ox2 (a0O _ _ _ _) (by rw [c8T];simp [-bind_some];omega) fun x' g3 ox3 l3 b3 k3 in3=>?_
      have oy3:=a0V oy2 (a1c ox2 oy2 (by decide)) k3
      have oz3:=a0V oz' (a1c ox2 oz' (by decide)) k3
      have kp3:Keep h g3:=⟨Nat.le_trans kp2.1 l3,fun q hq=>(b3 q hq).trans (kp2.2 q hq)⟩
      simp only [bs,a0k,w2,a0L,a0e,a0g]
      exact .some (.inl ⟨rfl,n - 1,by omega,i,k+1,_,_,_,_,_,_,l++[sb],X,Y++[(l.length:Int)],rfl,by omega,by omega,by omega,by rw [c8S];simp [-bind_some];omega,by omega,by rw [c8S];simp [-bind_some];omega,by rw [c8U];exact ox3,oy3,by rw [c8U];rw [c8T] at oz3;exact oz3,ap2,kp3⟩)
     | false =>
      simp only [a0d,c8O,if_false,bs,c8N]
      simp only [a5N ox,bs,bi,c8N]
      refine b0L (n0:=h.length) kp.1 oy (a0O _ _ _ _) (by rw [c8T];simp [-bind_some];omega) fun y' g2 oy' l2 b2 k2 in2=>?_
      have ox2:=a0V ox (a1c oy ox (by decide)) k2
      have oz2:=a0V oz ap k2
      have kp2:Keep h g2:=⟨Nat.le_trans kp.1 l2,fun q hq=>(b2 q hq).trans (kp.2 q hq)⟩
      have ap2:Apart y' z:=a1Q oz ap in2
      simp only [a5N ox2,bs,bi,c8N]
      refine b0L (n0:=h.length) kp2.1 oz2 (a0O _ _ _ _) (by rw [c8T];simp [-bind_some];omega) fun z' g4 oz4 l4 b4 k4 in4=>?_
      have ox4:=a0V ox2 (a1c oz2 ox2 (by decide)) k4
      have oy4:=a0V oy' ap2.symm k4
      have kp4:Keep h g4:=⟨Nat.le_trans kp2.1 l4,fun q hq=>(b4 q hq).trans (kp2.2 q hq)⟩
      have ap4:Apart y' z':=(a1Q oy' ap2.symm in4).symm
      simp only [a4u hA,Int.natCast_nonneg,if_true,c8W,gA,Option.map_some,bs,sr,ld,bst,c8N]
      refine a8I (n0:=h.length) (ys:=[sr sa]) kp4.1 ox4 (a0O _ _ _ _) (by rw [c8T];simp [-bind_some];omega) fun x' g3 ox3 l3 b3 k3 in3=>?_
      have oy3:=a0V oy4 (a1c ox4 oy4 (by decide)) k3
      have oz3:=a0V oz4 (a1c ox4 oz4 (by decide)) k3
      have kp3:Keep h g3:=⟨Nat.le_trans kp4.1 l3,fun q hq=>(b3 q hq).trans (kp4.2 q hq)⟩
      simp only [bs,a0k,w1,w2,a0L,a0e,a0g]
      exact .some (.inl ⟨rfl,n - 2,by omega,i+1,k+1,_,_,_,_,_,_,l++[sa],X++[(l.length:Int)],Y++[(l.length:Int)],rfl,by omega,by omega,by omega,by rw [c8S];simp [-bind_some];omega,by rw [c8S];simp [-bind_some];omega,by rw [c8S];simp [-bind_some];omega,by rw [c8U];exact ox3,by rw [c8U];rw [c8T] at oy3;exact oy3,by rw [c8U];rw [c8T] at oz3;exact oz3,ap4,kp3⟩)
  ·have dA1:decide ((i:Int)<(A.length:Int))=false:=decide_eq_false (by omega)
   have dA2:decide ((i:Int)=(A.length:Int))=true:=decide_eq_true (by omega)
   by_cases hkB':k<B.length
   ·have dB1:decide ((k:Int)=(B.length:Int))=false:=decide_eq_false (by omega)
    have dB2:decide ((k:Int)<(B.length:Int))=true:=decide_eq_true (by omega)
    obtain ⟨sb,gB⟩:∃ v,B[k]?=some v:=⟨_,c9c hkB'⟩
    simp only [dA1,dA2,dB1,dB2,a0x,a1a,reduceCtorEq,c8P,c8O,if_false,if_true,bs,a0n,a0d,a2z hB,a2z hA,a0Q,a0q,c8N]
    simp only [a5N ox,bs,bi,c8N]
    refine b0L (n0:=h.length) kp.1 oz (a0O _ _ _ _) (by rw [c8T];simp [-bind_some];omega) fun z' g2 oz' l2 b2 k2 in2=>?_
    have ox2:=a0V ox (a1c oz ox (by decide)) k2
    have oy2:=a0V oy ap.symm k2
    have kp2:Keep h g2:=⟨Nat.le_trans kp.1 l2,fun q hq=>(b2 q hq).trans (kp.2 q hq)⟩
    have ap2:Apart y z':=(a1Q oy ap.symm in2).symm
    simp only [a4u hB,Int.natCast_nonneg,if_true,c8W,gB,Option.map_some,bs,sr,ld,bst,c8N]
    refine a8I (n0:=h.length) (ys:=[sr sb]) kp2.1 ox2 (a0O _ _ _ _) (by rw [c8T];simp [-bind_some];omega) fun x' g3 ox3 l3 b3 k3 in3=>?_
    have oy3:=a0V oy2 (a1c ox2 oy2 (by decide)) k3
    have oz3:=a0V oz' (a1c ox2 oz' (by decide)) k3
    have kp3:Keep h g3:=⟨Nat.le_trans kp2.1 l3,fun q hq=>(b3 q hq).trans (kp2.2 q hq)⟩
    simp only [bs,a0k,w2,a0L,a0e,a0g]
    exact .some (.inl ⟨rfl,n - 1,by omega,i,k+1,_,_,_,_,_,_,l++[sb],X,Y++[(l.length:Int)],rfl,by omega,by omega,by omega,by rw [c8S];simp [-bind_some];omega,by omega,by rw [c8S];simp [-bind_some];omega,by rw [c8U];exact ox3,oy3,by rw [c8U];rw [c8T] at oz3;exact oz3,ap2,kp3⟩)
   ·have dB2:decide ((k:Int)<(B.length:Int))=false:=decide_eq_false (by omega)
    simp only [dA1,dB2,a0x,a1a,reduceCtorEq,c8P,c8O,if_false,if_true,bs,a0n,a0d,a2z hB,a2z hA,a0q,c8N]
    exact .some (.inr ⟨by simp,rfl,_,_,_,_,l,X,Y,rfl,by omega,ox,oy,oz,kp⟩)
 ·rintro ⟨ex,ds,g⟩ ⟨rfl,x,y,z,rest,l,X,Y,rfl,hll,ox,oy,oz,kp⟩
  simp only at ox oy oz kp
  simp only [a0o,a0j,a0e,a0g,bs]
  have hx:=a2D (n0:=h.length) (n:=2) ox (Nat.le_refl _) fun s _=>b0d _ _ _ s
  have hy:=a2D (n0:=h.length) (n:=2) oy (Nat.le_refl _) fun s _ d hd=>by simp [-bind_some, inr] at hd;subst hd;exact a4Y _ _ _ _ _
  have hz:=a2D (n0:=h.length) (n:=2) oz (Nat.le_refl _) fun s _ d hd=>by simp [-bind_some, inr] at hd;subst hd;exact a4Y _ _ _ _ _
  have ok3:∀ {l:List Int} {d:D},SlOf 1 inr l d→Ok h.length d:=fun hd=>a1C hd fun s _ d hd=>by simp [-bind_some, inr] at hd;subst hd;exact .int _ _
  have hmk:a0m [x,y,z] = .tup [x,y,z]:=rfl
  rw [hmk]
  have hsc:scope h g (.tup [x,y,z])=some (.tup [frz h.length g 3 x,frz h.length g 3 y,frz h.length g 3 z],h):=a1m (by simp) (.tup _ (by
   intro d hd
   simp only [c9i,List.not_mem_nil,or_false] at hd
   rcases hd with rfl | rfl | rfl
   ·exact a1C hx fun s _=>b4Q _ s
   ·exact ok3 hy
   ·exact ok3 hz)) kp.1 kp.2
  rw [hsc]
  exact .some ⟨rfl,l,_,_,_,rfl,hx,hll⟩
theorem c4h:∀ (n:Nat) (l:List Str) (d:D) (h:Hp),l.length=n→n≤100000→RdW h l d→∃ (l':List Str) (d':D),R a5E [d] h=some (d',h)∧SlOf 1 sr l' d'∧l'.length≤l.length:=by
 intro n
 induction n using Nat.strongRecOn with
 | _ n ih =>
  intro l d h hl hn hd
  suffices Wp (R a5E [d] h) (fun p=>p.2=h∧∃ l':List Str,SlOf 1 sr l' p.1∧l'.length≤l.length) by
   obtain ⟨⟨x,h'⟩,h1,rfl,l',h2⟩:=this
   exact ⟨l',x,h1,h2⟩
  rw [c2s]
  simp only [b8k,bs,b7u hd,a0q,c8N]
  refine Wp.dif ?_ ?_
  ·intro _
   refine a8I (n0:=h.length) (Nat.le_refl _) (Own.nils _ _ _ _) (b4H hd) (by rw [c8T];simp [-bind_some];omega) fun x g o l1 b1 _ _=>?_
   rw [List.nil_append] at o
   have hs:=a2D (n0:=h.length) (n:=3) o (Nat.le_refl _) fun s _=>b0d _ _ _ s
   have hsc:scope h g x=some (frz h.length g 4 x,h):=a1m rfl (a1C hs fun s _=>b4Q _ s) l1 b1
   simp only [a0s,hsc]
   exact .some ⟨rfl,l,hs,Nat.le_refl _⟩
  ·intro h2
   have h2:2≤l.length:=by
    have:¬ (l.length:Int)<2:=by simpa using h2
    omega
   have hq:Int.tdiv (l.length:Int) 2=((l.length / 2:Nat):Int):=by rw [Int.tdiv_eq_ediv_of_nonneg (by omega)];omega
   have hwq:IntKind.wrap .i64 ((l.length / 2:Nat):Int)=((l.length / 2:Nat):Int):=wrap_i64 (by omega) (by omega)
   obtain ⟨d1,e1,r1⟩:=c0z hd (l.length / 2) (by omega)
   obtain ⟨d2,e2,r2⟩:=c0A hd (l.length / 2) (by omega)
   obtain ⟨l1,x1,f1,k1,m1⟩:=ih (l.length / 2) (by omega) (l.take (l.length / 2)) d1 h (by rw [c9h];omega) (by omega) r1
   obtain ⟨l2,x2,f2,k2,m2⟩:=ih (l.length - l.length / 2) (by omega) (l.drop (l.length / 2)) d2 h (by rw [c9g]) (by omega) r2
   rw [c9h] at m1
   rw [c9g] at m2
   obtain ⟨l3,x3,y3,z3,f3,k3,m3⟩:=c4j l1 l2 x1 x2 h k1 k2 (by omega)
   simp only [a1D,show ¬ (2:Int)=0 by omega,if_false,hq,hwq,bs,e1,f1,e2,f2,f3,a0H,c8Q,c8R,a0s]
   have hf:frz h.length h 4 x3=x3:=a3o k3 fun s _=>b0d _ _ _ s
   have hsc:scope h h x3=some (x3,h):=a1m hf (a1C k3 fun s _=>b4Q _ s) (Nat.le_refl _) fun _ _=>rfl
   rw [hsc]
   exact .some ⟨rfl,l3,k3,by omega⟩
theorem c4x (c:Int) (h:Hp) (hc:0≤c∧c<256):∃ v:Int,R b1Q [.int .u8 c] h=some (.int .u8 v,h)∧0≤v∧v<256:=by
 have hw:0≤IntKind.wrap .u8 (c+32)∧IntKind.wrap .u8 (c+32)<256:=by rw [a4F];omega
 rw [c3k]
 simp only [b9b,a0S,a0Y,a0Q,a0k,bs]
 have hr:∀ x:D,a0m [x]=x:=fun x=>a0s x
 cases h1:decide ((97:Int)≤c) <;> cases h2:decide (c≤(122:Int)) <;> cases h3:decide ((48:Int)≤c) <;> cases h4:decide (c≤(57:Int)) <;> cases h5:decide (c=(95:Int)) <;> cases h6:decide ((65:Int)≤c) <;> cases h7:decide (c≤(90:Int)) <;>
  simp only [h1,h2,h3,h4,h5,h6,h7,a0x,a1a,reduceCtorEq,c8P,c8O,if_false,if_true,bs,a0n,a0d,hr,a0S,a0Y,a0Q,a0k,c8N] <;>
  first
   | exact ⟨c,rfl,hc⟩
   | exact ⟨_,rfl,hw⟩
   | exact ⟨0,rfl,by omega,by omega⟩
theorem c4u (s:Str) (h:Hp) (hs:s.length≤90000):∃ (l:List Str) (d:D),R a7H [.str s] h=some (d,h)∧SlOf 1 sr l d∧l.length≤s.length+1:=by
 suffices Wp (R a7H [.str s] h) (fun p=>p.2=h∧∃ l:List Str,SlOf 1 sr l p.1∧l.length≤s.length+1) by
  obtain ⟨⟨x,h'⟩,h1,rfl,l',h2⟩:=this
  exact ⟨l',x,h1,h2⟩
 have bst:∀ s:Str,a0J tab a1d 1 [0] [.str s]=some (.sl 1 true [sr s]):=fun s=>id rfl
 have hb22:∀ v:Int,a0J tab a3h 1 [0] [.int .u8 v]=some (.sl 1 true [byr v]):=fun v=>id rfl
 rw [c3h]
 simp only [b8Y,bs,c8N]
 refine Wp.loop (fun n ds g=>∃ (i:Nat) (x y a b c d e:D) (l:List Str) (w:List Int),ds=[x,y,.int .i64 (i:Int),a,b,c,d,e]∧n+i=s.length+1∧l.length≤i∧w.length≤i∧Own g h.length ty9 1 (l.map sr) x∧Own g h.length ty5 1 (w.map byr) y∧Keep h g)
  (fun r=>r.1 = .ext 0∧∃ (x:D) (rest:List D) (l:List Str),r.2.1=x::rest∧l.length≤s.length+1∧Own r.2.2 h.length ty9 1 (l.map sr) x∧Keep h r.2.2) (s.length+1)
  ⟨0,_,_,_,_,_,_,_,[],[],rfl,by omega,by simp,by simp,Own.nils _ _ _ _,Own.nils _ _ _ _,.refl _⟩ ?_ ?_
 ·rintro n ds g ⟨i,x,y,a,b,c,d,e,l,w,rfl,hn,hll,hwl,ox,oy,kp⟩
  simp only [a9k,a0e,a0g,bs,b2p,a0Y,c8N]
  refine Wp.dif ?_ ?_
  ·intro hi
   have hi:i≤s.length:=by
    have:(i:Int)≤(s.length:Int):=by simpa using hi
    omega
   have hw1:=wi_ i (by omega)
   simp only [a0q,bs]
   refine Wp.bind (P:=fun r=>r.1 = .nrm∧∃ v:Int,r.2.1=[.int .u8 v]∧r.2.2=g) ?_ ?_
   ·refine Wp.dif ?_ ?_
    ·intro h0
     have h0:i<s.length:=by
      have:(i:Int)<(s.length:Int):=by simpa using h0
      omega
     have hcc:=c4z s i s[i] (c9c h0)
     have hb:=UInt8.toNat_lt s[i]
     obtain ⟨v,ev,_⟩:=c4x (s[i].toNat:Int) g ⟨by omega,by omega⟩
     simp only [hcc,bs,ev]
     exact .some ⟨rfl,v,rfl,rfl⟩
    ·intro _
     exact .some ⟨rfl,0,rfl,rfl⟩
   ·rintro ⟨ex,ds1,g1⟩ ⟨rfl,v,hds,hg⟩
    simp only at hds hg
    subst hds hg
    simp only [a0j,a0e,a3k,bs,c8N]
    refine Wp.bind (P:=fun r=>r.1 = .nrm∧∃ (x y a b c d:D) (l:List Str) (w:List Int),r.2.1=[x,y,a,b,c,d]∧l.length≤i+1∧w.length≤i+1∧Own r.2.2 h.length ty9 1 (l.map sr) x∧Own r.2.2 h.length ty5 1 (w.map byr) y∧Keep h r.2.2) ?_ ?_
    ·refine Wp.dif ?_ ?_
     ·intro _
      simp only [hb22,bs]
      refine c5e (n0:=h.length) kp.1 oy (a0O _ _ _ _) (by rw [c8T];simp [-bind_some];omega) fun y' g2 oy2 l2 b2 k2 in2=>?_
      refine .some ⟨rfl,x,y',_,_,_,_,l,w++[v],rfl,by omega,by rw [c8S];simp [-bind_some];omega,a0V ox (a1c oy ox (by decide)) k2,by rw [c8U];exact oy2,⟨Nat.le_trans kp.1 l2,fun q hq=>(b2 q hq).trans (kp.2 q hq)⟩⟩
     ·intro _
      have ly:a0B tab a3h y=some (.int .i64 (w.length:Int)):=by have:=c0j oy;rwa [c8T] at this
      have hts:a3u g1 y=some (.str (bys w)):=by simp only [a3u,a6U (RdB.own oy),a4M]
      have hc:∀ {γ:Type} (F:D→Option γ),((gd (.bool (decide ((0:Int)<(w.length:Int)))) true (some y)).bind fun t31=>(gd (.bool (decide ((0:Int)<(w.length:Int)))) true (a0B tab a3h t31)).bind fun t32=>(gd (.bool (decide ((0:Int)<(w.length:Int)))) true (a0f tab .leq ty3 t32 (.int .i64 40))).bind fun t33=>(a0K (.bool (decide ((0:Int)<(w.length:Int)))) t33 (.bool false)).bind F)=F (.bool (decide ((0:Int)<(w.length:Int))&&decide ((w.length:Int)≤40))):=fun F=>by
       cases decide ((0:Int)<(w.length:Int)) <;> simp [-bind_some, ly]
      simp only [ly,a1e,bs,hc,c8N]
      refine Wp.bind (P:=fun r=>r.1 = .nrm∧∃ (x:D) (l:List Str),r.2.1=[x]∧l.length≤i+1∧Own r.2.2 h.length ty9 1 (l.map sr) x∧Keep h r.2.2) ?_ ?_
      ·refine Wp.dif ?_ ?_
       ·intro _
        simp only [hts,bst,bs]
        refine a8I (n0:=h.length) kp.1 ox (a0O _ _ _ _) (by rw [c8T];simp [-bind_some];omega) fun x' g2 ox2 l2 b2 k2 in2=>?_
        exact .some ⟨rfl,x',l++[bys w],rfl,by rw [c8S];simp [-bind_some];omega,by rw [c8U];exact ox2,⟨Nat.le_trans kp.1 l2,fun q hq=>(b2 q hq).trans (kp.2 q hq)⟩⟩
       ·intro _
        exact .some ⟨rfl,x,l,rfl,by omega,ox,kp⟩
      ·rintro ⟨ex,ds2,g2⟩ ⟨rfl,x',l',hds,hl2,ox2,kp2⟩
       simp only at hds ox2 kp2
       subst hds
       simp only [a0j,a0e,bs]
       exact .some ⟨rfl,x',.nils,_,_,_,_,l',[],rfl,hl2,by simp,ox2,Own.nils _ _ _ _,kp2⟩
    ·rintro ⟨ex,ds2,g2⟩ ⟨rfl,x',y',a',b',c',d',l',w',hds,hl2,hw2,ox2,oy2,kp2⟩
     simp only at hds ox2 oy2 kp2
     subst hds
     simp only [a0j,a0L,a0e,a0g,a0k,hw1,bs]
     exact .some (.inl ⟨rfl,n - 1,by omega,i+1,_,_,_,_,_,_,_,l',w',rfl,by omega,hl2,hw2,ox2,oy2,kp2⟩)
  ·intro hi
   exact .some (.inr ⟨by simp,rfl,_,_,l,rfl,by omega,ox,kp⟩)
 ·rintro ⟨ex,ds,g⟩ ⟨rfl,x,rest,l,rfl,hll,ox,kp⟩
  simp only at ox kp
  simp only [a0o,a0j,a0e,bs]
  obtain ⟨l',d',e1,k1,m1⟩:=c4h l.length l x g rfl (by omega) (RdW.own ox)
  simp only [e1,bs,a0s]
  have hf:frz h.length g 4 d'=d':=a3o k1 fun s _=>b0d _ _ _ s
  have hsc:scope h g d'=some (d',h):=a1m hf (a1C k1 fun s _=>b4Q _ s) kp.1 kp.2
  rw [hsc]
  exact .some ⟨rfl,l',k1,by omega⟩
theorem c0M (l:List Str) (d:D) (t:Str) (h:Hp) (hd:SlOf 1 sr l d) (hl:l.length≤100000):∃ (i:Nat) (b:Bool),R a7G [d,.str t] h=some (.tup [.int .i64 (i:Int),.bool b],h)∧i≤l.length:=by
 suffices Wp (R a7G [d,.str t] h) (fun p=>p.2=h∧∃ (i:Nat) (b:Bool),p.1 = .tup [.int .i64 (i:Int),.bool b]∧i≤l.length) by
  obtain ⟨⟨x,h'⟩,h1,rfl,i,b,rfl,h2⟩:=this
  exact ⟨i,b,h1,h2⟩
 have ld:∀ (s:Str) g,a0c tab g ty9 (.fptr [.str s])=some (.str s):=fun s g=>id rfl
 rw [c3g]
 simp only [b8X,bs,a2z hd,c8N]
 refine Wp.loop (fun n ds g=>g=h∧∃ (a b:Nat) (x y z:D),ds=[.int .i64 (a:Int),.int .i64 (b:Int),x,y,z]∧n=b - a∧a≤b∧b≤l.length)
  (fun r=>r.1 = .ext 0∧r.2.2=h∧∃ (a:Nat) (rest:List D),r.2.1 = .int .i64 (a:Int)::rest∧a≤l.length) l.length ⟨rfl,0,l.length,_,_,_,rfl,by omega,by omega,by omega⟩ ?_ ?_
 ·rintro n ds g ⟨rfl,a,b,x,y,z,rfl,hn,hab,hb⟩
  simp only [a9j,a0e,a0g,bs,a0q,c8N]
  refine Wp.dif ?_ ?_
  ·intro h0
   have h0:a<b:=by
    have:(a:Int)<(b:Int):=by simpa using h0
    omega
   have w1:IntKind.wrap .i64 ((a:Int)+(b:Int))=((a+b:Nat):Int):=by rw [wrap_i64 (by omega) (by omega)];omega
   have hq:Int.tdiv ((a+b:Nat):Int) 2=(((a+b) / 2:Nat):Int):=by rw [Int.tdiv_eq_ediv_of_nonneg (by omega)];omega
   have hwq:IntKind.wrap .i64 (((a+b) / 2:Nat):Int)=(((a+b) / 2:Nat):Int):=wrap_i64 (by omega) (by omega)
   have w2:IntKind.wrap .i64 ((((a+b) / 2:Nat):Int)+1)=(((a+b) / 2+1:Nat):Int):=by rw [wrap_i64 (by omega) (by omega)];omega
   obtain ⟨u,hu⟩:∃ u,l[(a+b) / 2]?=some u:=⟨_,c9c (by omega)⟩
   simp only [a0k,w1,a1D,show ¬ (2:Int)=0 by omega,if_false,hq,hwq,bs,a4u hd,Int.natCast_nonneg,if_true,c8W,hu,Option.map_some,sr,ld,a2S,c8N]
   refine Wp.join (P:=fun (r:Out)=>r.1 = .nrm∧r.2.2=g∧∃ a' b':Nat,r.2.1=[.int .i64 (a':Int),.int .i64 (b':Int)]∧b' - a'<n∧a'≤b'∧b'≤l.length) ?_ ?_ ?_
   ·intro _
    simp only [w2,bs]
    exact .some ⟨rfl,rfl,(a+b) / 2+1,b,rfl,by omega,by omega,by omega⟩
   ·intro _
    exact .some ⟨rfl,rfl,a,(a+b) / 2,rfl,by omega,by omega,by omega⟩
   ·rintro ⟨ex,ds1,g1⟩ ⟨rfl,hg,a',b',hds,h1,h2,h3⟩
    simp only at hds hg
    subst hds hg
    simp only [a0L,a0e,a0g]
    exact .some (.inl ⟨rfl,b' - a',h1,rfl,a',b',_,_,_,rfl,rfl,h2,h3⟩)
  ·intro _
   exact .some (.inr ⟨by simp,rfl,rfl,a,_,rfl,by omega⟩)
 ·rintro ⟨ex,ds,g⟩ ⟨rfl,rfl,a,rest,rfl,ha⟩
  simp only [a0o,a0j,a0e,bs,a0q,c8N]
  by_cases h0:a<l.length
  ·have d0:decide ((a:Int)<(l.length:Int))=true:=decide_eq_true (by omega)
   obtain ⟨u,hu⟩:=gx_ h0
   simp only [d0,a0x,if_true,bs,a4u hd,Int.natCast_nonneg,c8W,hu,Option.map_some,sr,ld,a1L,a0n,a0G,c8N]
   exact .some ⟨rfl,a,_,rfl,ha⟩
  ·have d0:decide ((a:Int)<(l.length:Int))=false:=decide_eq_false (by omega)
   simp only [d0,a0x,a1a,reduceCtorEq,c8O,if_false,bs,a0n,a0G,c8N]
   exact .some ⟨rfl,a,_,rfl,ha⟩
theorem c4y (s t:Str) (h:Hp):∃ b:Bool,R b1S [.str s,.str t] h=some (.bool b,h):=by
 rw [c3m]
 simp only [b9d,bs,b2p,a0S,c8N]
 by_cases h0:t.length≤s.length
 ·have d0:decide ((t.length:Int)≤(s.length:Int))=true:=decide_eq_true (by omega)
  have hs:a0E tab ty9 false true false [.str s,.int .i64 (t.length:Nat)]=some (.str (s.take t.length)):=by
   have h2:tab ty9=some ti9:=id rfl
   have h3:ti9.td = .str:=id rfl
   simp [-bind_some, a0E,a1S,a1t,h2,h3,h0]
  simp only [d0,a0x,if_true,bs,b2p,hs,a1L,a0n,a0s]
  exact ⟨_,rfl⟩
 ·have d0:decide ((t.length:Int)≤(s.length:Int))=false:=decide_eq_false (by omega)
  simp only [d0,a0x,a1a,reduceCtorEq,c8O,if_false,bs,a0n,a0s,c8N]
  exact ⟨_,rfl⟩
theorem c4v (l:List Str) (d:D) (t:Str) (h:Hp) (hd:SlOf 1 sr l d) (hl:l.length≤100000):∃ b:Bool,R b1P [d,.str t] h=some (.bool b,h):=by
 obtain ⟨i,b0,e0,hi⟩:=c0M l d t h hd hl
 have ld:∀ (s:Str) g,a0c tab g ty9 (.fptr [.str s])=some (.str s):=fun s g=>id rfl
 have h72:Wp (R b1R [d,.str t] h) fun p=>p.2=h∧∃ a b:Int,p.1 = .tup [.int .i64 a,.int .i64 b]:=by
  rw [c3l]
  simp only [b9c,e0,bs,a0H,c8Q,c8R,c8N]
  refine Wp.loop (fun n ds g=>g=h∧∃ (a:Nat) (x:D),ds=[.int .i64 (a:Int),x]∧n+a=l.length)
   (fun r=>r.1 = .ext 0∧r.2.2=h∧∃ (a:Nat) (rest:List D),r.2.1 = .int .i64 (a:Int)::rest) (l.length - i) ⟨rfl,i,_,rfl,by omega⟩ ?_ ?_
  ·rintro n ds g ⟨rfl,a,x,rfl,hn⟩
   simp only [a9m,a0e,a0g,bs,a2z hd,a0q,c8N]
   by_cases h0:a<l.length
   ·have d0:decide ((a:Int)<(l.length:Int))=true:=decide_eq_true (by omega)
    have w1:=wi_ a (by omega)
    obtain ⟨u,hu⟩:=gx_ h0
    obtain ⟨b,eb⟩:=c4y u t g
    simp only [d0,a0x,a0F,if_true,bs,a4u hd,Int.natCast_nonneg,c8W,hu,Option.map_some,sr,ld,eb,a0n,c8N]
    refine Wp.dif ?_ ?_
    ·intro _
     simp only [a0k,w1,bs]
     exact .some (.inl ⟨rfl,n - 1,by omega,rfl,a+1,_,rfl,by omega⟩)
    ·intro _
     exact .some (.inr ⟨by simp,rfl,rfl,a,_,rfl⟩)
   ·have d0:decide ((a:Int)<(l.length:Int))=false:=decide_eq_false (by omega)
    simp only [d0,a0x,a1a,a0F,reduceCtorEq,c8O,if_false,bs,a0n,a0d,c8N]
    exact .some (.inr ⟨by simp,rfl,rfl,a,_,rfl⟩)
  ·rintro ⟨ex,ds,g⟩ ⟨rfl,rfl,a,rest,rfl⟩
   simp only [a0o,a0j,a0e,bs,a0G]
   exact .some ⟨rfl,_,_,rfl⟩
 obtain ⟨⟨x,h'⟩,e1,rfl,a,b,rfl⟩:=h72
 rw [c3i]
 simp only [b8Z,e1,bs,a0H,c8Q,c8R,a0q,a0s]
 exact ⟨_,rfl⟩
end Go.Proofs.YtkpnnfhodlanjaaGreatDoor

/- Laws, on plain data, about functions that the statement reaches. -/
import Derived.Test.YtehgglgadbmecaaGreatDoorL3
set_option linter.unusedSimpArgs false
set_option linter.unusedVariables false
set_option linter.unnecessarySimpa false
set_option maxRecDepth 100000
namespace Go.Proofs.YtehgglgadbmecaaGreatDoor
open Go.Eng Go.Pi
open Option (bind_some)
theorem c4R {ns:List Str} {dn:D} (C:CtOK ns dn) (l:List Ev) (dl:D) (size:Int) (h:Hp) (hd:SlOf 10 evr l dl) (hl:l.length≤1000) (he:EvW l) (hs:1≤size) (hs9:size≤100000) :
  ∃ (S:List Ct) (d:D),R1 a7Z [.int .i64 size,dn,dl] h=some (d,h)∧SlOf 3 ctr S d∧S.map ctc=skO size (obE ns l):=by
 suffices Wp (R1 a7Z [.int .i64 size,dn,dl] h) (fun p=>p.2=h∧∃ S:List Ct,SlOf 3 ctr S p.1∧S.map ctc=skO size (obE ns l)) by
  obtain ⟨⟨x,h'⟩,h1,rfl,S,h2⟩:=this
  exact ⟨S,x,h1,h2⟩
 have hL:∀ (e:Ev) g,a0c tab g a0P (.fptr (evr e))=some (.agg (evr e)):=fun e g=>id rfl
 have hB:∀ (e:Ev),a8G 10 (.agg (evr e))=some (.fptr (evr e)):=fun e=>a6N 10 _ rfl
 have hF:∀ (e:Ev),a0b tab a0P 6 (.fptr (evr e))=some (.fptr [.int .i64 e.a6,.str e.s7,.str e.s8,e.fd]):=fun e=>id rfl
 have hW:∀ (e:Ev) g,a0c tab g ty3 (.fptr [.int .i64 e.a6,.str e.s7,.str e.s8,e.fd])=some (.int .i64 e.a6):=fun e g=>id rfl
 rw [c2x]
 simp only [b8T,bs,b2w hd,c8N]
 refine Wp.loop (fun k ds g=>g=h∧∃ i:Nat,∃ x a b,∃ S:List Ct,ds=[x,a,.int .i64 i,b]∧k+i=l.length∧SlOf 3 ctr S x∧S.map ctc=skO size (obE ns (l.take i)))
  (fun r=>r.1 = .ext 0∧r.2.2=h∧∃ S:List Ct,SlOf 3 ctr S (nth 0 r.2.1)∧S.map ctc=skO size (obE ns l)) l.length ⟨rfl,0,.nils,_,_,[],rfl,rfl,.nils _ _,rfl⟩ ?_ ?_
 ·rintro k ds g ⟨rfl,i,x,a,b,S,rfl,hk,hS,hc⟩
  simp only [a9y,a0e,a0h,bs,c8N,a0n]
  refine Wp.dif ?_ ?_
  ·intro h0
   have h0:i<l.length:=by
    have:(i:Int)<(l.length:Int):=by simpa using h0
    omega
   have hw:=wi_ i (by omega)
   obtain ⟨e,hee⟩:=gx_ h0
   have hem:=he e (c9a hee)
   obtain ⟨kd,e1,hkd⟩:=c4S ns dn e g C.hd C.hl hem.1 hem.2.1 C.hn
   have hkl:(a4f ns e).length≤1000000:=by unfold a4f;rw [c8S];have:=C.hl;omega
   have hwp:WOK (obE ns (l.take i)):=EvW.wok (fun x hx=>he x (List.mem_of_mem_take hx)) ns
   have hlp:(obE ns (l.take i)).length≤1000:=by unfold obE;rw [c8S,c9g];omega
   obtain ⟨f1,f2,f3,f4,f5⟩:=b0H hs hwp hlp
   rw [← hc] at f1 f2 f5
   obtain ⟨S',d',e2,hS',hc'⟩:=c0v S x size (a4f ns e) kd e.a6 g hS hkd hkl (by rw [c8S] at f5;omega) f1 hs (fun c hcm=>by
    have:=f2 (ctc c) (c9j.2 ⟨c,hcm,rfl⟩)
    have h3:(ctc c).2.1=c.n:=rfl
    rw [h3] at this
    exact wrap_i64 (by omega) (by omega))
   simp only [b4K hd,Int.natCast_nonneg,if_true,c8V,hee,Option.map_some,bs,hL,hB,e1,hF,hW,b2V,e2,a1j,a0p,hw]
   refine .some (.inl ⟨rfl,k - 1,by omega,rfl,i+1,_,_,_,S',rfl,by omega,hS',?_⟩)
   rw [hc',hc]
   have:obE ns (l.take (i+1))=obE ns (l.take i)++[(a4f ns e,e.a6)]:=by
    unfold obE
    rw [c8Y,hee,c8T];rfl
   rw [this,a7t]
  ·intro h0
   have h0:i=l.length:=by
    have:¬ (i:Int)<(l.length:Int):=by simpa using h0
    omega
   subst h0
   rw [c9k] at hc
   exact .some (.inr ⟨by simp,rfl,rfl,S,hS,hc⟩)
 ·rintro ⟨ex,ds,g⟩ ⟨rfl,rfl,S,hS,hc⟩
  simp only at hS
  simp only [a0m,a0l,bs,a0e,a0o]
  exact .some ⟨rfl,S,hS,hc⟩
def cB (x y:Ct):Int:=if a4z y.n x.n=0 then a0W x.k y.k else a4z y.n x.n
theorem c4j (x y:Ct) (h:Hp):R a6a [.agg (ctr x),.agg (ctr y)] h=some (.int .i64 (cB x y),h):=by
 rw [c2F]
 have hs:SlOf 1 inr [a4z y.n x.n,a0W x.k y.k] (.sl 1 true [[.int .i64 (a4z y.n x.n)],[.int .i64 (a0W x.k y.k)]]) := .inr ⟨true,rfl⟩
 simp only [b9a,b4j,bs,b4k,b3A,s90,b5w,b5x,b3g x.k y.k x.kd y.kd h x.hk y.hk x.hkl y.hkl,b1u,s89 _ _ h hs (by simp),c5n,a1j,a0o]
 rfl
theorem c1P:a6s (.fn (.func a6a) [] []) cB:=fun x y g=>by rw [a1x];exact c4j x y g
def bS (x y:Ct):Prop:=¬ cB y x<0
theorem b9v (x y:Ct):cB x y<0↔(y.n<x.n∨(x.n=y.n∧a0W x.k y.k<0)):=by
 unfold cB
 by_cases h:a4z y.n x.n=0
 ·rw [if_pos h]
  rw [a3Q] at h
  constructor
  ·intro h2;exact .inr ⟨h.symm,h2⟩
  ·rintro (h2 | ⟨_,h2⟩)
   ·omega
   ·exact h2
 ·rw [if_neg h,b1C]
  rw [a3Q] at h
  constructor
  ·intro h2;exact .inl h2
  ·rintro (h2 | ⟨h2,_⟩)
   ·exact h2
   ·exact absurd h2.symm h
theorem b5u (x y:Ct):bS x y↔(y.n<x.n∨(x.n=y.n∧a0W x.k y.k≤0)):=by
 unfold bS
 rw [b9v,a2g]
 omega
theorem c1M:SOrd cB bS (fun _ _=>True) where
 tr:=fun x y z h k=>by
  rw [b5u] at *
  rcases h with h | ⟨h,h2⟩
  ·rcases k with k | ⟨k,k2⟩
   ·left;omega
   ·left;omega
  ·rcases k with k | ⟨k,k2⟩
   ·left;omega
   ·right;exact ⟨by omega,b5S h2 k2⟩
 lt:=fun x y _ h=>by
  unfold bS
  rw [b9v] at *
  have:=a2g x.k y.k
  omega
 ge:=fun x y _ h=>h
abbrev RC:=List Str × List Int × Int
def a2n (c:Ct):RC:=(c.k,[c.n],c.e)
def rT (a b:RC):Prop:=b.2.1.head?.getD 0<a.2.1.head?.getD 0∨(a.2.1.head?.getD 0=b.2.1.head?.getD 0∧a0W a.1 b.1≤0)
theorem c7V {x y:Ct} (h:bS x y):rT (a2n x) (a2n y):=(b5u x y).1 h
theorem c7W {x y:Rw} (h:rS x y):rT (a2m x) (a2m y):=(b0C x y).1 h
theorem b7Q {a b:RC} (h:rT a b) (k:rT b a):a.1=b.1:=by
 unfold rT at h k
 rw [a2g] at k
 rw [← a1r]
 omega
theorem b2Y:∀ {C E:List RC},C.Pairwise rT→E.Pairwise rT→C.Perm E→(C.map (·.1)).Nodup→C=E
 | [],E,_,_,hp,_=>by rw [List.nil_perm.1 hp]
 | x::C,[],_,_,hp,_=>by cases List.perm_nil.1 hp
 | x::C,y::E,hC,hE,hp,hn=>by
  rw [List.pairwise_cons] at hC hE
  rw [c8U,List.nodup_cons] at hn
  have hxy:x=y:=by
   apply Classical.byContradiction
   intro hne
   have hx:x∈E:=by
    have:x∈y::E:=hp.mem_iff.1 (by simp)
    rcases c9h.1 this with h | h
    ·exact absurd h hne
    ·exact h
   have hy:y∈C:=by
    have:y∈x::C:=hp.mem_iff.2 (by simp)
    rcases c9h.1 this with h | h
    ·exact absurd h.symm hne
    ·exact h
   have:=b7Q (hC.1 y hy) (hE.1 x hx)
   exact hn.1 (by rw [this];exact c9j.2 ⟨y,hy,rfl⟩)
  subst hxy
  rw [b2Y hC.2 hE.2 ((List.perm_cons x).1 hp) hn.2]
theorem c4H {cmp:D} (hcmp:a6s cmp cB) {o N:Nat} (hN:N≤1000000000) {g:Hp} {l:List Ct} (hl:l.length=N) (ho:g[o]?=some (.row a0d 3 (l.map ctr))) :
  ∃ d g',∃ C:List Ct,R a8d [.msl 3 o 0 N,cmp] g=some (d,g')∧C.Perm l∧C.Pairwise bS∧g'[o]?=some (.row a0d 3 (C.map ctr))∧Same o g g':=by
 obtain ⟨⟨d,g'⟩,e,C,q1,q2,q3,q4⟩:=c4I c1M hcmp hN hl (List.pairwise_of_forall fun _ _=>trivial) ho
 refine ⟨a0i [],g',C,?_,q1,q2,q3,q4⟩
 rw [b9H]
 simp only [b6z,bs,a3Z,e]
theorem c0x (d cmp:D) (h:Hp) (hd:SlOf 3 ctr [] d):∃ x,R a8d [d,cmp] h=some (x,h):=by
 have hl:a0w tab a0g d=some (.int .i64 0):=a2l hd
 have h65:∃ x,R a5j [d,.int .i64 0,.int .i64 0,cmp] h=some (x,h):=by
  rw [b9K]
  refine ⟨a0i [],?_⟩
  simp only [b6D,bs,c8N,a0p,show IntKind.wrap .i64 ((0:Int)+1)=1 from rfl]
  rw [a1e]
  simp [-bind_some, a6G]
 obtain ⟨x,h65⟩:=h65
 have h63:∃ x,R b0p [d,.int .i64 0,cmp] h=some (x,h):=by
  rw [b9J]
  refine ⟨a0i [],?_⟩
  simp only [b6C,bs,c8N]
  rw [a1e]
  have h20:¬ (20:Int)≤0:=by omega
  have h21:¬ (20:Int)<0:=by omega
  simp only [a6E,a0e,a0h,bs,a2x,h20,decide_false,a0f,c8O,if_false,a0m,a0l,h65]
  rw [a1e]
  simp only [a6F,a0e,a0h,bs,a0n,h21,decide_false,a0f,c8O,if_false,a0m,a1I]
 obtain ⟨y,h63⟩:=h63
 refine ⟨a0i [],?_⟩
 rw [b9H]
 simp only [b6z,bs,hl,h63]
theorem RdCt.keep {h h':Hp} {l:List Ct} {d:D} (hd:RdCt h l d) (hq:∀ q,q<h.length→h'[q]?=h[q]?):RdCt h' l d:=by
 rcases hd with hd | ⟨ob,tl,rfl,ho⟩
 ·exact .inl hd
 ·exact .inr ⟨ob,tl,rfl,by rw [hq ob (c9c.1 ho).1];exact ho⟩
theorem b3U (S:List Ct) (d:D) (n:Int) (h:Hp) (hd:SlOf 3 ctr S d) (hl:S.length≤100000):∃ (d1:D) (h1:Hp) (x:D) (h2:Hp) (d2:D) (C:List Ct),R a8c [d] h=some (d1,h1)∧R a8d [d1,.fn (.func a6a) [] []] h1=some (x,h2)∧R b2f [d1,.int .i64 n] h2=some (d2,h2)∧C.Perm S∧C.Pairwise bS∧RdCt h2 (C.take (a3r n S.length)) d2∧h.length≤h2.length∧∀ q,q<h.length→h2[q]?=h[q]?:=by
 obtain ⟨d1,h1,e1,hl1,hb1,hd1⟩:=c0J S d h hd (by omega)
 rcases hd1 with ⟨rfl,hd1⟩ | ⟨ob,hob,rfl,ho⟩
 ·have hd1:SlOf 3 ctr [] d1:=by
    rcases hd1 with rfl | rfl
    ·exact .nils _ _
    ·exact .inr ⟨true,rfl⟩
  obtain ⟨x,hx⟩:=c0x d1 (.fn (.func a6a) [] []) h1 hd1
  have hcut:a3r n 0=0:=by have:=a3a n 0;omega
  obtain ⟨d2,e2,hd2⟩:=b3n hd1 (k := .i64) (n:=((0:Nat):Int)) (by omega) (by simp)
  have hmin:=a7P n 0
  rw [hcut] at hmin
  refine ⟨d1,h1,x,h1,d2,[],e1,hx,?_,List.Perm.refl _,List.Pairwise.nil,.inl (by simpa using hd2),hl1,hb1⟩
  rw [b9I]
  simp only [b6A,bs,a7O,a2l hd1,c9e,hmin,e2,a0o]
 ·obtain ⟨x,h2,C,q1,q2,q3,q4,q5⟩:=c4H c1P (o:=ob) (N:=S.length) (by omega) rfl ho
  have hmin:=a7P n S.length
  have hcut:=a3a n S.length
  have hslice:a0s tab a0g false true false [.msl 3 ob 0 S.length,.int .i64 ((a3r n S.length:Nat):Int)]=some (.msl 3 ob 0 (a3r n S.length)):=a5q (T:=tab) (t:=a0g) (i:=ti1229) (j:=ti1237) (id rfl) (id rfl) (id rfl) (id rfl) (by decide) hcut
  refine ⟨_,h1,x,h2,.msl 3 ob 0 (a3r n S.length),C,e1,q1,?_,q2,q3,.inr ⟨ob,(C.drop (a3r n S.length)).map ctr,?_,?_⟩,by have:=q5.1;omega,fun q hq=>by rw [q5.2 q (by omega),hb1 q hq]⟩
  ·rw [b9I]
   simp only [b6A,bs,a7O,a3Z,hmin,hslice,a0o]
  ·rw [c9g,q2.length_eq]
   congr 1
   omega
  ·rw [q4,← c8T,List.take_append_drop]
theorem c4e (S:List Ct) (d:D) (n:Int) (h:Hp) (hd:SlOf 3 ctr S d) (hl:S.length≤100000):∃ (C:List Ct) (L:List Rw) (d':D),R a5f [d,.int .i64 n] h=some (d',h)∧C.Perm S∧C.Pairwise bS∧SlOf 3 a0x L d'∧L.map a2m=(C.take (a3r n S.length)).map a2n:=by
 obtain ⟨d1,h1,x,h2,d2,C,e1,e2,e3,hp,hs,hr,hl2,hb2⟩:=b3U S d n h hd hl
 suffices Wp (R a5f [d,.int .i64 n] h) (fun p=>p.2=h∧∃ L:List Rw,SlOf 3 a0x L p.1∧L.map a2m=(C.take (a3r n S.length)).map a2n) by
  obtain ⟨⟨y,h'⟩,f1,rfl,L,f2,f3⟩:=this
  exact ⟨C,L,y,f1,hp,hs,f2,f3⟩
 have hTl:(C.take (a3r n S.length)).length≤100000:=by rw [c9g];have:=a3a n S.length;omega
 generalize C.take (a3r n S.length)=T at hr hTl ⊢
 rw [c2w]
 simp only [b8S,e1,e2,e3,bs,a2S hr,c8N]
 refine Wp.loop (fun k ds g=>∃ d0 a b,∃ (i:Nat) (L:List Rw),ds=[d0,a,.int .i64 (i:Int),b]∧k+i=T.length∧Own g h2.length a0j 3 (L.map a0x) d0∧h2.length≤g.length∧(∀ q,q<h2.length→g[q]?=h2[q]?)∧L.map a2m=(T.take i).map a2n)
  (fun r=>r.1 = .ext 0∧∃ d0,nth 0 r.2.1=d0∧∃ L:List Rw,Own r.2.2 h2.length a0j 3 (L.map a0x) d0∧h2.length≤r.2.2.length∧(∀ q,q<h2.length→r.2.2[q]?=h2[q]?)∧L.map a2m=T.map a2n) T.length ⟨_,_,_,0,[],rfl,rfl,Own.nils _ _ _ _,Nat.le_refl _,fun _ _=>rfl,by simp⟩ ?_ ?_
 ·rintro k ds g ⟨d0,a,b,i,L,rfl,hk,ow,hlen,hq,hL⟩
  simp only [a9x,a0e,a0h,bs,c8N,a0n]
  refine Wp.dif ?_ ?_
  ·intro h0
   have h0:i<T.length:=dl_ h0
   obtain ⟨u,hu⟩:=gx_ h0
   have hw:=wi_ i (by omega)
   obtain ⟨q,q1,q2⟩:=a6k (hr.keep hq) i u hu
   obtain ⟨kd,f1,hkd⟩:=c0y u.k u.kd g u.hk u.hkl
   have hb:a0M tab a0j [0,1,2] [kd,.sl 1 true [[.int .i64 u.n]],.int .i64 u.e]=some (.agg [kd,.sl 1 true [[.int .i64 u.n]],.int .i64 u.e]):=a4p _ _ _ (a1L hkd) rfl
   have hlit:a0A tab a0r 1 [0] [.agg [kd,.sl 1 true [[.int .i64 u.n]],.int .i64 u.e]]=some (.sl 3 true [[kd,.sl 1 true [[.int .i64 u.n]],.int .i64 u.e]]):=a6O _ _ _
   have hLl:L.length≤i:=by
    have h4:=congrArg List.length hL
    simp at h4;omega
   have hn1:SlOf 1 inr [u.n] (.sl 1 true [[.int .i64 u.n]]) := .inr ⟨true,rfl⟩
   simp only [q1,q2,bs,a9V,b5w,b5x,f1,b4k,b3A,b5v,c0Z,c1a,hb,hlit]
   refine a5v (n0:=h2.length) hlen ow (a1o _ _ _ _) (by simp only [c8S,c9d,c9e];omega) fun x3 g3 o3 l3 b3 _ _=>?_
   have hr2:L.map a0x++[[kd,.sl 1 true [[.int .i64 u.n]],.int .i64 u.e]]=(L++[(⟨u.k,kd,hkd,u.hkl,[u.n],_,hn1,by simp,u.e⟩:Rw)]).map a0x:=by simp [-bind_some, a0x]
   rw [hr2] at o3
   simp only [a1j,bs,a0p,hw]
   refine .some (.inl ⟨rfl,k - 1,by omega,_,_,_,i+1,_,rfl,by omega,o3,by show h2.length≤g3.length;omega,fun q hq'=>by rw [b3 q hq'];exact hq q hq',?_⟩)
   rw [c8T,hL,c8Y,hu]
   simp [-bind_some, a2m,a2n]
  ·intro h0
   have h0:T.length≤i:=by
    have:¬ (i:Int)<T.length:=by simpa using h0
    omega
   rw [List.take_of_length_le h0] at hL
   exact .some (.inr ⟨by simp,rfl,_,rfl,L,ow,hlen,hq,hL⟩)
 ·rintro ⟨ex,ds,g⟩ ⟨rfl,d0,hd0,L,ow,hlen,hq,hL⟩
  replace hd0:nth 0 ds=d0:=hd0
  simp only at ow hlen hq
  simp only [a0m,a0l,bs,a0e,hd0,a0o]
  have hs:=a2y (n0:=h.length) (n:=3) ow hl2 fun p _=>a7p _ _ _ p
  have hsc:scope h g d0=some (frz h.length g 4 d0,h):=a1f rfl (a1u hs fun p _=>a9i _ p) (by omega) fun q hq'=>by rw [hq q (by omega),hb2 q hq']
  rw [hsc]
  exact .some ⟨rfl,L,hs,hL⟩
theorem c4i (S:List Ct) (d:D) (n:Int) (h:Hp) (hd:SlOf 3 ctr S d) (hl:S.length≤100000):∃ (E L:List Rw) (d':D),R a5Z [d,.int .i64 n] h=some (d',h)∧E.Perm L∧E.Pairwise rS∧L.map a2m=S.map a2n∧SlOf 3 a0x (E.take (a3r n S.length)) d':=by
 suffices Wp (R a5Z [d,.int .i64 n] h) (fun p=>p.2=h∧∃ E L:List Rw,E.Perm L∧E.Pairwise rS∧L.map a2m=S.map a2n∧SlOf 3 a0x (E.take (a3r n S.length)) p.1) by
  obtain ⟨⟨y,h'⟩,f1,rfl,E,L,f2⟩:=this
  exact ⟨E,L,y,f1,f2⟩
 rw [c2D]
 simp only [b8Z,bs,c8N]
 refine Wp.loop (fun k ds g=>∃ d0 c,∃ (i:Nat) (L:List Rw),ds=[d0,.int .i64 (i:Int),c]∧k+i=S.length∧Own g h.length a0j 3 (L.map a0x) d0∧h.length≤g.length∧(∀ q,q<h.length→g[q]?=h[q]?)∧L.map a2m=(S.take i).map a2n)
  (fun r=>r.1 = .ext 0∧∃ d0,nth 0 r.2.1=d0∧∃ L:List Rw,Own r.2.2 h.length a0j 3 (L.map a0x) d0∧h.length≤r.2.2.length∧(∀ q,q<h.length→r.2.2[q]?=h[q]?)∧L.map a2m=S.map a2n) S.length ⟨_,_,0,[],rfl,rfl,Own.nils _ _ _ _,Nat.le_refl _,fun _ _=>rfl,by simp⟩ ?_ ?_
 ·rintro k ds g ⟨d0,c,i,L,rfl,hk,ow,hlen,hq,hL⟩
  simp only [a9D,a0e,a0h,bs,c8N,a2l hd,a0n]
  refine Wp.dif ?_ ?_
  ·intro h0
   have h0:i<S.length:=dl_ h0
   obtain ⟨u,hu⟩:=gx_ h0
   have hw:=wi_ i (by omega)
   have uix:a0a tab a0g d (.int .i64 (i:Int))=some (.fptr (ctr u)):=by rw [a3B hd];simp [-bind_some, hu]
   have hukl:=u.hkl
   simp only [uix,b5w,b5x,bs]
   refine b5k (n0:=g.length) (rows:=[]) (Nat.le_refl _) (.nils _ _ _ _) (a1v _ u.hk) (by simp only [c8S,c9e];omega) fun x1 g1 o1 l1 b1 _ _=>?_
   rw [List.nil_append] at o1
   obtain ⟨s1,m1,c1⟩:=b6I (f:=fun s=>[D.str s]) o1 fun a _ n0 h d hd=>by simp at hd;subst hd;exact a3A _ _ _ _
   generalize b3z (x1,g1)=p1 at s1 m1 c1 ⊢
   obtain ⟨x1,g1'⟩:=p1
   simp only at s1 m1 c1 ⊢
   have k1:∀ q,q<g.length→g1'[q]?=g[q]?:=fun q hq'=>by rw [c1 q hq',b1 q hq']
   have hn1:SlOf 1 inr [u.n] (.sl 1 true [[.int .i64 u.n]]) := .inr ⟨true,rfl⟩
   have hb:a0M tab a0j [0,1,2] [x1,.sl 1 true [[.int .i64 u.n]],.int .i64 u.e]=some (.agg [x1,.sl 1 true [[.int .i64 u.n]],.int .i64 u.e]):=a4p _ _ _ (a1L s1) rfl
   have hlit:a0A tab a0r 1 [0] [.agg [x1,.sl 1 true [[.int .i64 u.n]],.int .i64 u.e]]=some (.sl 3 true [[x1,.sl 1 true [[.int .i64 u.n]],.int .i64 u.e]]):=a6O _ _ _
   have ow2:Own g1' h.length a0j 3 (L.map a0x) d0:=ow.keep fun q hq' hx=>k1 q (ow.lt hx).2
   have hLl:L.length≤i:=by
    have h4:=congrArg List.length hL
    simp at h4;omega
   try simp only [b4k,b3A,c0Z,c1a,b5v,hb,hlit,bs,c8N]
   refine a5v (n0:=h.length) (by omega) ow2 (a1o _ _ _ _) (by simp only [c8S,c9d,c9e];omega) fun x3 g3 o3 l3 b3 _ _=>?_
   have hr2:L.map a0x++[[x1,.sl 1 true [[.int .i64 u.n]],.int .i64 u.e]]=(L++[(⟨u.k,x1,s1,u.hkl,[u.n],_,hn1,by simp,u.e⟩:Rw)]).map a0x:=by simp [-bind_some, a0x]
   rw [hr2] at o3
   simp only [a1j,bs,a0p,hw]
   refine .some (.inl ⟨rfl,k - 1,by omega,_,_,i+1,_,rfl,by omega,o3,by show h.length≤g3.length;omega,fun q hq'=>by rw [b3 q hq',k1 q (by omega)];exact hq q hq',?_⟩)
   rw [c8T,hL,c8Y,hu]
   simp [-bind_some, a2m,a2n]
  ·intro h0
   have h0:S.length≤i:=by
    have:¬ (i:Int)<S.length:=by simpa using h0
    omega
   rw [List.take_of_length_le h0] at hL
   exact .some (.inr ⟨by simp,rfl,_,rfl,L,ow,hlen,hq,hL⟩)
 ·rintro ⟨ex,ds,g⟩ ⟨rfl,d0,hd0,L,ow,hlen,hq,hL⟩
  replace hd0:nth 0 ds=d0:=hd0
  simp only at ow hlen hq
  have hLl:L.length=S.length:=by
   have h4:=congrArg List.length hL
   simpa using h4
  have hnn:∀ r∈L,r.n≠[]:=fun r hr hh=>by
   have:a2m r∈S.map a2n:=by rw [← hL];exact c9j.2 ⟨r,hr,rfl⟩
   obtain ⟨c,_,hc⟩:=c9j.1 this
   simp [-bind_some, a2n,a2m,hh] at hc
  obtain ⟨E,d',f1,p1,p2,p3⟩:=c3U L d0 n g (RdR.own ow) (by omega) hnn
  rw [hLl] at p3
  have hfz:frz h.length g 4 d'=d':=a2V p3 fun p _=>a7p _ _ _ p
  simp only [a0m,a0l,bs,a0e,hd0,f1,a0o]
  rw [a1f hfz (a1u p3 fun p _=>a9i _ p) hlen hq]
  exact .some ⟨rfl,E,L,p1,p2,hL,p3⟩
theorem c2U {l:List Ev} (h:a2Z l):EvW l:=fun e he=>by
 obtain ⟨h1,h2,h3,_⟩:=h.1 e he
 obtain ⟨_,_,h5,h6,_,_,h4,_⟩:=h1.ev rfl
 have h5:1≤e.a6:=h5
 exact ⟨by omega,by omega,h4,by omega,h6⟩
theorem b1r {S C:List Ct} {E L:List Rw} {n:Int} (asc:CAsc (S.map ctc)) (c1:C.Perm S) (c2:C.Pairwise bS) (e1:E.Perm L) (e2:E.Pairwise rS) (hL:L.map a2m=S.map a2n):(C.take (a3r n S.length)).map a2n=(E.take (a3r n S.length)).map a2m:=by
 have h1:(C.map a2n).Pairwise rT:=List.pairwise_map.2 (c2.imp fun {a b} h=>c7V h)
 have h2:(E.map a2m).Pairwise rT:=List.pairwise_map.2 (e2.imp fun {a b} h=>c7W h)
 have h3:(C.map a2n).Perm (E.map a2m):=(c1.map a2n).trans (hL▸(e1.map a2m).symm)
 have h4:((S.map a2n).map (·.1)).Nodup:=by
  have:(S.map a2n).map (·.1)=(S.map ctc).map (·.1):=by simp only [List.map_map];rfl
  rw [this]
  refine List.pairwise_map.2 (asc.imp fun {a b} hab he=>?_)
  rw [he,a2q] at hab
  omega
 have h5:((C.map a2n).map (·.1)).Nodup:=(((c1.map a2n).map (·.1)).nodup_iff).2 h4
 rw [List.map_take,List.map_take,b2Y h1 h2 h3 h5]
theorem b7v (zs:List Int) (d:D) (n:Int) (hd:a3M .u8 zs d) (hz:∀ z∈zs,0≤z∧z<256):∃ h',R1 b2e [d,.int .i64 n] []=some (.bool true,h'):=by
 suffices Wp (R1 b2e [d,.int .i64 n] []) (fun p=>p.1 = .bool true) by
  obtain ⟨⟨x,h'⟩,h1,rfl⟩:=this
  exact ⟨h',h1⟩
 rw [c2v]
 simp only [b8R,bs,b7G,c3Q,a2M,c8W,a0f,c8O,if_false,c8N]
 obtain ⟨ns,l,dn,dl,sz,o,g0,e0,c0,C,hl,hok,hll,hs1,hs5⟩:=c3R zs d [] hd hz
 have hev:=c2U hok
 simp only [b7H,e0,bs,a1q,c8P,c8Q,c8N]
 have hL:∀ (e:Ev) g,a0c tab g a0P (.fptr (evr e))=some (.agg (evr e)):=fun e g=>id rfl
 have hF:∀ (e:Ev),a0b tab a0P 6 (.fptr (evr e))=some (.fptr [.int .i64 e.a6,.str e.s7,.str e.s8,e.fd]):=fun e=>id rfl
 have hW:∀ (e:Ev) g,a0c tab g ty3 (.fptr [.int .i64 e.a6,.str e.s7,.str e.s8,e.fd])=some (.int .i64 e.a6):=fun e g=>id rfl
 refine Wp.loop (fun k ds g=>g=g0∧∃ a x y b c e,∃ i:Nat,∃ S T:List Ct,ds=[a,x,y,.int .i64 (i:Int),b,c,e]∧k+i=l.length∧SlOf 3 ctr S x∧SlOf 3 ctr T y∧S.map ctc=skO sz (obE ns (l.take i))∧T.map ctc=skO sz (obE ns (l.take i)))
  (fun r=>r.1 = .ext 0∧r.2.2=g0∧∃ y,nth 2 r.2.1=y∧∃ T:List Ct,SlOf 3 ctr T y∧T.map ctc=skO sz (obE ns l)) l.length ⟨rfl,_,_,_,_,_,_,0,[],[],rfl,rfl,.nils _ _,.nils _ _,rfl,rfl⟩ ?_ ?_
 ·rintro k ds g ⟨rfl,a,x,y,b,c,e,i,S,T,rfl,hk,hS,hT,hcS,hcT⟩
  simp only [a9w,a0e,a0h,bs,c8N,b2w hl,a0n]
  refine Wp.dif ?_ ?_
  ·intro h0
   have h0:i<l.length:=by
    have:(i:Int)<(l.length:Int):=by simpa using h0
    omega
   have hw:=wi_ i (by omega)
   obtain ⟨u,hu⟩:=gx_ h0
   have hem:=hev u (c9a hu)
   obtain ⟨kd,e1,hkd⟩:=c4b ns dn u g C.hd C.hl hem.1 hem.2.1 C.hn
   have hkl:(a4f ns u).length≤1000000:=by unfold a4f;rw [c8S];have:=C.hl;omega
   have hwp:WOK (obE ns (l.take i)):=EvW.wok (fun x hx=>hev x (List.mem_of_mem_take hx)) ns
   have hlp:(obE ns (l.take i)).length≤1000:=by unfold obE;rw [c8S,c9g];omega
   obtain ⟨f1,f2,f3,f4,f5⟩:=b0H hs1 hwp hlp
   have hwr:∀ (U:List Ct),U.map ctc=skO sz (obE ns (l.take i))→∀ c∈U,IntKind.wrap .i64 (c.n+u.a6)=c.n+u.a6:=fun U hU c hcm=>by
    have:=f2 (ctc c) (by rw [← hU];exact c9j.2 ⟨c,hcm,rfl⟩)
    have h3:(ctc c).2.1=c.n:=rfl
    rw [h3] at this
    exact wrap_i64 (by omega) (by omega)
   have hSl:S.length≤100000:=by have:=congrArg List.length hcS;rw [c8S] at this;omega
   have hTl:T.length≤100000:=by have:=congrArg List.length hcT;rw [c8S] at this;omega
   obtain ⟨S',x',e2,hS',hc'⟩:=c0v S x sz (a4f ns u) kd u.a6 g hS hkd hkl hSl (hcS▸f1) hs1 (hwr S hcS)
   obtain ⟨T',y',e3,hT',hd'⟩:=c4f T y sz (a4f ns u) kd u.a6 g hT hkd hkl hTl (hcT▸f1) hs1 (hwr T hcT)
   have hob:obE ns (l.take (i+1))=obE ns (l.take i)++[(a4f ns u,u.a6)]:=by
    unfold obE
    rw [c8Y,hu,c8T];rfl
   rw [hcS,← a7t sz _ (a4f ns u,u.a6),← hob] at hc'
   rw [hcT,← a7t sz _ (a4f ns u,u.a6),← hob] at hd'
   have hSl':S'.length≤1000000:=by
    have hwp2:WOK (obE ns (l.take (i+1))):=EvW.wok (fun x hx=>hev x (List.mem_of_mem_take hx)) ns
    have hlp2:(obE ns (l.take (i+1))).length≤1000:=by unfold obE;rw [c8S,c9g];omega
    have:=(b0H hs1 hwp2 hlp2).2.2.2.2
    have h4:=congrArg List.length hc'
    rw [c8S] at h4;omega
   have hsame:=c0w S' T' x' y' g hS' hT' (hc'.trans hd'.symm) hSl'
   simp only [b4K hl,Int.natCast_nonneg,if_true,c8V,hu,Option.map_some,bs,hL,b7J,e1,hF,hW,b2V,e2,a1j,b7L,e3,b2W,hsame,a2M,c8W,a0f,c8O,if_false,a0p,hw]
   exact .some (.inl ⟨rfl,k - 1,by omega,rfl,_,_,_,_,_,_,i+1,S',T',rfl,by omega,hS',hT',hc',hd'⟩)
  ·intro h0
   have h0:i=l.length:=by
    have:¬ (i:Int)<(l.length:Int):=by simpa using h0
    omega
   subst h0
   rw [c9k] at hcT
   exact .some (.inr ⟨by simp,rfl,rfl,y,rfl,T,hT,hcT⟩)
 ·rintro ⟨ex,ds,g⟩ ⟨rfl,rfl,y,hy,T,hT,hcT⟩
  simp only at hy
  have hwp:WOK (obE ns l):=hev.wok ns
  have hlp:(obE ns l).length≤1000:=by unfold obE;rw [c8S];omega
  obtain ⟨f1,f2,f3,f4,f5⟩:=b0H hs1 hwp hlp
  have hTl:T.length≤100000:=by have:=congrArg List.length hcT;rw [c8S] at this;omega
  obtain ⟨S,x,e1,hS,hcS⟩:=c4R C l dl sz g hl (by omega) hev hs1 (by omega)
  have hSl:S.length≤1000000:=by have:=congrArg List.length (hcS.trans hcT.symm);simp only [c8S] at this;omega
  have e2:=c0w S T x y g hS hT (hcS.trans hcT.symm) hSl
  have hn:∀ c∈T.map ctc,0≤c.2.1:=by rw [hcT];exact fun c hc=>(f2 c hc).1
  have hsum:a2v (T.map ctc)≤1000000000000:=by rw [hcT];omega
  have e3:=c4g T y g hT hn hsum (by omega)
  have e4:=c4h T y g hT hn hsum (by omega)
  obtain ⟨Cs,L1,d1,e5,p1,p2,p3,p4⟩:=c4e T y n g hT hTl
  obtain ⟨E,L2,d2,e6,q1,q2,q3,q4⟩:=c4i T y n g hT hTl
  have hrc:=b1r (n:=n) (by rw [hcT];exact f1) p1 p2 q1 q2 q3
  have hL1:L1.length≤1000000:=by
   have:=congrArg List.length p4
   have h4:=a3a n T.length
   rw [c8S,c8S,c9g] at this
   omega
  have e7:=c3S L1 (E.take (a3r n T.length)) d1 d2 g p3 q4 (p4.trans hrc) hL1
  simp only [a0m,a0l,bs,a0e,a0h,hy,e1,b2W,e2,a0N,a1d,if_true,b7M,e3,b7N,e4,a0S,decide_true,a0B,b7K,e5,b7O,e6,b7I,e7,a0o]
  exact .some rfl
end Go.Proofs.YtehgglgadbmecaaGreatDoor

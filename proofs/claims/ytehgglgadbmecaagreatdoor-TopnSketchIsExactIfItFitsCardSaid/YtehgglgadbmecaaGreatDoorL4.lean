/- Laws, on plain data, about functions that the statement reaches. -/
import Derived.Test.YtehgglgadbmecaaGreatDoorL3
set_option linter.unusedSimpArgs false
set_option linter.unusedVariables false
set_option linter.unnecessarySimpa false
set_option maxRecDepth 100000
namespace Go.Proofs.YtehgglgadbmecaaGreatDoor
open Go.Eng Go.Pi
open Option (bind_some)
theorem b4p (S:List Ct) (d:D) (n:Int) (h:Hp) (hd:SlOf 3 ctr S d) (hl:S.length≤100000):∃ (d1:D) (h1:Hp) (x:D) (h2:Hp) (d2:D) (C:List Ct),R a7R [d] h=some (d1,h1)∧R a7S [d1,.fn (.func a5N) [] []] h1=some (x,h2)∧R b2w [d1,.int .i64 n] h2=some (d2,h2)∧C.Perm S∧C.Pairwise bS∧RdCt h2 (C.take (a4z n S.length)) d2∧h.length≤h2.length∧∀ q,q<h.length→h2[q]?=h[q]?:=by
 obtain ⟨d1,h1,e1,hl1,hb1,hd1⟩:=c1l S d h hd (by omega)
 rcases hd1 with ⟨rfl,hd1⟩ | ⟨ob,hob,rfl,ho⟩
 ·have hd1:SlOf 3 ctr [] d1:=by
    rcases hd1 with rfl | rfl
    ·exact .nils _ _
    ·exact .inr ⟨true,rfl⟩
  obtain ⟨x,hx⟩:=c1b d1 (.fn (.func a5N) [] []) h1 hd1
  have hcut:a4z n 0=0:=by have:=a4c n 0;omega
  obtain ⟨d2,e2,hd2⟩:=b8i hd1 (k := .i64) (n:=((0:Nat):Int)) (by omega) (by simp)
  have hmin:=a9T n 0
  rw [hcut] at hmin
  refine ⟨d1,h1,x,h1,d2,[],e1,hx,?_,List.Perm.refl _,List.Pairwise.nil,.inl (by simpa using hd2),hl1,hb1⟩
  rw [c0p]
  simp only [b6L,bs,a9S,a6V hd1,c9Z,hmin,e2,a0r]
 ·obtain ⟨x,h2,C,q1,q2,q3,q4,q5⟩:=c5r c2o (o:=ob) (N:=S.length) (by omega) rfl ho
  have hmin:=a9T n S.length
  have hcut:=a4c n S.length
  have hslice:a0y tab a0h false true false [.msl 3 ob 0 S.length,.int .i64 ((a4z n S.length:Nat):Int)]=some (.msl 3 ob 0 (a4z n S.length)):=b3h (T:=tab) (t:=a0h) (i:=ti1229) (j:=ti1237) (id rfl) (id rfl) (id rfl) (id rfl) (by decide) hcut
  refine ⟨_,h1,x,h2,.msl 3 ob 0 (a4z n S.length),C,e1,q1,?_,q2,q3,.inr ⟨ob,(C.drop (a4z n S.length)).map ctr,?_,?_⟩,by have:=q5.1;omega,fun q hq=>by rw [q5.2 q (by omega),hb1 q hq]⟩
  ·rw [c0p]
   simp only [b6L,bs,a9S,a3V,hmin,hslice,a0r]
  ·rw [d0b,q2.length_eq]
   congr 1
   omega
  ·rw [q4,← c9O,List.take_append_drop]
theorem c4S (S:List Ct) (d:D) (n:Int) (h:Hp) (hd:SlOf 3 ctr S d) (hl:S.length≤100000):∃ (C:List Ct) (L:List Rw) (d':D),R a5b [d,.int .i64 n] h=some (d',h)∧C.Perm S∧C.Pairwise bS∧SlOf 3 a0C L d'∧L.map a2n=(C.take (a4z n S.length)).map a2U:=by
 obtain ⟨d1,h1,x,h2,d2,C,e1,e2,e3,hp,hs,hr,hl2,hb2⟩:=b4p S d n h hd hl
 suffices Wp (R a5b [d,.int .i64 n] h) (fun p=>p.2=h∧∃ L:List Rw,SlOf 3 a0C L p.1∧L.map a2n=(C.take (a4z n S.length)).map a2U) by
  obtain ⟨⟨y,h'⟩,f1,rfl,L,f2,f3⟩:=this
  exact ⟨C,L,y,f1,hp,hs,f2,f3⟩
 have hTl:(C.take (a4z n S.length)).length≤100000:=by rw [d0b];have:=a4c n S.length;omega
 generalize C.take (a4z n S.length)=T at hr hTl ⊢
 rw [c3e]
 simp only [b9w,e1,e2,e3,bs,a4k hr,c9H]
 refine Wp.loop (fun k ds g=>∃ d0 a b,∃ (i:Nat) (L:List Rw),ds=[d0,a,.int .i64 (i:Int),b]∧k+i=T.length∧Own g h2.length a0k 3 (L.map a0C) d0∧h2.length≤g.length∧(∀ q,q<h2.length→g[q]?=h2[q]?)∧L.map a2n=(T.take i).map a2U)
  (fun r=>r.1 = .ext 0∧∃ d0,nth 0 r.2.1=d0∧∃ L:List Rw,Own r.2.2 h2.length a0k 3 (L.map a0C) d0∧h2.length≤r.2.2.length∧(∀ q,q<h2.length→r.2.2[q]?=h2[q]?)∧L.map a2n=T.map a2U) T.length ⟨_,_,_,0,[],rfl,rfl,Own.nils _ _ _ _,Nat.le_refl _,fun _ _=>rfl,by simp⟩ ?_ ?_
 ·rintro k ds g ⟨d0,a,b,i,L,rfl,hk,ow,hlen,hq,hL⟩
  simp only [a9r,a0e,a0g,bs,c9H,a0n]
  refine Wp.dif ?_ ?_
  ·intro h0
   have h0:i<T.length:=dl_ h0
   obtain ⟨u,hu⟩:=gx_ h0
   have hw:=wi_ i (by omega)
   obtain ⟨q,q1,q2⟩:=a5V (hr.keep hq) i u hu
   obtain ⟨kd,f1,hkd⟩:=c1c u.k u.kd g u.hk u.hkl
   have hb:a0P tab a0k [0,1,2] [kd,.sl 1 true [[.int .i64 u.n]],.int .i64 u.e]=some (.agg [kd,.sl 1 true [[.int .i64 u.n]],.int .i64 u.e]):=a7r _ _ _ (a0T hkd) rfl
   have hlit:a0A tab a0t 1 [0] [.agg [kd,.sl 1 true [[.int .i64 u.n]],.int .i64 u.e]]=some (.sl 3 true [[kd,.sl 1 true [[.int .i64 u.n]],.int .i64 u.e]]):=a9F _ _ _
   have hLl:L.length≤i:=by
    have h4:=congrArg List.length hL
    simp at h4;omega
   have hn1:SlOf 1 inr [u.n] (.sl 1 true [[.int .i64 u.n]]) := .inr ⟨true,rfl⟩
   simp only [q1,q2,bs,b1T,c0c,c0d,f1,c1B,c0e,b1H,c6l,c6m,hb,hlit]
   refine b3T (n0:=h2.length) hlen ow (a1e _ _ _ _) (by simp only [c9N,c9Y,c9Z];omega) fun x3 g3 o3 l3 b3 _ _=>?_
   have hr2:L.map a0C++[[kd,.sl 1 true [[.int .i64 u.n]],.int .i64 u.e]]=(L++[(⟨u.k,kd,hkd,u.hkl,[u.n],_,hn1,by simp,u.e⟩:Rw)]).map a0C:=by simp [-bind_some, a0C]
   rw [hr2] at o3
   simp only [a1l,bs,a0q,hw]
   refine .some (.inl ⟨rfl,k - 1,by omega,_,_,_,i+1,_,rfl,by omega,o3,by show h2.length≤g3.length;omega,fun q hq'=>by rw [b3 q hq'];exact hq q hq',?_⟩)
   rw [c9O,hL,c9T,hu]
   simp [-bind_some, a2n,a2U]
  ·intro h0
   have h0:T.length≤i:=by
    have:¬ (i:Int)<T.length:=by simpa using h0
    omega
   rw [List.take_of_length_le h0] at hL
   exact .some (.inr ⟨by simp,rfl,_,rfl,L,ow,hlen,hq,hL⟩)
 ·rintro ⟨ex,ds,g⟩ ⟨rfl,d0,hd0,L,ow,hlen,hq,hL⟩
  replace hd0:nth 0 ds=d0:=hd0
  simp only at ow hlen hq
  simp only [a0m,a0l,bs,a0e,hd0,a0r]
  have hs:=a2f (n0:=h.length) (n:=3) ow hl2 fun p _=>a7d _ _ _ p
  have hsc:scope h g d0=some (frz h.length g 4 d0,h):=a1s rfl (a1j hs fun p _=>a8X _ p) (by omega) fun q hq'=>by rw [hq q (by omega),hb2 q hq']
  rw [hsc]
  exact .some ⟨rfl,L,hs,hL⟩
theorem c3w {l:List Ev} (h:a2T l):EvW l:=fun e he=>by
 obtain ⟨h1,h2,h3,_⟩:=h.1 e he
 obtain ⟨_,_,h5,h6,_,_,h4,_⟩:=h1.ev rfl
 have h5:1≤e.a6:=h5
 exact ⟨by omega,by omega,h4,by omega,h6⟩
theorem b1E {S C:List Ct} {E L:List Rw} {n:Int} (asc:CAsc (S.map ctc)) (c1:C.Perm S) (c2:C.Pairwise bS) (e1:E.Perm L) (e2:E.Pairwise rS) (hL:L.map a2n=S.map a2U):(C.take (a4z n S.length)).map a2U=(E.take (a4z n S.length)).map a2n:=by
 have h1:(C.map a2U).Pairwise rT:=List.pairwise_map.2 (c2.imp fun {a b} h=>c8O h)
 have h2:(E.map a2n).Pairwise rT:=List.pairwise_map.2 (e2.imp fun {a b} h=>c8P h)
 have h3:(C.map a2U).Perm (E.map a2n):=(c1.map a2U).trans (hL▸(e1.map a2n).symm)
 have h4:((S.map a2U).map (·.1)).Nodup:=by
  have:(S.map a2U).map (·.1)=(S.map ctc).map (·.1):=by simp only [List.map_map];rfl
  rw [this]
  refine List.pairwise_map.2 (asc.imp fun {a b} hab he=>?_)
  rw [he,a1R] at hab
  omega
 have h5:((C.map a2U).map (·.1)).Nodup:=(((c1.map a2U).map (·.1)).nodup_iff).2 h4
 rw [List.map_take,List.map_take,b3u h1 h2 h3 h5]
theorem c0h (m:Nat):b4K (.int .i64 1) (.int .i64 (m:Int))=some (.int .i64 ((max 1 m:Nat):Int)):=by
 show some (D.int .i64 (if (m:Int)>1 then (m:Int) else 1))=_
 congr 2
 split <;> omega
theorem b7J (zs:List Int) (d:D) (x n:Int) (hd:a3J .u8 zs d) (hz:∀ z∈zs,0≤z∧z<256) (hx0:0≤x) (hx9:x<256) (hn0:0≤n) (hn9:n<256):∃ h',R1 b2v [d,.int .u8 x,.int .u8 n] []=some (.bool true,h'):=by
 suffices Wp (R1 b2v [d,.int .u8 x,.int .u8 n] []) (fun p=>p.1 = .bool true) by
  obtain ⟨⟨x,h'⟩,h1,rfl⟩:=this
  exact ⟨h',h1⟩
 rw [c3d]
 simp only [b9v,bs,b7X,c4y,a2X,c9R,a0f,c9I,if_false,c9H]
 obtain ⟨ns,l,dn,dl,sz,o,g0,e0,c0,C,hl,hok,hll,_,_⟩:=c4z zs d [] hd hz
 have hev:=c3w hok
 simp only [b7Y,e0,bs,a1c,c9K,c9L,c9H]
 obtain ⟨M,dM,e1,m1,m2,m3⟩:=c4A C l dl g0 hl (by omega) (b4W hok)
 obtain ⟨k,hk,k0,k7⟩:∃ k:Int,x.tmod 20=k∧0≤k∧k≤19:=⟨_,rfl,by rw [Int.tmod_eq_emod_of_nonneg hx0];omega,by rw [Int.tmod_eq_emod_of_nonneg hx0];omega⟩
 have wx:IntKind.wrap .i64 x=x:=wrap_i64 (by omega) (by omega)
 have wn:IntKind.wrap .i64 n=n:=wrap_i64 (by omega) (by omega)
 have ws:IntKind.wrap .i64 (((max 1 M.length:Nat):Int)+k)=((max 1 M.length:Nat):Int)+k:=wrap_i64 (by omega) (by omega)
 obtain ⟨size,hsz⟩:∃ size:Int,size=((max 1 M.length:Nat):Int)+k:=⟨_,rfl⟩
 rw [← hsz] at ws
 have hs1:1≤size:=by omega
 obtain ⟨S,dS,e2,hS,hcS⟩:=c5C C l dl size g0 hl (by omega) hev hs1 (by omega)
 have hwp:WOK (obE ns l):=hev.wok ns
 have hlp:(obE ns l).length≤1000:=by unfold obE;rw [c9N];omega
 obtain ⟨f1,f2,f3,f4,f5⟩:=b6z hs1 hwp hlp
 have hMl:M.length=(a7w (obE ns l)).length:=by
  have:=congrArg List.length m2
  rw [b5T] at this
  simpa using this
 have hex:=b3I (obE ns l) hwp (by omega) (size:=size) (by omega)
 have hL:M.map a2n=S.map a2U:=by
  have h1:S.map a2U=(S.map ctc).map fun c=>(c.1,[c.2.1],c.2.2):=by rw [List.map_map];rfl
  rw [m2,h1,hcS,hex,b5T,List.map_map]
  rfl
 have hSM:S.length=M.length:=by
  have:=congrArg List.length hL
  simpa using this.symm
 obtain ⟨Cs,L1,d1,e5,p1,p2,p3,p4⟩:=c4S S dS n g0 hS (by omega)
 obtain ⟨E,d2,e6,q1,q2,q4⟩:=c0Y M dM n g0 (.inl m1) (by omega)
 have hrc:=b1E (n:=n) (by rw [hcS];exact f1) p1 p2 q1 q2 hL
 rw [hSM] at hrc p4
 have hL1:L1.length≤1000000:=by
  have:=congrArg List.length p4
  have h4:=a4c n M.length
  rw [c9N,c9N,d0b] at this
  omega
 have e7:=c4B L1 (E.take (a4z n M.length)) d1 d2 g0 p3 q4 (p4.trans hrc) hL1
 simp only [b7Z,e1,bs,a2L m1,c0h,c2u,wx,a9O,show ¬ (20:Int)=0 by omega,if_false,hk,a0q,← hsz,ws,e2,wn,b8c,e5,b8b,e6,b8a,e7,a0r]
 exact .some rfl
theorem a6M {α:Type} {l:List α} {a b:Nat} {x:α} (h:x∈(l.take b).drop a):∃ j,a≤j∧j<b∧l[j]?=some x:=by
 obtain ⟨i,hi⟩:=List.mem_iff_getElem?.1 h
 rw [List.getElem?_drop,List.getElem?_take] at hi
 split at hi
 ·exact ⟨a+i,by omega,by assumption,hi⟩
 ·cases hi
end Go.Proofs.YtehgglgadbmecaaGreatDoor

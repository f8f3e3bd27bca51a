/- Laws, on plain data, about functions that the statement reaches. -/
import Derived.Test.YthaajlepgblimaaGreatDoorL5
set_option linter.unusedSimpArgs false
set_option linter.unusedVariables false
set_option linter.unnecessarySimpa false
set_option maxRecDepth 100000
namespace Go.Proofs.YthaajlepgblimaaGreatDoor
open Go.Eng Go.Pi
open Option (bind_some)
theorem d6v (Bs:List Bat) (hB:∀ b∈Bs,BatOK 1 b) (S:List (Int × Int)) (hS15:S.length≤15) (hS:∀ b∈Bs,∀ i∈b.its,(i.e.a1,i.e.a3)∈S) (h24:Bs.length≤24) {s0:List Mrk × List Tal} {es0:List Ev} (hacc:Acc Bs Bs.length s0 es0)
  (dj:D) (h:Hp) (hj:SlOf 1 byr (a4u (Bs.map a5p)) dj) (hjl:(a4u (Bs.map a5p)).length≤3000000) :
  ∃ dm dt de,∃ E:List Ev,R b4I [.agg [.nils,.nils],dj] h=some (.tup [.agg [dm,dt],de,.int .i64 (a4u (Bs.map a5p)).length],h)∧SlOf 3 a1K s0.1 dm∧SlOf 3 a1F s0.2 dt∧SlOf 10 evr E de∧E.length=es0.length∧E.length≤15∧E.Pairwise fun x y=>a2S x y=true:=by
 suffices Wp (R b4I [.agg [.nils,.nils],dj] h) (fun p=>p.2=h∧∃ dm dt de,∃ E:List Ev,p.1 = .tup [.agg [dm,dt],de,.int .i64 (a4u (Bs.map a5p)).length]∧SlOf 3 a1K s0.1 dm∧SlOf 3 a1F s0.2 dt∧SlOf 10 evr E de∧E.length=es0.length∧E.length≤15∧E.Pairwise fun x y=>a2S x y=true) by
  obtain ⟨⟨x,h'⟩,h1,rfl,dm,dt,de,E,rfl,h2⟩:=this
  exact ⟨dm,dt,de,E,h1,h2⟩
 have hpay:∀ p∈Bs.map a5p,b0A p:=fun p hp=>by
  obtain ⟨b,hb,rfl⟩:=e0F.1 hp
  have:=a5T (hB b hb)
  exact ⟨by omega,by omega,b6m b⟩
 have k2:∀ (g:Hp) (a b:D),a0c tab g a0n (.fptr [a,b])=some (.agg [a,b]):=fun g a b=>id rfl
 rw [d2M]
 simp only [c7q,bs,e0h]
 rw [a3l a0n 2 h [.nils,.nils] rfl (by omega)]
 have a0:(a0C h a0n 2 [[.nils,.nils]])[h.length]?=some (.row a0n 2 [[.nils,.nils]]):=a0Z _ _ _ _
 have l0:(a0C h a0n 2 [[.nils,.nils]]).length=h.length+1:=by simp [-bind_some, a0C]
 have k0:∀ q,q<h.length→(a0C h a0n 2 [[.nils,.nils]])[q]?=h[q]?:=fun q hq=>a0H _ _ _ _ hq
 simp only [bs,l0]
 have hP2:((D.ptr h.length 0 0,a0C h a0n 2 [[.nils,.nils]]):D × Hp).1 = .ptr h.length 0 0:=rfl
 generalize ((D.ptr h.length 0 0,a0C h a0n 2 [[.nils,.nils]]):D × Hp)=p2 at hP2 ⊢
 generalize a0C h a0n 2 [[.nils,.nils]]=g0 at *
 have a1:(a0C g0 a0n 2 [[.nils,.nils]])[h.length+1]?=some (.row a0n 2 [[.nils,.nils]]):=by rw [← l0];exact a0Z _ _ _ _
 have b1:(a0C g0 a0n 2 [[.nils,.nils]])[h.length]?=some (.row a0n 2 [[.nils,.nils]]):=by rw [a0H _ _ _ _ (by omega)];exact a0
 have k1:∀ q,q<h.length→(a0C g0 a0n 2 [[.nils,.nils]])[q]?=h[q]?:=fun q hq=>by rw [a0H _ _ _ _ (by omega)];exact k0 q hq
 have l1:(a0C g0 a0n 2 [[.nils,.nils]]).length=h.length+2:=by simp [-bind_some, a0C,l0]
 generalize a0C g0 a0n 2 [[.nils,.nils]]=g1 at *
 obtain ⟨xx,e6,qs,q1,q2,q3⟩:=c9I _ dj g1 hj (by omega) (b8b _ hpay)
 rw [c1u _ hpay] at e6 q1
 have hql:qs.length=Bs.length:=by have:=congrArg List.length q1;simpa using this
 simp only [e6,bs,a0I,e0k,e0l,b4R q2,hql,e0h]
 refine Wp.loop (fun k ds g=>∃ n:Nat,nth 6 ds = .int .i64 (n:Nat)∧k+n=Bs.length∧∃ dm dt s es,Acc Bs n s es∧AccF S n s es∧SlOf 3 a1K s.1 dm∧SlOf 3 a1F s.2 dt∧g[h.length]?=some (.row a0n 2 [[dm,dt]])∧g[h.length+1]?=some (.row a0n 2 [[.nils,.nils]])∧Own g (h.length+2) a0y 10 (es.map evr) (nth 0 ds)∧∀ q,q<h.length→g[q]?=h[q]?)
  (fun r=>r.1 = .ext 0∧∃ dm dt s es,Acc Bs Bs.length s es∧AccF S Bs.length s es∧SlOf 3 a1K s.1 dm∧SlOf 3 a1F s.2 dt∧r.2.2[h.length]?=some (.row a0n 2 [[dm,dt]])∧r.2.2[h.length+1]?=some (.row a0n 2 [[.nils,.nils]])∧Own r.2.2 (h.length+2) a0y 10 (es.map evr) (nth 0 r.2.1)∧∀ q,q<h.length→r.2.2[q]?=h[q]?)
  Bs.length ⟨0,rfl,rfl,.nils,.nils,([],[]),[],⟨rfl,rfl⟩,c1V S,.nils _ _,.nils _ _,b1,a1,Own.nils _ _ _ _,k1⟩ ?_ ?_
 ·rintro k ds g ⟨n,hn,hk,dm,dt,s,es,hA,hF,hm,ht,r1,r2,ow,k3⟩
  simp only [b3y,hn,bs,e0h,a0o]
  refine Wp.dif ?_ ?_
  ·intro h0
   have h0:n<Bs.length:=dl_ h0
   obtain ⟨b,hi⟩:=gx_ h0
   obtain ⟨q,hq⟩:∃ q,qs[n]?=some q:=⟨_,e0x (by omega)⟩
   have hqb:q.1=a4l b.hs b.nu b.its:=by
    have:=congrArg (fun l=>l[n]?) q1
    simpa [-bind_some, e0v,hq,hi,b6l] using this
   have hb:=hB b (e0w hi)
   have hw:=wi_ n (by omega)
   have hjj:a0b tab a2a xx (.int .i64 (n:Int))=some (.fptr [q.2]):=by rw [b2u q2];simp [-bind_some, hq]
   have hn3:=hb.n3
   have hrg:∀ i∈b.its,RG b.hs i:=fun i hi=>by rw [hb.hs];exact c9j (hb.it i hi)
   have hnu0:=hb.nu0
   have hnu9:=hb.nu9
   have hhs:=hb.hs
   have hqs:=q3 q (e0w hq)
   rw [hqb] at hqs
   obtain ⟨d2,its2,e2,s2,q4⟩:=d6s b.hs b.nu b.its q.2 g hqs (by unfold I64;omega) (by unfold I64;omega) (by omega) hrg
   have hl2:its2.length=b.its.length:=by have:=congrArg List.length q4;simpa using this
   have hrg2:∀ i∈its2,RG b.hs i∧i.e.ls.length≤1000∧i.e.fs.length≤1000:=fun j hj=>by
    obtain ⟨m,hm⟩:=List.getElem?_of_mem hj
    obtain ⟨i,hi2⟩:∃ i,b.its[m]?=some i:=⟨_,e0x (by have:=(e0y.1 hm).1;omega)⟩
    have hri:=c2R q4 hm hi2
    have hbi:=hb.it i (e0w hi2)
    have h6:=hbi.n6
    have h4:=hbi.fs
    have e1:j.e.ls=i.e.ls:=congrArg RI.ls hri
    have e3:j.e.fs=i.e.fs:=congrArg RI.fs hri
    exact ⟨(b0h hri.symm).2.2.1 _ (hrg i (e0w hi2)),by rw [e1];omega,by rw [e3];omega⟩
   obtain ⟨x,ex,hp⟩:=c9E (b:=⟨b.hs,b.nu,its2,d2,s2⟩) (by show its2.length≤40;omega) (fun i hi=>(hrg2 i hi).2) (fun g=>c2Y b.hs b.nu its2 d2 g (.inl s2) (by omega) fun i hi=>(hrg2 i hi).1) g hm ht hF.gs.ma hF.gs.ta (by have:=hF.gs.ml;omega) (by have:=hF.gs.tl;omega)
   have ex:R b1h [.agg [dm,dt],.agg (a5g b.hs b.nu d2)] g=some (x,g):=ex
   have hp:a4w s.1 s.2 dm dt its2 x:=hp
   obtain ⟨s',es',hA'⟩:=b6f hacc (n+1) (by omega)
   obtain ⟨s1,e1,b',e',hA1,hb',hs',he',_⟩:=hA'
   obtain ⟨rfl,_⟩:=b1T hA hA1
   rw [hi] at hb'
   injection hb' with hb'
   subst hb'
   unfold a4w at hp
   rw [b6g q4,hs'] at hp
   obtain ⟨dm',dt',de,e3,rfl,h3,h4,h5,h6,h7⟩:=hp
   have h6:=b3A q4 _ _ h6
   have hgl:h.length+2≤g.length:=(e0y.1 r2).1
   have hfew:=hF.few
   simp only [hjj,c1t,e2,bs,a0I,e0k,e0l,d7z,a0A,ne_eq,not_true,decide_false,a0d,e0i,if_false,hP2,a8P r1,bxb,ex,d7f,a0P,decide_true,if_true,k2,e0h]
   refine c5n hgl ow (a2l _ h5) (by simp;omega) fun x6 g6 o6 l6 k6 _ _=>?_
   have r16:g6[h.length]?=some (.row a0n 2 [[dm,dt]]):=by rw [k6 _ (by omega)];exact r1
   have r26:g6[h.length+1]?=some (.row a0n 2 [[.nils,.nils]]):=by rw [k6 _ (by omega)];exact r2
   simp only [bs]
   refine a4k (kk:=0) (off:=0) (row:=[dm,dt]) (v := .agg [dm',dt']) r16 (by rfl) (by rfl) (by simp) (c8Z h3 h4) fun g7 p7 s7=>?_
   have p7:g7[h.length]?=some (.row a0n 2 [[dm',dt']]):=p7
   simp only [bs,k2,a1v,a1u,a0k,a0e,a0m,a0r,hw]
   refine .some (.inl ⟨rfl,k - 1,by omega,n+1,rfl,by omega,dm',dt',s',es++e3,⟨s,es,b,e3,hA,hi,hs',h6,rfl⟩,b0C hF hb (hS b (e0w hi)) hs' h6,h3,h4,p7,by rw [s7.2 _ (by omega)];exact r26,?_,fun q hq=>by rw [s7.2 q (by omega),k6 q (by omega)];exact k3 q hq⟩)
   rw [e0o]
   exact o6.keep fun q hq _=>s7.2 q (by omega)
  ·intro h0
   have h0:n=Bs.length:=by
    have:¬ (n:Int)<Bs.length:=by simpa using h0
    omega
   subst h0
   exact .some (.inr ⟨by simp,rfl,dm,dt,s,es,hA,hF,hm,ht,r1,r2,ow,k3⟩)
 ·rintro ⟨ex,ds,g⟩ ⟨r0,dm,dt,s,es,hA,hF,hm,ht,r1,r2,ow,k3⟩
  simp only at r0 r1 r2 ow k3
  subst r0
  obtain ⟨rfl,hel⟩:=b1T hA hacc
  have hfew:=hF.few
  simp only [a0l,a0k,bs,a0e,e0h]
  refine Wp.bind (P:=fun p=>∃ C:List TE,C.Perm (es.zipIdx 0)∧C.Pairwise tS∧Own p.2 (h.length+2) a0y 10 (C.map evt) (nth 0 ds)∧p.2[h.length]?=some (.row a0n 2 [[dm,dt]])∧p.2[h.length+1]?=some (.row a0n 2 [[.nils,.nils]])∧∀ q,q<h.length→p.2[q]?=h[q]?) ?_ ?_
  ·rcases ow with ⟨hx,hr⟩ | ⟨o,ho,hx,hg⟩
   ·rw [hx]
    have hr:es=[]:=by simpa using hr
    refine (c9Z _ g).mono fun p hp=>?_
    rw [hp]
    exact ⟨[],by rw [hr];exact List.Perm.refl _,List.Pairwise.nil,.inl ⟨rfl,rfl⟩,r1,r2,k3⟩
   ·rw [hx,e0n]
    have hl:(es.zipIdx 0).length=es.length:=by simp
    refine (d6W d0Q (o:=o) (N:=es.length) (by omega) hl (c3k es 0).1 (by rw [b9P];exact hg)).mono fun p ⟨C,c1,c2,c3,c4⟩=>?_
    refine ⟨C,c1,c2,.inr ⟨o,ho,?_,c3⟩,by rw [c4.2 _ (by omega)];exact r1,by rw [c4.2 _ (by omega)];exact r2,fun q hq=>by rw [c4.2 q (by omega)];exact k3 q hq⟩
    rw [e0n,c1.length_eq,hl]
  rintro ⟨dz,g2⟩ ⟨C,c1,c2,ow2,r3,r4,k4⟩
  simp only at ow2 r3 r4 k4
  simp only [hP2,a8P r3,bs]
  refine a4k (kk:=0) (off:=0) (row:=[.nils,.nils]) (v := .agg [dm,dt]) r4 (by rfl) (by rfl) (by simp) (c8Z hm ht) fun g5 p5 s5=>?_
  have p5:g5[h.length+1]?=some (.row a0n 2 [[dm,dt]]):=p5
  have ow5:Own g5 (h.length+2) a0y 10 ((C.map (·.1)).map evr) (nth 0 ds):=by
   have:=ow2.keep (h':=g5) fun q hq _=>s5.2 q (by omega)
   rw [List.map_map];exact this
  have hsl:=a1R (n0:=h.length) (n:=2) ow5 (by omega) (fun a _=>b2g _ g5 1 a)
  have fm:=a1P (n0:=h.length) (h:=g5) (n:=1) hm (fun a _=>a4X _ g5 1 a)
  have ft:=a1P (n0:=h.length) (h:=g5) (n:=1) ht (fun a _=>a2P _ g5 1 a)
  have hgl:h.length≤g5.length:=by have:=(e0y.1 p5).1;omega
  simp only [bs,a8P p5,a8a]
  rw [a0M (d' := .tup [.agg [dm,dt],frz h.length g5 3 (nth 0 ds),.int .i64 (a4u (Bs.map a5p)).length]) (by
   simp only [a6A,a5x,e0p,e0q,fm,ft,a4B]) (by
   refine .tup _ fun d hd=>?_
   simp at hd
   rcases hd with rfl | rfl | rfl
   ·refine .agg _ fun d hd=>?_
    simp at hd
    rcases hd with rfl | rfl
    ·exact a1b hm fun a _=>a6E _ a
    ·exact a1b ht fun a _=>a3t _ a
   ·exact a1b hsl fun a _=>b3S _ a
   ·constructor) hgl (fun q hq=>by rw [s5.2 q (by omega)];exact k4 q hq)]
  have hCl:(C.map (·.1)).length=es.length:=by rw [e0n,c1.length_eq];simp [-bind_some]
  exact .some ⟨rfl,dm,dt,_,C.map (·.1),rfl,hm,ht,hsl,by omega,by omega,hF.less c1 c2⟩
theorem b9Z {Bs:List Bat} (b:Bat) {s s':List Mrk × List Tal} {es e:List Ev} (h:Acc Bs Bs.length s es) (h1:apS s.1 s.2 b.its=some s') (h2:apE s.1 b.its e):Acc (Bs++[b]) (Bs++[b]).length s' (es++e):=by
 rw [e0m]
 exact ⟨s,es,b,e,b6e b h,by simp,h1,h2,rfl⟩
theorem c4t (zs:List Int) (d:D) (hd:a5O .u8 zs d) (hz:∀ z∈zs,0≤z∧z<256):∃ h',R b7Q [d] []=some (.bool true,h'):=by
 suffices Wp (R b7Q [d] []) (fun p=>p.1 = .bool true) by
  obtain ⟨⟨x,h'⟩,h1,rfl⟩:=this
  exact ⟨h',h1⟩
 have hsc:∀ g':Hp,scope [] g' (.bool true)=some (.bool true,[]):=fun g'=>a0M (by simp) (.bool _) (by simp) (fun q hq=>by cases hq)
 have k2:∀ (g:Hp) (a b:D),a0c tab g a0n (.fptr [a,b])=some (.agg [a,b]):=fun g a b=>id rfl
 rw [d2L]
 simp only [c7p,bs,c9v,a1A,e0s,a0d,e0i,if_false,e0h]
 obtain ⟨x,w,dw,g0,e0,hg0,hw0,A,hA,hA2,hAb,S,hS15,hS⟩:=c9H zs d [] hd hz
 refine Wp.step e0 ?_
 simp only [bs,a0I,e0k,e0l,e0h]
 have a0:(a0C g0 a0n 2 [[.nils,.nils]])[g0.length]?=some (.row a0n 2 [[.nils,.nils]]):=a0Z _ _ _ _
 have hP6:((D.ptr g0.length 0 0,a0C g0 a0n 2 [[.nils,.nils]]):D × Hp).1 = .ptr g0.length 0 0:=rfl
 generalize ((D.ptr g0.length 0 0,a0C g0 a0n 2 [[.nils,.nils]]):D × Hp)=p6 at hP6 ⊢
 generalize a0C g0 a0n 2 [[.nils,.nils]]=g1 at a0 ⊢
 generalize g0.length=o at a0 hP6
 refine Wp.loop (fun k ds g=>∃ n:Nat,nth 3 ds = .int .i64 (n:Nat)∧k+n=A.length∧∃ (Bs:List Bat) (s:List Mrk × List Tal) (es:List Ev) (dm dt:D),Acc Bs Bs.length s es∧AccF S Bs.length s es∧(∀ b∈Bs,b∈A)∧Bs.length≤n ∧
   SlOf 1 byr (a4u (Bs.map a5p)) (nth 1 ds)∧(a4u (Bs.map a5p)).length≤Bs.length*100100∧nth 2 ds = .int .i64 (es.length:Nat)∧g[o]?=some (.row a0n 2 [[dm,dt]])∧SlOf 3 a1K s.1 dm∧SlOf 3 a1F s.2 dt)
  (fun r=>r.1 = .ext 0∧∃ (Bs:List Bat) (s:List Mrk × List Tal) (es:List Ev) (dm dt:D),Acc Bs Bs.length s es∧AccF S Bs.length s es∧(∀ b∈Bs,b∈A)∧Bs.length≤24 ∧
   SlOf 1 byr (a4u (Bs.map a5p)) (nth 1 r.2.1)∧(a4u (Bs.map a5p)).length≤3000000∧nth 2 r.2.1 = .int .i64 (es.length:Nat)∧r.2.2[o]?=some (.row a0n 2 [[dm,dt]])∧SlOf 3 a1K s.1 dm∧SlOf 3 a1F s.2 dt)
  A.length ⟨0,rfl,rfl,[],([],[]),[],.nils,.nils,⟨rfl,rfl⟩,c1V S,by simp,by simp,.nils _ _,by simp [-bind_some, a4u],rfl,a0,.nils _ _,.nils _ _⟩ ?_ ?_
 ·rintro k ds g ⟨n,hn,hk,Bs,s,es,dm,dt,hAc,hF,hsub,hBn,hj,hjl,hst,r1,hm,ht⟩
  simp only [b3w,hn,bs,e0h,b4S hA,a0o]
  refine Wp.dif ?_ ?_
  ·intro h0
   have h0:n<A.length:=dl_ h0
   obtain ⟨b,hi⟩:=gx_ h0
   have hbA:=e0w hi
   have hb:=hAb b hbA
   have hw:=wi_ n (by omega)
   have hix:a0b tab a1V x (.int .i64 (n:Int))=some (.fptr (a3H b)):=by rw [b7Z hA,if_pos (by omega),e0r,hi];rfl
   have hbl:∀ g:Hp,a0c tab g a0u (.fptr (a3H b))=some (.agg (a3H b)):=fun g=>id rfl
   have hn3:=hb.n3
   have hrg:∀ i∈b.its,RG b.hs i:=fun i hi=>by rw [hb.hs];exact c9j (hb.it i hi)
   have hnB:Bs.length*100100≤24*100100:=Nat.mul_le_mul_right _ (by omega)
   have hfew:=hF.few
   obtain ⟨y,ey,hp⟩:=c9Q (b:=b) (by omega) (fun i hi=>⟨(hrg i hi).ok,(hrg i hi).host,fun hh=>by have:=(hrg i hi).r;rw [hh] at this;cases this⟩) (fun g=>c9K 1 b g hb) g hm ht (by have:=hF.gs.ml;omega) (by have:=hF.gs.tl;omega)
   have hol:o<g.length:=(e0y.1 r1).1
   simp only [hP6,a8P r1,hix,hbl,ey,bs,e0h]
   unfold a4w at hp
   cases ha:apS s.1 s.2 b.its with
   | none =>
    rw [ha] at hp
    subst hp
    simp only [a0I,e0k,e0l,bs]
    refine c2H (c8Z hm ht) fun g2 q2 o2=>?_
    simp only [bs,a0A,show decide ((23:Int)≠0)=true by decide,a0d,if_true,a0k,a0e,a0m,a0r,hw]
    exact .some (.inl ⟨rfl,k - 1,by omega,n+1,rfl,by omega,Bs,s,es,dm,dt,hAc,hF,hsub,by omega,hj,hjl,hst,(o2 _ hol).trans r1,hm,ht⟩)
   | some s' =>
    rw [ha] at hp
    obtain ⟨dm',dt',de,e,rfl,h3,h4,h5,h6,h7⟩:=hp
    obtain ⟨d3,e3,q3⟩:=c9N (a4u (Bs.map a5p)) b.hs b.nu b.its (nth 1 ds) b.d (a0C g a0n 2 [[.nils,.nils]]) hj (by omega) (.inl b.hd) (by omega) hrg
    have hsn:a4u ((Bs++[b]).map a5p)=a4u (Bs.map a5p)++a3i (a4l b.hs b.nu b.its):=by
     rw [e0o,e0p,e0q,a7V,b6l]
    have hBl:=a5T hb
    have hF':=b0C hF hb (hS b hbA) ha h6
    have hfew':=hF'.few
    rw [e0m] at hfew'
    simp only [a0I,e0k,e0l,bs]
    refine c2H (c8Z h3 h4) fun g2 q2 o2=>?_
    obtain ⟨d3,e3,q3⟩:=c9N (a4u (Bs.map a5p)) b.hs b.nu b.its (nth 1 ds) b.d g2 hj (by omega) (.inl b.hd) (by omega) hrg
    have e3:R b4G [nth 1 ds,.agg (a3H b)] g2=some (.tup [d3,.int .i64 0],g2):=e3
    have w2:IntKind.wrap .i64 (((es.length:Nat):Int)+((e.length:Nat):Int))=(((es++e).length:Nat):Int):=by rw [wrap_i64 (by omega) (by omega),e0m];omega
    simp only [bs,a0A,ne_eq,not_true,decide_false,a0d,e0i,if_false,e3,a0I,e0k,e0l,a8P q2,e0h]
    refine a4k (kk:=0) (off:=0) (row:=[dm,dt]) (v := .agg [dm',dt']) ((o2 _ hol).trans r1) (by rfl) (by rfl) (by simp) (c8Z h3 h4) fun g3 p3 s3=>?_
    have p3:g3[o]?=some (.row a0n 2 [[dm',dt']]):=p3
    simp only [bs,b8o h5,hst,a0r,w2,a0k,a0e,a0m,hw]
    rw [← hsn] at q3
    refine .some (.inl ⟨rfl,k - 1,by omega,n+1,rfl,by omega,Bs++[b],s',es++e,dm',dt',b9Z b hAc ha h6,by rw [e0m];exact hF',fun c hc=>?_,by simp;omega,q3,?_,rfl,p3,h3,h4⟩)
    ·rcases e0E.1 hc with hc | hc
     ·exact hsub c hc
     ·rw [List.mem_singleton.1 hc];exact hbA
    ·rw [hsn,e0m,a8c,← b6l,e0m,e0z,e0A]
     omega
  ·intro h0
   have hnB:Bs.length*100100≤24*100100:=Nat.mul_le_mul_right _ (by omega)
   exact .some (.inr ⟨by simp,rfl,Bs,s,es,dm,dt,hAc,hF,hsub,by omega,hj,by omega,hst,r1,hm,ht⟩)
 ·rintro ⟨ex,ds,g⟩ ⟨r0,Bs,s,es,dm,dt,hAc,hF,hsub,hBn,hj,hjl,hst,r1,hm,ht⟩
  simp only at r0 hj hst r1
  subst r0
  have hfew:=hF.few
  obtain ⟨am,at_,de,E,e5,m5,t5,sE,hEl,hE15,hEp⟩:=d6v Bs (fun b hb=>hAb b (hsub b hb)) S hS15 (fun b hb=>hS b (hsub b hb)) hBn hAc (nth 1 ds) g hj hjl
  have hs9:=c9F s.1 s.2 dm am dt at_ g hm m5 ht t5 (by have:=hF.gs.ml;omega) (by have:=hF.gs.tl;omega)
  simp only [a0l,a0k,bs,a0e,a0m,c3H,e5,a0I,e0k,e0l,d7f,e0h]
  refine Wp.loop (fun k ds g'=>g'=g∧∃ n:Nat,nth 1 ds = .int .i64 ((n+1:Nat):Int)∧k+n=E.length) (fun r=>r.1 = .ext 2∧r.2.2=g) E.length ⟨rfl,0,rfl,rfl⟩ ?_ ?_
  ·rintro k ds' g' ⟨rfl,n,hn,hk⟩
   simp only [b3x,hn,bs,e0h,b8o sE,a0o]
   refine Wp.dif ?_ ?_
   ·intro h0
    have h0:n+1<E.length:=by
     have:((n+1:Nat):Int)<E.length:=by simpa using h0
     omega
    obtain ⟨u,hu⟩:∃ u,E[n]?=some u:=⟨_,e0x (by omega)⟩
    obtain ⟨v,hv⟩:∃ v,E[n+1]?=some v:=⟨_,e0x h0⟩
    have hlt:a2S u v=true:=by
     have:=List.pairwise_iff_getElem.1 hEp n (n+1) (by omega) h0 (by omega)
     obtain ⟨x1,x2⟩:=e0y.1 hu
     obtain ⟨y1,y2⟩:=e0y.1 hv
     rw [x2,y2] at this
     exact this
    have w1:IntKind.wrap .i64 (((n+1:Nat):Int) - 1)=((n:Nat):Int):=by rw [wrap_i64 (by omega) (by omega)];omega
    have w2:IntKind.wrap .i64 (((n+1:Nat):Int)+1)=((n+1+1:Nat):Int):=by rw [wrap_i64 (by omega) (by omega)];omega
    have iu:a0b tab a3f de (.int .i64 (n:Nat))=some (.fptr (evr u)):=by rw [c8v sE];simp [-bind_some, hu]
    have iv:a0b tab a3f de (.int .i64 ((n+1:Nat):Int))=some (.fptr (evr v)):=by rw [c8v sE,if_pos (by omega),e0r,hv];rfl
    simp only [a0N,w1,bs,iu,iv,evL,s85,hlt,a1A,e0s,a0d,e0i,if_false,a0r,w2]
    exact .some (.inl ⟨rfl,k - 1,by omega,rfl,n+1,rfl,by omega⟩)
   ·intro h0
    exact .some (.inr ⟨by simp,rfl,rfl⟩)
  ·rintro ⟨ex,ds',g'⟩ ⟨r2,r3⟩
   simp only at r2 r3
   subst r2;subst r3
   simp only [a0l,a0k,bs,a1z hj,a0P,decide_true,a0v,a0Y,if_true,hP6,a8P r1,k2,hs9,a0g,b8o sE,hst,hEl,a0j,hsc]
   exact .some rfl
end Go.Proofs.YthaajlepgblimaaGreatDoor

/- Laws, on plain data, about functions that the statement reaches. -/
import Derived.Test.YtjmndhbabkjebaaGreatDoorL5
set_option linter.unusedSimpArgs false
set_option linter.unusedVariables false
set_option linter.unnecessarySimpa false
set_option maxRecDepth 100000
namespace Go.Proofs.YtjmndhbabkjebaaGreatDoor
open Go.Eng Go.Pi
open Option (bind_some)
theorem c4a {B:List Int} {d:D} (hd:SlOf 1 byr B d) (hB:B.length≤1000000000) (hu:∀ z∈B,U8 z) {h:Hp} {a:Int} {N:Nat} (hN:N<4294967296) {s0:Cur} (hs0:s0.1.length≤B.length) {p2 p4 p5:D × Hp} (hp2:p2.1 = .ptr h.length 0 0) (hp4:p4.1 = .ptr (h.length+1) 0 0) (hp5:p5.1 = .ptr (h.length+2) 0 0) {ms:List FM} {dm:D} {g:Hp} (P:DrP B d h g (svr a dm .nils) s0) (owm:Own g (h.length+3) a0K 2 (ms.map mkr) dm) (x1 x2 x3 x4 x5:D) {β:Type} {K:Out→Option β} {Q:β→Prop}
  (k:∀ g' dq (its:List It) ds,DrP B d h g' (svr a dm dq) (qsS N s0).2→Own g' (h.length+3) a0K 2 (ms.map mkr) dm→Own g' (h.length+3) a0L 11 (its.map itr) dq→its.map a1m=(qsS N s0).1→(∀ i∈its,DcI B.length i)→(its.map a2N).flatten.length≤B.length→Wp (K (.ext 2,ds,g')) Q)
  (k2:∀ g' dq (its:List It) ds,(qsS N s0).2.2=true→g'[h.length]?=some (.row a0f 3 [svr a dm dq])→(∀ q,q<h.length→g'[q]?=h[q]?)→Own g' (h.length+3) a0K 2 (ms.map mkr) dm→Own g' (h.length+3) a0L 11 (its.map itr) dq→Wp (K (.ret,.bool false::ds,g')) Q) :
  Wp ((a0P (a9O d p2 p4 p5 (.int .u64 N)) [.bool false,.int .u64 0,x1,x2,x3,x4,x5] g).bind K) Q:=by
 refine Wp.loop (fun r ds g=>∃ y1 y2 y3 y4 y5 dq,∃ s:Cur,∃ L:List It,∃ i:Nat,ds=[.bool false,.int .u64 i,y1,y2,y3,y4,y5]∧r+i=N∧L.length=i∧DrP B d h g (svr a dm dq) s∧Own g (h.length+3) a0K 2 (ms.map mkr) dm∧Own g (h.length+3) a0L 11 (L.map itr) dq∧L.map a1m++(qsS r s).1=(qsS N s0).1∧(qsS r s).2=(qsS N s0).2∧(∀ i∈L,DcI B.length i)∧(L.map a2N).flatten.length+s.1.length≤B.length)
  (fun r=>(r.1 = .ext 2∧∃ dq,∃ L:List It,DrP B d h r.2.2 (svr a dm dq) (qsS N s0).2∧Own r.2.2 (h.length+3) a0K 2 (ms.map mkr) dm∧Own r.2.2 (h.length+3) a0L 11 (L.map itr) dq∧L.map a1m=(qsS N s0).1∧(∀ i∈L,DcI B.length i)∧(L.map a2N).flatten.length≤B.length) ∨
   (r.1 = .ret∧(qsS N s0).2.2=true∧∃ ds dq,∃ L:List It,r.2.1 = .bool false::ds∧r.2.2[h.length]?=some (.row a0f 3 [svr a dm dq])∧(∀ q,q<h.length→r.2.2[q]?=h[q]?)∧Own r.2.2 (h.length+3) a0K 2 (ms.map mkr) dm∧Own r.2.2 (h.length+3) a0L 11 (L.map itr) dq)) N ⟨_,_,_,_,_,.nils,s0,[],0,rfl,rfl,rfl,P,owm,.nils _ _ _ _,rfl,rfl,fun i hi=>by simp at hi,by simpa using hs0⟩ ?_ ?_
 ·rintro r ds g ⟨y1,y2,y3,y4,y5,dq,s,L,i,rfl,hr,hL,P,owm,ow,q1,q2,hdc,htot⟩
  have stop:(s.2=true∨r=0)→qsS r s=([],s):=by
   rintro (h0 | h0)
   ·exact b2N r s h0
   ·rw [h0];rfl
  have hok:=P.rd.ok
  simp only [a9O,a0g,a0q,bs,d7c,hp2,hp4,hp5,a2T,hok,a0o,a0n]
  cases hb:s.2 with
  | true =>
   rw [stop (.inl hb)] at q1 q2
   simp only [List.append_nil] at q1 q2
   simp only [d7m,d7d,reduceCtorEq,if_false,bs,a0e,a0d]
   exact .some (.inr ⟨by simp,.inl ⟨rfl,dq,L,by rw [← q2];exact P,owm,ow,q1,hdc,by omega⟩⟩)
  | false =>
   simp only [d7n,if_true,bs,a0n,a0e]
   by_cases hr0:r=0
   ·subst hr0
    have hlt:decide ((i:Int)<(N:Int))=false:=decide_eq_false (by omega)
    rw [stop (.inr rfl)] at q1 q2
    simp only [List.append_nil] at q1 q2
    simp only [hlt,a0d,d7d,if_false]
    exact .some (.inr ⟨by simp,.inl ⟨rfl,dq,L,by rw [← q2];exact P,owm,ow,q1,hdc,by omega⟩⟩)
   have hlt:decide ((i:Int)<(N:Int))=true:=decide_eq_true (by omega)
   obtain ⟨r',rfl⟩:∃ r',r=r'+1:=⟨r - 1,by omega⟩
   have hS:qsS (r'+1) s=((itS s).1::(qsS r' (itS s).2).1,(qsS r' (itS s).2).2):=by simp [-bind_some, qsS,hb]
   rw [hS] at q1 q2
   obtain ⟨n,hn,hnB,hns⟩:=P.rd
   obtain ⟨_,ldat,_,_⟩:=a3n hn
   obtain ⟨dl,el,sl⟩:=c1d hd (k := .i64) (n:=(n:Int)) (by omega) (by omega)
   rw [d7l,hns] at sl
   have hsl:s.1.length≤B.length:=by rw [← hns];simp [-bind_some]
   obtain ⟨_,j,ej,hj⟩:=c2R s.1 dl g sl (by omega) fun z hz=>hu z (by rw [← hns] at hz;exact List.mem_of_mem_drop hz)
   have ldst:a0b tab g a0f (.ptr (h.length+1) 0 0)=some (.agg (svr a dm dq)):=by rw [a3r,a0I P.st];rfl
   simp only [hlt,a0d,if_true,bs,a3F,ldat,el,ej,a0J,d7f,d7g,c2D,a0w,ldst]
   by_cases he:(a3X s.1).1=0
   ·have hd0:decide ((a3X s.1).1≠0)=false:=decide_eq_false (by rw [he];simp [-bind_some])
    have hi:itS s=((a3X s.1).2.2,(s.1.drop (a3X s.1).2.1.toNat,false)):=by unfold itS;rw [if_neg fun hh=>hh.elim (fun hh=>by rw [hb] at hh;cases hh) fun hh=>hh he]
    obtain ⟨z8,zl,zj⟩:=b6O he
    have zj:=zj j hj
    have hw:IntKind.wrap .i64 ((n:Int)+(a3X s.1).2.1)=((n+(a3X s.1).2.1.toNat:Nat):Int):=by rw [wrap_i64 (by omega) (by omega)];omega
    have hnl:n+s.1.length=B.length:=by rw [← hns,d7v];omega
    simp only [hd0,a0d,d7d,if_false,ldat,a0t,hw,bs]
    refine b2O hn fun g1 p1 s1=>?_
    have c1:RdC B d g1 (h.length+2) (itS s).2:=by
     rw [hi]
     refine ⟨n+(a3X s.1).2.1.toNat,?_,by omega,?_⟩
     ·rw [p1];simp [-bind_some, hb]
     ·rw [← hns,List.drop_drop]
    have P1:=P.cur c1 s1
    have ow1:=ow.same s1 (by omega)
    have owm1:=owm.same s1 (by omega)
    have ldq:a0b tab g1 a1x (.ptr (h.length+1) 0 (0+2))=some dq:=by rw [c1I,a0I P1.st];rfl
    have hlit:a0X tab a1x 1 [0] [.agg (itr j)]=some (.sl 11 true [itr j]):=id rfl
    have hw1:IntKind.wrap .u64 ((i:Int)+1)=((i+1:Nat):Int):=by rw [a1w (by omega) (by omega)];omega
    have hdm:∀ q,dm.inOb q→¬ dq.inOb q:=fun q hq hq2=>by
     have h1:=a1V owm1 hq
     have h2:=a1V ow1 hq2
     rw [h1] at h2
     injection h2 with h2
     injection h2 with h2
     exact absurd h2 (by decide)
    simp only [bs,a6s,ldq,d2f,hlit]
    refine b1X (ys:=[itr j]) (n0:=h.length+3) P1.ln ow1 (a1d _ _ _ _) (by simp;omega) fun dq' g3 ow3 l3 k3 k3' _=>?_
    have P3:=P1.keep k3
    have owm3:=owm1.keep fun q _ hq=>k3' q (owm1.lt hq).2 (hdm q hq)
    simp only [bs]
    refine b5k (kk:=0) (row:=svr a dm dq) P3.st (by rfl) (by rw [(a0z (a1l ow3)).1];rfl) (by simp [-bind_some, svr]) (a0z (a1l ow3)).2 fun g4 p4' s4=>?_
    rw [(a0z (a1l ow3)).1] at p4'
    have P4:DrP B d h g4 (svr a dm dq') _:=P3.sta p4' s4
    simp only [bs,a0t,hw1]
    have hj2:a1m j=(itS s).1:=by rw [hi];exact hj
    refine .some (.inl ⟨rfl,r',by omega,_,_,_,_,_,dq',(itS s).2,L++[j],i+1,rfl,by omega,by simp [-bind_some, hL],P4,owm3.same s4 (by omega),?_,by rw [d7j];simpa [-bind_some, hj2] using q1,q2,fun x hx=>?_,?_⟩)
    ·rw [d7j]
     exact ow3.same s4 (by omega)
    ·rcases d7y.1 hx with hx | hx
     ·exact hdc x hx
     ·simp only [List.mem_singleton] at hx
      subst hx
      exact ⟨b9X he hj,by omega⟩
    ·rw [d7j,List.flatten_append,d7h]
     simp only [d7k,List.map_nil,List.flatten_cons,List.flatten_nil,List.append_nil,hi,d7v]
     omega
   ·have hd0:decide ((a3X s.1).1≠0)=true:=decide_eq_true he
    have hi:itS s=(a1m zit,(s.1,true)):=by unfold itS;rw [if_pos (.inr he)]
    simp only [hd0,a0d,if_true,ldst,bs]
    refine a4z (kk:=0) (off:=0) (row:=svr 0 .nils .nils) (v := .agg (svr a dm dq)) P.r0 (by rfl) (by rfl) (by exact Nat.le_refl _) (b8Z owm ow) fun g1 p1 s1=>?_
    have p1:g1[h.length]?=some (.row a0f 3 [svr a dm dq]):=p1
    refine .some (.inr ⟨by simp,.inr ⟨rfl,?_,_,dq,L,rfl,p1,fun q hq=>by rw [s1.2 q (by omega)];exact P.lo q hq,owm.same s1 (by omega),ow.same s1 (by omega)⟩⟩)
    rw [← q2,hi,b2N r' _ rfl]
 ·rintro ⟨ex,ds,g⟩ (⟨rfl,dq,L,P,owm,ow,hL,hdc,htot⟩ | ⟨rfl,hbad,ds',dq,L,rfl,p1,lo,owm,ow⟩)
  ·exact k g dq L ds P owm ow hL hdc htot
  ·exact k2 g dq L ds' hbad p1 lo owm ow
theorem rdG {B:List Int} {d:D} {g:Hp} {o:Nat} {s:Cur} (hd:SlOf 1 byr B d) (hB:B.length≤1000000000) (hu:∀ z∈B,U8 z) (C:RdC B d g o s) {β:Type} {f:D→Hp→Option β} {Q:β→Prop} (k:∀ g',RdC B d g' o (a0G s 4).2→Same o g g'→Wp (f (.int .u64 (num (a0G s 4).1)) g') Q) :
  Wp ((a0b tab g a0l (.ptr o 0 0)).bind fun t=>(R a2B [t,.int .i64 4] g).bind fun p=>(a0i 0 p.1).bind fun a=>(a0i 1 p.1).bind fun b=>(a0h tab p.2 a0l (.ptr o 0 0) a).bind fun g'=>f b g') Q:=by
 obtain ⟨x,l,r⟩:=C.all
 obtain ⟨x',e,r'⟩:=b0B g hd hB hu r 4 (by omega)
 have e:R a2B [x,.int .i64 4] g=some (.tup [x',.int .u64 (num (a0G s 4).1)],g):=e
 simp only [l,bs,e,a0J,d7f,d7g]
 exact C.st r' k
def xM (s0:Cur):List FM × Cur:=a3u (a1D (a0R s0).2).1.toNat (a1D (a0R s0).2).2
noncomputable def xQ (s0:Cur):List RI × Cur:=qsS (a1D (xM s0).2).1.toNat (a1D (xM s0).2).2
def c1V (s0:Cur):Prop:=(xQ s0).2.2=true∨0<(xQ s0).2.1.length∨stC (a0R s0).1 (xM s0).1 (xQ s0).1.length≠0
theorem b4D {s:Cur} {n:Nat} (h:num (a0G s 4).1=n) (hn:n<4294967296):(a1D s).1=n:=by
 show IntKind.wrap .i64 (num (a0G s 4).1)=_
 rw [h,wrap_i64 (by omega) (by omega)]
theorem d3k (B:List Int) (d:D) (h:Hp) (hd:SlOf 1 byr B d) (hB:B.length≤600000000) (hu:∀ z∈B,U8 z) :
  ∃ a dm dq ms its ok,R b4w [d] h=some (.tup [.agg (svr a dm dq),.bool ok],h)∧SlOf 2 mkr ms dm∧SlOf 11 itr its dq∧((ok=true∧¬ c1V (B,false)∧a=(a0R (B,false)).1∧ms=(xM (B,false)).1∧its.map a1m=(xQ (B,false)).1)∨(ok=false∧c1V (B,false))):=by
 suffices Wp (R b4w [d] h) (fun p=>∃ a dm dq ms its ok,p=(.tup [.agg (svr a dm dq),.bool ok],h)∧SlOf 2 mkr ms dm∧SlOf 11 itr its dq∧((ok=true∧¬ c1V (B,false)∧a=(a0R (B,false)).1∧ms=(xM (B,false)).1∧its.map a1m=(xQ (B,false)).1)∨(ok=false∧c1V (B,false)))) by
  obtain ⟨p,h1,a,dm,dq,ms,its,ok,rfl,h2⟩:=this
  exact ⟨a,dm,dq,ms,its,ok,h1,h2⟩
 have hB9:B.length≤1000000000:=by omega
 have r0:(a0H h a0f 3 [[.int .i64 0,.nils,.nils]])[h.length]?=some (.row a0f 3 [svr 0 .nils .nils]):=a1a _ _ _ _
 have l0:(a0H h a0f 3 [[.int .i64 0,.nils,.nils]]).length=h.length+1:=a2C _ _ _ _
 have k0:∀ q,q<h.length→(a0H h a0f 3 [[.int .i64 0,.nils,.nils]])[q]?=h[q]?:=fun q hq=>a0W _ _ _ _ hq
 rw [d1c]
 simp only [c6o,bs,l0,a8P d true (a1v hd),d7c]
 generalize a0H h a0f 3 [[.int .i64 0,.nils,.nils]]=g0 at *
 have r1:(a0H g0 a0f 3 [[.int .i64 0,.nils,.nils]])[h.length+1]?=some (.row a0f 3 [svr 0 .nils .nils]):=by rw [← l0];exact a1a _ _ _ _
 have l1:(a0H g0 a0f 3 [[.int .i64 0,.nils,.nils]]).length=h.length+2:=by rw [a2C,l0]
 have k1:∀ q,q<h.length+1→(a0H g0 a0f 3 [[.int .i64 0,.nils,.nils]])[q]?=g0[q]?:=fun q hq=>a0W _ _ _ _ (by omega)
 simp only [l1]
 generalize a0H g0 a0f 3 [[.int .i64 0,.nils,.nils]]=g1 at *
 have r2:(a0H g1 a0l 3 [[.nils,.int .i64 0,.bool false]])[h.length+2]?=some (.row a0l 3 [[.nils,.int .i64 0,.bool false]]):=by rw [← l1];exact a1a _ _ _ _
 have k2:∀ q,q<h.length+2→(a0H g1 a0l 3 [[.nils,.int .i64 0,.bool false]])[q]?=g1[q]?:=fun q hq=>a0W _ _ _ _ (by omega)
 generalize a0H g1 a0l 3 [[.nils,.int .i64 0,.bool false]]=g2 at *
 refine b9m (kk:=0) (off:=0) (row:=[.nils,.int .i64 0,.bool false]) (v := .agg [d,.int .i64 0,.bool true]) r2 (by rfl) (by rfl) (by exact Nat.le_refl _) (by rcases hd with ⟨rfl,_⟩ | ⟨b,rfl⟩ <;> rfl) fun g3 p3 s3=>?_
 have c3:RdC B d g3 (h.length+2) (B,false):=⟨0,p3,by omega,rfl⟩
 have P3:DrP B d h g3 (svr 0 .nils .nils) (B,false):=⟨by rw [s3.2 _ (by omega),k2 _ (by omega),k1 _ (by omega)];exact r0,by rw [s3.2 _ (by omega),k2 _ (by omega)];exact r1,c3,fun q hq=>by rw [s3.2 q (by omega),k2 q (by omega),k1 q (by omega)];exact k0 q hq⟩
 try simp only [bs]
 refine rdI hd hB9 hu P3.rd fun g4 c4 s4=>?_
 have P4:=P3.cur c4 s4
 try simp only [bs,b1e]
 refine b0H (kk:=0) (off:=0+0) (row:=svr 0 .nils .nils) (v := .int .i64 (a0R (B,false)).1) P4.st (by rfl) (by rfl) (by simp [-bind_some, svr]) (by rfl) fun g5 p5 s5=>?_
 have P5:DrP B d h g5 (svr (a0R (B,false)).1 .nils .nils) _:=P4.sta p5 s5
 try simp only [bs]
 refine rdG hd hB9 hu P5.rd fun g6 c6 s6=>?_
 have P6:=P5.cur c6 s6
 have hus:∀ {g:Hp} {s:Cur},RdC B d g (h.length+2) s→(∀ z∈s.1,U8 z)∧s.1.length≤B.length:=fun C=>by
  obtain ⟨n,_,_,h3⟩:=C
  rw [← h3]
  exact ⟨fun z hz=>hu z (List.mem_of_mem_drop hz),by simp⟩
 obtain ⟨N1,hN1,hN1b⟩:=c1R (a4x (hus P5.rd).1 4).1 (a3K _ 4)
 have hL1:=b4D hN1 hN1b
 rw [hN1]
 have hM:xM (B,false)=a3u N1 (a0G (a0R (B,false)).2 4).2:=by unfold xM;rw [hL1];rfl
 try simp only [bs]
 refine c3Z hd hB9 hu hN1b rfl rfl P6 _ _ fun g7 dm x7 y7 z7 P7 owm=>?_
 rw [← hM] at P7 owm
 have hml:(xM (B,false)).1.length≤4294967296:=by rw [hM];have:=b0v N1 (a0G (a0R (B,false)).2 4).2;omega
 simp only [a0r,a0s,bs,a0g,a0q,d7c]
 refine rdG hd hB9 hu P7.rd fun g8 c8 s8=>?_
 have P8:=P7.cur c8 s8
 have owm8:=owm.same s8 (by omega)
 obtain ⟨N2,hN2,hN2b⟩:=c1R (a4x (hus P7.rd).1 4).1 (a3K _ 4)
 have hL2:=b4D hN2 hN2b
 rw [hN2]
 have hQ:xQ (B,false)=qsS N2 (a0G (xM (B,false)).2 4).2:=by unfold xQ;rw [hL2];rfl
 try simp only [bs]
 refine c4a hd hB9 hu hN2b (hus P8.rd).2 rfl rfl rfl P8 owm8 _ _ _ _ _ (fun g9 dq its ds P9 owm9 owq9 hits hdc htot=>?_) (fun g9 dq its ds hbad p9 lo9 owm9 owq9=>?_)
 ·rw [← hQ] at P9 hits
  have hlq:its.length=(xQ (B,false)).1.length:=by rw [← hits];simp [-bind_some]
  obtain ⟨n,hn,hnB,hns⟩:=P9.rd
  obtain ⟨_,ldat,ldok,_⟩:=a3n hn
  have hbody:∀ i∈its,(a1r i).length≤800000000:=fun i hi=>by have:=(hdc i hi).l;rw [a3y] at this;omega
  obtain ⟨d',e57,_⟩:=c8m (a0R (B,false)).1 (xM (B,false)).1 its dm dq g9 (b8G owm9) (b8G owq9) (by omega) (by omega) hbody (fun i hi g=>(hdc i hi).ck hB9 g)
  have hst:stE (a0R (B,false)).1 (xM (B,false)).1 its=stC (a0R (B,false)).1 (xM (B,false)).1 (xQ (B,false)).1.length:=by
   unfold stE
   rw [b7O hdc,hlq]
   split
   ·rename_i h0;exact h0.symm
   ·rfl
  rw [hst] at e57
  have ldst:a0b tab g9 a0f (.ptr (h.length+1) 0 0)=some (.agg (svr (a0R (B,false)).1 dm dq)):=by rw [a3r,a0I P9.st];rfl
  have fin:∀ ok:Bool,((ok=true∧¬ c1V (B,false))∨(ok=false∧c1V (B,false)))→Wp ((a0h tab g9 a0f (.ptr h.length 0 0) (.agg (svr (a0R (B,false)).1 dm dq))).bind fun h'=>(a0b tab h' a0f (.ptr h.length 0 0)).bind fun d0=>scope h h' (a0k [d0,.bool ok])) (fun p=>∃ a dm dq ms its ok,p=(.tup [.agg (svr a dm dq),.bool ok],h)∧SlOf 2 mkr ms dm∧SlOf 11 itr its dq∧((ok=true∧¬ c1V (B,false)∧a=(a0R (B,false)).1∧ms=(xM (B,false)).1∧its.map a1m=(xQ (B,false)).1)∨(ok=false∧c1V (B,false)))):=by
   intro ok hok
   refine a4z (kk:=0) (off:=0) (row:=svr 0 .nils .nils) (v := .agg (svr (a0R (B,false)).1 dm dq)) P9.r0 (by rfl) (by rfl) (by exact Nat.le_refl _) (b8Z owm9 owq9) fun ga pa sa=>?_
   have pa:ga[h.length]?=some (.row a0f 3 [svr (a0R (B,false)).1 dm dq]):=pa
   have lda:a0b tab ga a0f (.ptr h.length 0 0)=some (.agg (svr (a0R (B,false)).1 dm dq)):=by rw [a3r,a0I pa];rfl
   obtain ⟨dm',dq',esc,om,oq⟩:=c7N (a:=(a0R (B,false)).1) (ok:=ok) (owm9.same sa (by omega)) (owq9.same sa (by omega)) (by have:=(d7s.1 pa).1;omega) (fun q hq=>by rw [sa.2 q (by omega)];exact P9.lo q hq)
   simp only [lda,bs,a1c,esc]
   refine .some ⟨_,dm',dq',_,its,ok,rfl,om,oq,?_⟩
   rcases hok with ⟨w1,w2⟩ | ⟨w1,w2⟩
   ·exact .inl ⟨w1,w2,rfl,rfl,hits⟩
   ·exact .inr ⟨w1,w2⟩
  have hwn:(xQ (B,false)).2.1.length=B.length - n:=by rw [← hns];simp [-bind_some]
  simp only [a0r,a0s,bs,a0g,a0q,ldst,e57,a0J,d7f,d7g,a2T,a3F,ldok,a0o,d7c]
  cases hbd:(xQ (B,false)).2.2 with
  | true =>
   simp only [d7m,d7d,reduceCtorEq,if_false,bs,a0e,a0o]
   exact fin false (.inr ⟨rfl,.inl hbd⟩)
  | false =>
   simp only [d7n,if_true,bs,ldat,a1Z hd,a0Q,a0e,a0o]
   by_cases hnn:n=B.length
   ·have hn1:decide ((n:Int)=(B.length:Int))=true:=decide_eq_true (by omega)
    simp only [hn1,a0o,if_true,bs,a0Q,a0e]
    by_cases hs0:stC (a0R (B,false)).1 (xM (B,false)).1 (xQ (B,false)).1.length=0
    ·have hs1:decide (stC (a0R (B,false)).1 (xM (B,false)).1 (xQ (B,false)).1.length=0)=true:=decide_eq_true hs0
     rw [hs1]
     refine fin true (.inl ⟨rfl,?_⟩)
     rintro (w | w | w)
     ·rw [hbd] at w;cases w
     ·omega
     ·exact w hs0
    ·have hs1:decide (stC (a0R (B,false)).1 (xM (B,false)).1 (xQ (B,false)).1.length=0)=false:=decide_eq_false hs0
     rw [hs1]
     exact fin false (.inr ⟨rfl,.inr (.inr hs0)⟩)
   ·have hn1:decide ((n:Int)=(B.length:Int))=false:=decide_eq_false (by omega)
    simp only [hn1,a0o,d7d,reduceCtorEq,if_false,bs,a0e]
    exact fin false (.inr ⟨rfl,.inr (.inl (by omega))⟩)
 ·rw [← hQ] at hbad
  have ld9:a0b tab g9 a0f (.ptr h.length 0 0)=some (.agg (svr (a0R (B,false)).1 dm dq)):=by rw [a3r,a0I p9];rfl
  obtain ⟨dm',dq',esc,om,oq⟩:=c7N (a:=(a0R (B,false)).1) (ok:=false) owm9 owq9 (by have:=(d7s.1 p9).1;omega) lo9
  simp only [a1O,a1N,a1L,a0g,bs,ld9,a1c,esc]
  exact .some ⟨_,dm',dq',_,its,false,rfl,om,oq,.inr ⟨rfl,.inl hbad⟩⟩
theorem c8l (n:Int) (ms:List FM) (its:List It) (dm dq:D) (h:Hp) (hm:SlOf 2 mkr ms dm) (hq:SlOf 11 itr its dq) (hl:ms.length≤5000000000) (hT:(its.map a2N).flatten.length≤700000000) (hb:∀ i∈its,(a1r i).length≤800000000) (hck:∀ i∈its,∀ g,R a6w [.agg (itr i)] g=some (.int .i64 (itE i),g)) :
  ∃ d',R a7k [.agg (svr n dm dq)] h=some (.tup [d',.int .i64 (stE n ms its)],h)∧SlOf 1 byr (if stE n ms its=0 then b0b n ms its else []) d':=by
 suffices Wp (R a7k [.agg (svr n dm dq)] h) (fun p=>p.2=h∧∃ d',p.1 = .tup [d',.int .i64 (stE n ms its)]∧SlOf 1 byr (if stE n ms its=0 then b0b n ms its else []) d') by
  obtain ⟨⟨x,h'⟩,h1,rfl,d',rfl,h2⟩:=this
  exact ⟨d',h1,h2⟩
 obtain ⟨b,e57,ob⟩:=c8m n ms its dm dq h (.inl hm) (.inl hq) hl hT hb hck
 rw [d0Z]
 simp only [c6l,a1M,svl,bs,e57,a0J,d7f,d7g,a0w,a1c]
 by_cases hc:stE n ms its=0
 case neg =>
  have hcc:decide (stE n ms its≠0)=true:=decide_eq_true hc
  simp only [hcc,a0d,if_true]
  rw [a1n (d' := .tup [.nils,.int .i64 (stE n ms its)]) (by simp) (.tup _ fun d hd=>by simp at hd;rcases hd with rfl | rfl <;> constructor) (Nat.le_refl _) fun _ _=>rfl]
  exact .some ⟨rfl,_,rfl,by rw [if_neg hc];exact .nils _ _⟩
 have hcc:decide (stE n ms its≠0)=false:=decide_eq_false (by rw [hc];simp [-bind_some])
 rw [if_pos hc] at ob ⊢
 have hm1000:ms.length≤1000:=by
  have hcs:stC n ms its.length=0:=by
   apply Classical.byContradiction
   intro hh
   unfold stE at hc
   rw [if_neg hh] at hc
   exact hh hc
  unfold stC at hcs
  split at hcs
  ·cases hcs
  split at hcs
  ·cases hcs
  split at hcs
  ·cases hcs
  split at hcs
  ·cases hcs
  ·omega
 have hbl:=a6e n ms its
 have g0:(a0H h ty5 1 (magS.map byr))[h.length]?=some (.row ty5 1 (magS.map byr)):=a1a _ _ _ _
 have o0:Own (a0H h ty5 1 (magS.map byr)) h.length ty5 1 (magS.map byr) (.msl 1 h.length 0 4) := .inr ⟨h.length,Nat.le_refl _,rfl,g0⟩
 have l0:h.length≤(a0H h ty5 1 (magS.map byr)).length:=by simp [-bind_some, a0H]
 have k0:∀ q,q<h.length→(a0H h ty5 1 (magS.map byr))[q]?=h[q]?:=fun q hq=>a0W _ _ _ _ hq
 simp only [hcc,a0d,d7d,if_false,a8l,b4G,bs,c1O g0,a1Z ob,a2b]
 generalize a0H h ty5 1 (magS.map byr)=G0 at *
 have B0:Bw h.length h .nils G0 magS (.msl 1 h.length 0 4):=⟨o0,l0,fun q hq _=>k0 q hq,fun q hq => .inr (o0.lt hq).1⟩
 refine c4c B0 l0 (a1E n ms its).length (by simp [-bind_some, magS]) fun d1 g1 B1 n1=>?_
 simp only [bs]
 refine b3B B1 n1 (a4u (.inl ob)) (by simp only [d7h,a1G];simp [-bind_some, magS];omega) fun d2 g2 B2 n2=>?_
 have hH:magS++pN (a1E n ms its).length++a1E n ms its=a3i (a1E n ms its):=rfl
 rw [hH] at B2
 have ek:=c0X (a3i (a1E n ms its)) d2 g2 (.own B2.ow) (by rw [a4b];omega) (b0n (a9Q _ _ _))
 simp only [bs,ek]
 obtain ⟨d3,g3,e3,B3⟩:=b0A (a2t (a3i (a1E n ms its))) 4 (by omega) h.length g2 _ _ n2 B2.ow (by rw [a4b];omega)
 have e3:R a2l [d2,.int .u64 (a2t (a3i (a1E n ms its))),.int .i64 4] g2=some (d3,g3):=e3
 simp only [e3,bs]
 have hfin:a3i (a1E n ms its)++a3B 4 (a2t (a3i (a1E n ms its)))=b0b n ms its:=rfl
 rw [hfin] at B3
 have B4:=B2.trans B3
 have hso:=a2g (n0:=h.length) (n:=2) B4.ow (Nat.le_refl _) (fun a _=>a5L _ g3 2 a)
 rw [a1n (d' := .tup [frz h.length g3 3 d3,.int .i64 0]) (by simp [-bind_some, hc]) (by
  refine .tup _ fun d hd=>?_
  simp at hd
  rcases hd with rfl | rfl
  ·exact a1K hso fun a _=>a7K _ a
  ·constructor) B4.len (fun q hq=>B4.old q hq (a6D q))]
 exact .some ⟨rfl,_,by rw [hc],hso⟩
theorem c0P (l:List Int) (hu:∀ z∈l,U8 z):(bys (l.take 4)==([76,84,49,10]:Str))=decide (l.take 4=magS):=by
 have e2:([76,84,49,10]:Str)=bys magS:=by decide
 rw [e2]
 by_cases h:l.take 4=magS
 ·rw [h];simp [-bind_some]
 ·have:bys (l.take 4)≠bys magS:=fun hh=>h (by rw [← a8q (l.take 4) (fun z hz=>hu z (List.mem_of_mem_take hz)),hh,a8q magS (by unfold magS U8;decide)])
  simp [-bind_some, h,this]
theorem b9a {l:List Int} (h:4≤l.length):(a0G (l,false) 4).1=l.take 4:=by
 unfold a0G
 rw [if_neg (by
  rintro (hh | hh | hh)
  ·cases hh
  ·omega
  ·simp only at hh;omega)]
 rfl
theorem d3j (l:List Int) (d:D) (h:Hp) (hd:SlOf 1 byr l d) (hl:l.length≤600000000) (hu:∀ z∈l,U8 z) :
  ∃ dm dq its,R a7l [d] h=some (.tup [.agg (svr (a2x l).2.2.1 dm dq),.int .i64 (a2x l).2.1,.int .i64 (a2x l).1],h)∧SlOf 2 mkr (a2x l).2.2.2.1 dm∧SlOf 11 itr its dq∧its.map a1m=(a2x l).2.2.2.2:=by
 suffices Wp (R a7l [d] h) (fun p=>∃ dm dq its,p=(.tup [.agg (svr (a2x l).2.2.1 dm dq),.int .i64 (a2x l).2.1,.int .i64 (a2x l).1],h)∧SlOf 2 mkr (a2x l).2.2.2.1 dm∧SlOf 11 itr its dq∧its.map a1m=(a2x l).2.2.2.2) by
  obtain ⟨p,h1,dm,dq,its,rfl,h2⟩:=this
  exact ⟨dm,dq,its,h1,h2⟩
 have fin:∀ e,a2x l=(e,0,0,[],[])→∃ dm dq its,((.tup [.agg (svr 0 .nils .nils),.int .i64 0,.int .i64 e],h):D × Hp)=(.tup [.agg (svr (a2x l).2.2.1 dm dq),.int .i64 (a2x l).2.1,.int .i64 (a2x l).1],h)∧SlOf 2 mkr (a2x l).2.2.2.1 dm∧SlOf 11 itr its dq∧its.map a1m=(a2x l).2.2.2.2:=fun e he=>by
  rw [he];exact ⟨.nils,.nils,[],rfl,.nils _ _,.nils _ _,rfl⟩
 have hl9:l.length≤1000000000:=by omega
 have r0:(a0H h a0f 3 [[.int .i64 0,.nils,.nils]])[h.length]?=some (.row a0f 3 [svr 0 .nils .nils]):=a1a _ _ _ _
 have l0:(a0H h a0f 3 [[.int .i64 0,.nils,.nils]]).length=h.length+1:=by simp [-bind_some, a0H]
 have k0:∀ q,q<h.length→(a0H h a0f 3 [[.int .i64 0,.nils,.nils]])[q]?=h[q]?:=fun q hq=>a0W _ _ _ _ hq
 rw [d1a]
 simp only [c6m,bs,a1Z hd,a0n,b6t,d7c]
 generalize a0H h a0f 3 [[.int .i64 0,.nils,.nils]]=g0 at *
 by_cases h8:l.length<8
 ·have h8':(l.length:Int)<8:=by omega
  simp only [h8',decide_true,a0d,if_true]
  exact a7q r0 rfl k0 14 (fin 14 (by unfold a2x;rw [if_pos h8]))
 have h8':¬ (l.length:Int)<8:=by omega
 have R1:RdS l d (l.drop 4,false) (.agg [d,.int .i64 4,.bool true]):=⟨4,rfl,by omega,rfl⟩
 obtain ⟨x1,e1,q1⟩:=b0B g0 hd hl9 hu R1 4 (by omega)
 have e1:R a2B [.agg [d,.int .i64 4,.bool true],.int .i64 4] g0=some (.tup [x1,.int .u64 (num (a0G (l.drop 4,false) 4).1)],g0):=e1
 obtain ⟨m1,rfl,_⟩:=q1
 rw [b9a (l:=l.drop 4) (by simp;omega)] at e1
 have hu4:∀ z∈(l.drop 4).take 4,U8 z:=fun z hz=>hu z (List.mem_of_mem_drop (List.mem_of_mem_take hz))
 obtain ⟨n0,n1⟩:=a2n 4 ((l.drop 4).take 4) (by simp;omega) hu4
 rw [a6E] at n1
 have hN:num ((l.drop 4).take 4)=(dN l:Int):=by unfold dN;omega
 have hN32:dN l<4294967296:=by unfold dN;omega
 rw [hN] at e1
 obtain ⟨d4,e4,s4⟩:=a8M hd (k := .i64) (n:=4) (by omega) (by omega)
 have s4:SlOf 1 byr (l.take 4) d4:=s4
 have bxA:a3s 3 (.agg [d,.int .i64 m1,.bool (!(a0G (l.drop 4,false) 4).2.2)])=some (.fptr [d,.int .i64 m1,.bool (!(a0G (l.drop 4,false) 4).2.2)]):=a1T 3 _ rfl
 simp only [h8',decide_false,a0d,d7d,if_false,a4N d 4 true (a1v hd),e1,bxA,bs,a0J,d7f,d7g,e4,a5u s4,a2e,c0P l hu]
 by_cases hmag:l.take 4=magS
 case neg =>
  have hm:decide (l.take 4=magS)=false:=decide_eq_false hmag
  simp only [hm,d7n,if_true]
  exact a7q r0 rfl k0 1 (fin 1 (by unfold a2x;rw [if_neg h8,if_pos hmag]))
 have hm:decide (l.take 4=magS)=true:=decide_eq_true hmag
 have w0:IntKind.wrap .u64 (l.length:Int)=(l.length:Int):=a1w (by omega) (by omega)
 have w1:IntKind.wrap .u64 (12+(dN l:Int))=((12+dN l:Nat):Int):=by rw [a1w (by omega) (by omega)];omega
 simp only [hm,d7m,d7d,if_false,a2b,w0,a0t,w1,a0n,bs]
 by_cases hsh:l.length<12+dN l
 ·have hsh':decide ((l.length:Int)<((12+dN l:Nat):Int))=true:=decide_eq_true (by omega)
  simp only [hsh',if_true]
  exact a7q r0 rfl k0 14 (fin 14 (by unfold a2x;rw [if_neg h8,if_neg (by simpa using hmag),if_pos hsh]))
 have hsh':decide ((l.length:Int)<((12+dN l:Nat):Int))=false:=decide_eq_false (by omega)
 have w2:IntKind.wrap .i64 (dN l:Int)=(dN l:Int):=wrap_i64 (by omega) (by omega)
 have w3:IntKind.wrap .i64 (8+(dN l:Int))=((8+dN l:Nat):Int):=by rw [wrap_i64 (by omega) (by omega)];omega
 have w4:IntKind.wrap .i64 (((8+dN l:Nat):Int)+4)=((12+dN l:Nat):Int):=by rw [wrap_i64 (by omega) (by omega)];omega
 have R2:RdS l d (l.drop (8+dN l),false) (.agg [d,.int .i64 ((8+dN l:Nat):Int),.bool true]):=⟨8+dN l,rfl,by omega,rfl⟩
 obtain ⟨x2,e2,q2⟩:=b0B g0 hd hl9 hu R2 4 (by omega)
 have e2:R a2B [.agg [d,.int .i64 ((8+dN l:Nat):Int),.bool true],.int .i64 4] g0=some (.tup [x2,.int .u64 (num (a0G (l.drop (8+dN l),false) 4).1)],g0):=e2
 obtain ⟨m2,rfl,_⟩:=q2
 rw [b9a (l:=l.drop (8+dN l)) (by simp;omega)] at e2
 have bxB:a3s 3 (.agg [d,.int .i64 m2,.bool (!(a0G (l.drop (8+dN l),false) 4).2.2)])=some (.fptr [d,.int .i64 m2,.bool (!(a0G (l.drop (8+dN l),false) 4).2.2)]):=a1T 3 _ rfl
 obtain ⟨dn,en,sn⟩:=a8M hd (k := .i64) (n:=((8+dN l:Nat):Int)) (by omega) (by omega)
 rw [d7l] at sn
 have ek:=c0X (l.take (8+dN l)) dn g0 (.inl sn) (by simp;omega) (fun z hz=>hu z (List.mem_of_mem_take hz))
 simp only [hsh',d7d,if_false,a3w,w2,a0t,w3,bs,a4N d _ true (a1v hd),e2,bxB,a0J,d7f,d7g,en,ek,a0w]
 by_cases hck:a2t (l.take (8+dN l))=num ((l.drop (8+dN l)).take 4)
 case neg =>
  have hck':decide (num ((l.drop (8+dN l)).take 4)≠a2t (l.take (8+dN l)))=true:=decide_eq_true fun hh=>hck hh.symm
  simp only [hck',if_true]
  exact a7q r0 rfl k0 15 (fin 15 (by unfold a2x;rw [if_neg h8,if_neg (by simpa using hmag),if_neg hsh,if_pos hck]))
 have hck':decide (num ((l.drop (8+dN l)).take 4)≠a2t (l.take (8+dN l)))=false:=decide_eq_false (by rw [hck];simp [-bind_some])
 obtain ⟨db,eb,sb⟩:=a5M hd 8 (8+dN l) (by omega) (by omega)
 have eb:a0A tab a0N true true false [d,.int .i64 8,.int .i64 ((8+dN l:Nat):Int)]=some db:=eb
 obtain ⟨a,dm,dq,ms,its,ok,e58,om,oq,hok⟩:=d3k ((l.take (8+dN l)).drop 8) db g0 sb (by simp;omega) (fun z hz=>hu z (List.mem_of_mem_take (List.mem_of_mem_drop hz)))
 have bxC:a3s 3 (.agg (svr a dm dq))=some (.fptr (svr a dm dq)):=a1T 3 _ rfl
 simp only [hck',d7d,if_false,eb,e58,bs,a0J,d7f,d7g,bxC,a1C]
 rcases hok with ⟨rfl,hnb,rfl,rfl,hits⟩ | ⟨rfl,hb⟩
 case inr =>
  have hb:b3K l:=hb
  simp only [d7n,if_true]
  exact a7q r0 rfl k0 1 (fin 1 (by unfold a2x;rw [if_neg h8,if_neg (by simpa using hmag),if_neg hsh,if_neg (by simpa using hck),if_pos hb]))
 have hnb:¬ b3K l:=hnb
 have hgood:a2x l=(0,((12+dN l:Nat):Int),(dA l).1,(dM l).1,(dQ l).1):=by unfold a2x;rw [if_neg h8,if_neg (by simpa using hmag),if_neg hsh,if_neg (by simpa using hck),if_neg hnb]
 have om:SlOf 2 mkr (dM l).1 dm:=om
 have hits:its.map a1m=(dQ l).1:=hits
 simp only [d7m,d7d,if_false,svl,a0t,w4,bs]
 refine a4z (kk:=0) (off:=0) (row:=svr 0 .nils .nils) (v := .agg (svr (dA l).1 dm dq)) r0 (by rfl) (by rfl) (by exact Nat.le_refl _) (by rcases om with ⟨rfl,_⟩ | ⟨_,rfl⟩ <;> rcases oq with ⟨rfl,_⟩ | ⟨_,rfl⟩ <;> rfl) fun g9 p9 s9=>?_
 have p9:g9[h.length]?=some (.row a0f 3 [svr (dA l).1 dm dq]):=p9
 have ld9:a0b tab g9 a0f (.ptr h.length 0 0)=some (.agg (svr (dA l).1 dm dq)):=by rw [a3r,a0I p9];rfl
 have fM:frz h.length g9 2 dm=dm:=a2Z (n:=1) om fun a _=>a4Y _ g9 1 a
 have fQ:frz h.length g9 2 dq=dq:=a2Z (n:=1) oq fun a _=>a4q _ g9 0 a
 simp only [ld9,bs,a6T]
 rw [a1n (d' := .tup [.agg (svr (dA l).1 dm dq),.int .i64 ((12+dN l:Nat):Int),.int .i64 0]) (by
  show D.tup [D.agg [_,frz h.length g9 2 dm,frz h.length g9 2 dq],_,_]=_
  rw [fM,fQ];rfl) (by
  refine .tup _ fun d hd=>?_
  simp at hd
  rcases hd with rfl | rfl | rfl
  ·refine .agg _ fun d hd=>?_
   simp [-bind_some, svr] at hd
   rcases hd with rfl | rfl | rfl
   ·constructor
   ·exact a1K om fun a _=>b1H _ a
   ·exact a1K oq fun a _=>a8c _ a
  ·constructor
  ·constructor) (by rw [s9.1];omega) (fun q hq=>by rw [s9.2 q (by omega)];exact k0 q hq)]
 rw [hgood]
 exact .some ⟨dm,dq,its,rfl,om,oq,hits⟩
theorem c8q {n:Int} {ms:List FM} {k:Nat} (h:stC n ms k=0):ms.length≤1000∧k≤1000:=by
 unfold stC at h
 by_cases h1:n<0
 ·rw [if_pos h1] at h;cases h
 by_cases h2:a7d ms=false
 ·rw [if_neg h1,if_pos h2] at h;cases h
 by_cases h3:a6C ms=true
 ·rw [if_neg h1,if_neg h2,if_pos h3] at h;cases h
 by_cases h4:1000<ms.length∨1000<k
 ·rw [if_neg h1,if_neg h2,if_neg h3,if_pos h4] at h;cases h
 omega
theorem c2O (l:List Int):(a2x l).2.2.2.1.length≤1000∧(a2x l).2.2.2.2.length≤1000:=by
 unfold a2x
 by_cases h1:l.length<8
 ·rw [if_pos h1];simp [-bind_some]
 by_cases h2:l.take 4≠magS
 ·rw [if_neg h1,if_pos h2];simp [-bind_some]
 by_cases h3:l.length<12+dN l
 ·rw [if_neg h1,if_neg h2,if_pos h3];simp [-bind_some]
 by_cases h4:a2t (l.take (8+dN l))≠num ((l.drop (8+dN l)).take 4)
 ·rw [if_neg h1,if_neg h2,if_neg h3,if_pos h4];simp [-bind_some]
 by_cases h5:b3K l
 ·rw [if_neg h1,if_neg h2,if_neg h3,if_neg h4,if_pos h5];simp [-bind_some]
 ·rw [if_neg h1,if_neg h2,if_neg h3,if_neg h4,if_neg h5]
  have:stC (dA l).1 (dM l).1 (dQ l).1.length=0:=Classical.byContradiction fun h=>h5 (.inr (.inr h))
  exact c8q this
theorem OkI.nm {i:It} (h:OkI i):NmB i.e:=fun p hp=>by
 have:=(h.r.fs p hp).1
 omega
structure Bd (g:Hp) (n:Int) (dm dq:D):Prop where
 cm:CM g 0
 le:2≤g.length
 st:g[1]?=some (.row a0f 3 [svr n dm dq])
theorem Bd.cur {g g':Hp} {n:Int} {dm dq:D} (P:Bd g n dm dq) (hc:CM g' 0) (hs:Same 0 g g'):Bd g' n dm dq:=⟨hc,by have:=hs.1;have:=P.le;omega,by rw [hs.2 1 (by omega)];exact P.st⟩
theorem Bd.keep {g g':Hp} {n:Int} {dm dq:D} (P:Bd g n dm dq) (hl:g.length≤g'.length) (hk:∀ q,q<2→g'[q]?=g[q]?):Bd g' n dm dq:=⟨P.cm.keep (hk 0 (by omega)),Nat.le_trans P.le hl,by rw [hk 1 (by omega)];exact P.st⟩
theorem Bd.sta {g g':Hp} {n n':Int} {dm dq dm' dq':D} (P:Bd g n dm dq) (hp:g'[1]?=some (.row a0f 3 [svr n' dm' dq'])) (hs:Same 1 g g'):Bd g' n' dm' dq':=⟨P.cm.keep (hs.2 0 (by omega)),by have:=hs.1;have:=P.le;omega,hp⟩
def c9h (its:List It):Prop:=its.length≤4∧∀ i∈its,(a1r i).length≤10000000∧NmB i.e
def b9q (g:Hp):Prop:=∃ (n:Int) (dm dq:D) (ms:List FM) (its:List It),g[1]?=some (.row a0f 3 [svr n dm dq])∧SlOf 2 mkr ms (frz 0 g 2 dm)∧SlOf 11 itr its (frz 0 g 2 dq)∧ms.length≤1000000∧c9h its
theorem c0u {ms:List FM} {dm:D} (hm:SlOf 2 mkr ms dm) (g:Hp):SlOf 2 mkr ms (frz 0 g 2 dm):=by
 rw [a2Z (n:=1) hm fun a _=>a4Y _ g 1 a];exact hm
theorem b7I {its:List It} {dq:D} (hq:SlOf 11 itr its dq) (g:Hp):SlOf 11 itr its (frz 0 g 2 dq):=by
 rw [a2Z (n:=1) hq fun a _=>a4q _ g 0 a];exact hq
theorem c2H {n:Int} {dq:D} {g:Hp} (P:Bd g n .nils dq) (p13:D × Hp) (hp:p13.1 = .ptr 1 0 0) (a:D) {β:Type} {K:Out→Option β} {Q:β→Prop}
  (k:∀ g' dm b c,∀ ms:List FM,Bd g' n dm dq→Own g' 2 a0K 2 (ms.map mkr) dm→ms.length≤1001→Wp (K (.ext 1,[b,c],g')) Q) :
  Wp ((a0P (a9K (.ptr 0 0 0) p13) [.int .i64 0,a] g).bind K) Q:=by
 refine Wp.loop (fun r ds g=>∃ i:Nat,∃ y dm,∃ ms:List FM,ds=[.int .i64 i,y]∧r+i=1001∧ms.length=i∧Bd g n dm dq∧Own g 2 a0K 2 (ms.map mkr) dm)
  (fun r=>r.1 = .ext 1∧∃ b c dm,∃ ms:List FM,r.2.1=[b,c]∧Bd r.2.2 n dm dq∧Own r.2.2 2 a0K 2 (ms.map mkr) dm∧ms.length≤1001) 1001 ⟨0,_,.nils,[],rfl,rfl,rfl,P,.nils _ _ _ _⟩ ?_ ?_
 ·rintro r ds g ⟨i,y,dm,ms,rfl,hr,hl,P,ow⟩
  obtain ⟨w,g1,e1,c1,s1,w0,w1⟩:=m39 P.cm 2 (by omega) (by omega)
  have P1:=P.cur c1 s1
  have ow1:=ow.same s1 (by omega)
  have hw1:IntKind.wrap .i64 (1000+w)=1000+w:=wrap_i64 (by omega) (by omega)
  have hw:=wi_ i (by omega)
  simp only [a9K,a0g,a0q,bs,d7c,c7M,e1,a0t,hw1,a0n]
  refine Wp.dif ?_ ?_
  ·intro h0
   have h0:(i:Int)<1000+w:=by simpa using h0
   have ldm:a0b tab g1 a0C (.ptr 1 0 (0+1))=some dm:=by rw [b2A,a0I P1.st];rfl
   simp only [hp,a3Y,ldm,bs,b9B,a6f]
   refine a7b (ys:=[mkr ((i:Int),0)]) (n0:=2) P1.le ow1 (a1d _ _ _ _) (by simp;omega) fun dm' g3 ow3 l3 k3 _ _=>?_
   have P3:=P1.keep l3 k3
   simp only [bs]
   refine a7c (kk:=0) (row:=svr n dm dq) P3.st (by rfl) (by rw [(a0z (a1l ow3)).1];rfl) (by simp [-bind_some, svr]) (a0z (a1l ow3)).2 fun g4 p4 s4=>?_
   rw [(a0z (a1l ow3)).1] at p4
   have P4:Bd g4 n dm' dq:=P3.sta p4 s4
   simp only [bs,a0t,hw]
   refine .some (.inl ⟨rfl,r - 1,by omega,i+1,_,dm',ms++[((i:Int),0)],rfl,by omega,by simp;omega,P4,?_⟩)
   rw [d7j]
   exact ow3.same s4 (by omega)
  ·intro _
   exact .some (.inr ⟨by simp,rfl,_,_,dm,ms,rfl,P1,ow1,by omega⟩)
 ·rintro ⟨ex,ds,g⟩ ⟨rfl,b,c,dm,ms,rfl,P,ow,hl⟩
  exact k g dm b c ms P ow hl
theorem c9q (xs:List (List D)) (hx:xs.length=2) (all:∀ x∈xs,∃ (n:Int) (dm dq:D) (ms:List FM) (its:List It),x=svr n dm dq∧SlOf 2 mkr ms dm∧SlOf 11 itr its dq∧ms.length≤1000000∧c9h its) (G:Hp) (o:Nat) (pG:G[o]?=some (.row a0f 3 xs)) (p94:D × Hp) (hp:p94.1 = .msl 3 o 0 2) (ds:List D) (h6:nth 6 ds = .int .i64 0) (h00:nth 0 ds = .bool false)
  {β:Type} {K:Out→Option β} {Q:β→Prop} (k:∀ ds',nth 0 ds' = .bool false→Wp (K (.ext 3,ds',G)) Q):Wp ((a0P (a9L p94 (.int .i64 (2:Nat))) ds G).bind K) Q:=by
 refine Wp.loop (fun m ds g=>g=G∧nth 0 ds = .bool false∧∃ n:Nat,nth 6 ds = .int .i64 (n:Nat)∧m+n=2) (fun r=>r.1 = .ext 3∧r.2.2=G∧nth 0 r.2.1 = .bool false) 2 ⟨rfl,h00,0,h6,rfl⟩ ?_ ?_
 ·rintro m ds g ⟨rfl,hb,i,hn,hm⟩
  simp only [a9L,hn,hb,bs,d7c,a0n]
  refine Wp.dif ?_ ?_
  ·intro h0
   have h0:i<2:=by
    have:(i:Int)<((2:Nat):Int):=by simpa using h0
    omega
   obtain ⟨q,hq⟩:∃ q,xs[i]?=some q:=⟨xs[i]'(by omega),d7r (by omega)⟩
   obtain ⟨n,dm,dq,ms,its,rfl,om,oq,hml,hil,hib⟩:=all q (d7q hq)
   have hw:=wi_ i (by omega)
   have hix:a0c tab a8y (.msl 3 o 0 2) (.int .i64 i)=some (.ptr o i 0):=by rw [c3s,if_pos (by omega)];simp [-bind_some]
   have hld:a0b tab g a0f (.ptr o i 0)=some (.agg (svr n dm dq)):=by rw [a3r,a0I pG,hq];rfl
   have hT:=a2E a2N 10000008 its fun i hi=>by have:=(hib i hi).1;rw [a3y];omega
   have hmul:its.length*10000008≤4*10000008:=Nat.mul_le_mul_right _ hil
   obtain ⟨d1,e1,o1⟩:=c8h n ms its dm dq g om oq hml (by omega) (fun i hi=>by have:=(hib i hi).1;omega) (fun i _ g=>b5d i g)
   obtain ⟨d2,e2,o2⟩:=c8l n ms its dm dq g om oq (by omega) (by omega) (fun i hi=>by have:=(hib i hi).1;omega) (fun i hi g=>b5c i g (hib i hi).2)
   have bxA:a3s 3 (.agg (svr n dm dq))=some (.fptr (svr n dm dq)):=a1T 3 _ rfl
   simp only [hp,hix,hld,bs,bxA,svl,c3V,e1,a0J,d7f,d7g,b8C,e2,a0w,ne_eq,not_true,decide_false,a0o,if_true,a5u o1,a5u o2,a2e,beq_self_eq_true,d7m,a0e,d7d,if_false,a0d,a0t,hw]
   exact .some (.inl ⟨rfl,m - 1,by omega,rfl,rfl,i+1,rfl,by omega⟩)
  ·intro h0
   exact .some (.inr ⟨by simp,rfl,rfl,rfl⟩)
 ·rintro ⟨ex,ds,g⟩ ⟨r1,r2,r3⟩
  simp only at r1 r2 r3
  subst r1;subst r2
  exact k _ r3
theorem c9p (xs:List D) (hx:xs.length=6) (all:∀ x∈xs,∃ l,SlOf 1 byr l x∧l.length≤600000000∧∀ z∈l,U8 z) (G:Hp) (o:Nat) (pG:G[o]?=some (.row a0N 1 (xs.map fun x=>[x]))) (p168:D × Hp) (hp:p168.1 = .msl 1 o 0 6) (ds:List D) (h8:nth 8 ds = .int .i64 0)
  {β:Type} {K:Out→Option β} {Q:β→Prop} (k:∀ ds',Wp (K (.ext 5,ds',G)) Q):Wp ((a0P (a9M p168 (.int .i64 (6:Nat))) ds G).bind K) Q:=by
 refine Wp.loop (fun m ds g=>g=G∧∃ n:Nat,nth 8 ds = .int .i64 (n:Nat)∧m+n=6) (fun r=>r.1 = .ext 5∧r.2.2=G) 6 ⟨rfl,0,h8,rfl⟩ ?_ ?_
 ·rintro m ds g ⟨rfl,i,hn,hm⟩
  simp only [a9M,hn,bs,d7c,a0n]
  refine Wp.dif ?_ ?_
  ·intro h0
   have h0:i<6:=by
    have:(i:Int)<((6:Nat):Int):=by simpa using h0
    omega
   obtain ⟨q,hq⟩:∃ q,xs[i]?=some q:=⟨xs[i]'(by omega),d7r (by omega)⟩
   have hw:=wi_ i (by omega)
   have hix:a0c tab a5h (.msl 1 o 0 6) (.int .i64 i)=some (.ptr o i 0):=by rw [c3q,if_pos (by omega)];simp [-bind_some]
   have hld:a0b tab g a0N (.ptr o i 0)=some q:=by rw [b7T,a0I pG,d7p,hq];rfl
   obtain ⟨l,hsl,hll,hlu⟩:=all q (d7q hq)
   obtain ⟨dm,dq,its,e1,om,oq,oe⟩:=c8k l q g hsl (by omega) hlu
   obtain ⟨dm2,dq2,its2,e2,om2,oq2,oe2⟩:=d3j l q g hsl hll hlu
   have hle:=c2O l
   have hi1:its.length=(a2x l).2.2.2.2.length:=by have:=congrArg List.length oe;simpa using this
   have e5:=d3f (a2x l).2.2.1 (a2x l).2.2.2.1 its its2 dm dm2 dq dq2 g om om2 oq oq2 (oe.trans oe2.symm) (by omega) (by omega)
   have bxA:a3s 3 (.agg (svr (a2x l).2.2.1 dm dq))=some (.fptr (svr (a2x l).2.2.1 dm dq)):=a1T 3 _ rfl
   have bxB:a3s 3 (.agg (svr (a2x l).2.2.1 dm2 dq2))=some (.fptr (svr (a2x l).2.2.1 dm2 dq2)):=a1T 3 _ rfl
   simp only [hp,hix,hld,c3W,e1,bs,a0J,d7f,d7g,bxA,c3X,e2,bxB,a0w,ne_eq,not_true,decide_false,a0o,a1g,if_true,svl,c3U,e5,a1C,d7m,a0e,d7d,if_false,a0d,a0t,hw]
   exact .some (.inl ⟨rfl,m - 1,by omega,rfl,i+1,rfl,by omega⟩)
  ·intro h0
   exact .some (.inr ⟨by simp,rfl,rfl⟩)
 ·rintro ⟨ex,ds,g⟩ ⟨r1,r2⟩
  simp only at r1 r2
  subst r1;subst r2
  exact k _
theorem c3w (rs:List Int) (dr:D) (zs:List Int) (d:D) (at_ by_ odd:Int) (hr:a5w .u8 rs dr) (hrz:∀ z∈rs,0≤z∧z<256) (hrl:rs.length≤1048576) (hd:a5w .u8 zs d) (hz:∀ z∈zs,0≤z∧z<256) (hzl:zs.length≤9223372036854775807) (ha0:0≤at_) (ha1:at_<65536) :
  ∃ h',R1 b4r [dr,d,.int .u16 at_,.int .u8 by_,.int .i64 odd] []=some (.bool true,h'):=by
 suffices Wp (R1 b4r [dr,d,.int .u16 at_,.int .u8 by_,.int .i64 odd] []) (fun p=>p.1 = .bool true) by
  obtain ⟨⟨x,h'⟩,h1,rfl⟩:=this
  exact ⟨h',h1⟩
 have hsc:∀ g':Hp,scope [] g' (.bool true)=some (.bool true,[]):=fun g'=>a1n (by simp) (.bool _) (by simp) (fun q hq=>by cases hq)
 have hrs:=c0v hr
 obtain ⟨g0,e0,c0,l0,_⟩:=m10 zs d 240 [] hd (by omega) (by omega) hz hzl
 have l0:g0.length=1:=l0
 have c0:CM g0 0:=c0
 have e0:R c3a [d,.int .i64 240] []=some (.ptr 0 0 0,g0):=e0
 obtain ⟨n,ms,its,dm,dq,g2,e2,hm,hq,n0,n1,ha,hok,hil,c2,s2⟩:=d2m c0
 have e2:R a7i [.ptr 0 0 0] g0=some (.agg (svr n dm dq),g2):=e2
 obtain ⟨ok,hle⟩:=b0a n0 n1 ha hok hil
 have l2:g2.length=1:=by rw [← l0];exact s2.1
 have bxA:a3s 3 (.agg (svr n dm dq))=some (.fptr (svr n dm dq)):=a1T 3 _ rfl
 have okv:(D.agg (svr n dm dq)).okv=true:=by
  rcases hm with ⟨rfl,_⟩ | ⟨_,rfl⟩ <;> rcases hq with ⟨rfl,_⟩ | ⟨_,rfl⟩ <;> rfl
 have r3:(a0H g2 a0f 3 [[.int .i64 0,.nils,.nils]])[1]?=some (.row a0f 3 [svr 0 .nils .nils]):=by rw [← l2];exact a1a _ _ _ _
 have l3:(a0H g2 a0f 3 [[.int .i64 0,.nils,.nils]]).length=2:=by rw [a2C,l2]
 have k3:∀ q,q<1→(a0H g2 a0f 3 [[.int .i64 0,.nils,.nils]])[q]?=g2[q]?:=fun q hq=>a0W _ _ _ _ (by omega)
 rw [d0Y]
 simp only [c6k,d3d,bs,a1C,d7m,a0d,d7d,if_false,d2v,e0,c3S,e2,bxA,svl,l2,d7c]
 generalize a0H g2 a0f 3 [[.int .i64 0,.nils,.nils]]=g3 at *
 refine a4z (kk:=0) (off:=0) (row:=svr 0 .nils .nils) (v := .agg (svr n dm dq)) r3 (by rfl) (by rfl) (by exact Nat.le_refl _) okv fun g4 p4 s4=>?_
 have p4:g4[1]?=some (.row a0f 3 [svr n dm dq]):=p4
 have P4:Bd g4 n dm dq:=⟨(c2.keep (k3 0 (by omega))).keep (s4.2 0 (by omega)),by have:=s4.1;omega,p4⟩
 obtain ⟨v,g5,e5,c5,s5,v0,v1⟩:=m39 P4.cm 5 (by omega) (by omega)
 have P5:=P4.cur c5 s5
 have sIs:c9h its:=⟨by omega,fun i hi=>⟨by have:=(hok i hi).b;omega,(hok i hi).nm⟩⟩
 have mle:ms.length≤1000000:=by have:=ok.le.1;simp only at this;omega
 simp only [bs,c7M,e5,a0Q,d7c]
 -- the state is spoiled
 refine Wp.join (P:=fun r:Out=>r.1 = .nrm∧b9q r.2.2) ?_ ?_ ?_
 ·intro _
  simp only [bs,b1e,d7c]
  refine b0H (kk:=0) (off:=0+0) (row:=svr n dm dq) (v := .int .i64 odd) P5.st (by rfl) (by rfl) (by simp [-bind_some, svr]) (by rfl) fun g6 p6 s6=>?_
  try simp only [bs]
  exact .some ⟨rfl,odd,dm,dq,ms,its,p6,c0u hm _,b7I hq _,mle,sIs⟩
 ·intro _
  try simp only [bs,a0Q,d7c]
  refine Wp.join (P:=fun r:Out=>r.1 = .nrm∧b9q r.2.2) ?_ ?_ fun r hr => .some ⟨hr.1,hr.2⟩
  ·intro _
   simp only [bs,c0n,sv1,a3J,d7c]
   refine a7b (n0:=2) (rows:=[]) P5.le (.nils _ _ _ _) (a2L _ hm) (by simp only [d7i,d7u];omega) fun x6 g6 o6 l6 k6 _ _=>?_
   rw [List.nil_append] at o6
   have P6:=P5.keep l6 k6
   obtain ⟨v1,g7,e7,c7,s7⟩:=c7u P6.cm
   have P7:=P6.cur c7 s7
   obtain ⟨v2,g8,e8,c8,s8⟩:=c7u P7.cm
   have P8:=P7.cur c8 s8
   have o8:=(o6.same s7 (by omega)).same s8 (by omega)
   simp only [bs,c7L,e7,e8,a5m,a6f,d7c]
   refine a7b (ys:=[mkr (v1,v2)]) (n0:=2) P8.le o8 (a1d _ _ _ _) (by simp only [d7i,d7t,d7u];omega) fun x9 g9 o9 l9 k9 _ _=>?_
   have P9:=P8.keep l9 k9
   have one9:=a0z (a1l o9)
   simp only [bs,a3Y]
   refine a7c (kk:=0) (off:=0+1) (row:=svr n dm dq) P9.st (by rfl) (by rw [one9.1];rfl) (by simp [-bind_some, svr]) one9.2 fun g10 p10 s10=>?_
   rw [one9.1] at p10
   have o10:=o9.same s10 (by omega)
   have o10:Own g10 2 a0K 2 ((ms++[(v1,v2)]).map mkr) x9:=by rw [d7j];exact o10
   try simp only [bs]
   exact .some ⟨rfl,n,x9,dq,ms++[(v1,v2)],its,p10,a2g (n0:=0) (n:=1) (o10.from (Nat.zero_le _)) (Nat.le_refl _) (fun a _=>a4Y _ g10 1 a),b7I hq _,by have:=ok.le.1;simp only at this;simp [-bind_some];omega,sIs⟩
  ·intro _
   try simp only [bs,a0Q,d7c]
   refine Wp.join (P:=fun r:Out=>r.1 = .nrm∧b9q r.2.2) ?_ ?_ fun r hr => .some ⟨hr.1,hr.2⟩
   ·intro _
    have hlit:SlOf 2 mkr [((1,odd):FM)] (.sl 2 true [[.int .i64 1,.int .i64 odd]]) := .mk _ _ [((1,odd):FM)] true
    simp only [bs,a5m,a6f,a3Y,d7c]
    refine a7c (kk:=0) (off:=0+1) (row:=svr n dm dq) P5.st (by rfl) (by rfl) (by simp [-bind_some, svr]) (by rfl) fun g6 p6 s6=>?_
    try simp only [bs]
    exact .some ⟨rfl,n,_,dq,[(1,odd)],its,p6,c0u hlit _,b7I hq _,by simp,sIs⟩
   ·intro _
    try simp only [bs,a0Q,d7c]
    refine Wp.join (P:=fun r:Out=>r.1 = .nrm∧b9q r.2.2) ?_ ?_ fun r hr => .some ⟨hr.1,hr.2⟩
    ·intro _
     simp only [bs,c0o,sv2,b2z,d7c]
     refine b1X (n0:=2) (rows:=[]) P5.le (.nils _ _ _ _) (a2L _ hq) (by simp only [d7i,d7u];omega) fun x6 g6 o6 l6 k6 _ _=>?_
     rw [List.nil_append] at o6
     have P6:=P5.keep l6 k6
     obtain ⟨i,g7,e7,c7,s7,hi⟩:=c7t P6.cm
     have P7:=P6.cur c7 s7
     obtain ⟨j,g8,e8,c8,s8,Bj⟩:=d2l c7 (by omega) (by omega) i (c7a hi)
     have P8:=P7.cur c8 s8
     have o8:=(o6.same s7 (by omega)).same s8 (by omega)
     have hlit:a0X tab a1x 1 [0] [.agg (itr j)]=some (.sl 11 true [itr j]):=id rfl
     simp only [bs,c3O,e7,c3R,e8,hlit,d7c]
     refine b1X (ys:=[itr j]) (n0:=2) P8.le o8 (a1d _ _ _ _) (by simp only [d7i,d7t,d7u];omega) fun x9 g9 o9 l9 k9 _ _=>?_
     have P9:=P8.keep l9 k9
     have one9:=a0z (a1l o9)
     simp only [bs,a6s]
     refine b5k (kk:=0) (off:=0+2) (row:=svr n dm dq) P9.st (by rfl) (by rw [one9.1];rfl) (by simp [-bind_some, svr]) one9.2 fun g10 p10 s10=>?_
     rw [one9.1] at p10
     have o10:=o9.same s10 (by omega)
     have o10:Own g10 2 a0L 11 ((its++[j]).map itr) x9:=by rw [d7j];exact o10
     try simp only [bs]
     refine .some ⟨rfl,n,dm,x9,ms,its++[j],p10,c0u hm _,a2g (n0:=0) (n:=1) (o10.from (Nat.zero_le _)) (Nat.le_refl _) (fun a _=>a4q _ g10 0 a),mle,by simp;omega,fun y hy=>?_⟩
     rcases d7y.1 hy with hy | hy
     ·exact sIs.2 y hy
     ·simp at hy
      subst hy
      exact ⟨c3Y Bj (by omega) (by omega),d2C Bj⟩
    ·intro _
     simp only [bs,a3Y,d7c]
     refine a7c (kk:=0) (off:=0+1) (row:=svr n dm dq) P5.st (by rfl) (by rfl) (by simp [-bind_some, svr]) (by rfl) fun g6 p6 s6=>?_
     have P6:Bd g6 n .nils dq:=P5.sta p6 s6
     try simp only [bs]
     refine c2H P6 _ rfl _ fun g7 x7 b c ms7 P7 o7 hl7=>?_
     simp only [bs,a0r]
     exact .some ⟨rfl,n,x7,dq,ms7,its,P7.st,a2g (n0:=0) (n:=1) (o7.from (Nat.zero_le _)) (Nat.le_refl _) (fun a _=>a4Y _ g7 1 a),b7I hq _,by omega,sIs⟩
 -- both states are encoded
 rintro ⟨ex,ds,g⟩ ⟨r1,nB,dmB,dqB,msB,itB,pB,mB,qB,lB,sB⟩
 simp only at r1 pB mB qB
 subst r1
 have hT:(its.map a2N).flatten.length≤3*20008:=Nat.le_trans (b1y hok) (Nat.mul_le_mul_right _ hil)
 have mA:=c0u hm g
 have qA:=b7I hq g
 have ldBx:a0b tab g a0f (.ptr 1 0 0)=some (.agg (svr nB dmB dqB)):=by rw [a3r,a0I pB];rfl
 have fA:frz 0 g 3 (.agg (svr n dm dq)) = .agg [.int .i64 n,frz 0 g 2 dm,frz 0 g 2 dq]:=id rfl
 have fB:frz 0 g 3 (.agg (svr nB dmB dqB)) = .agg [.int .i64 nB,frz 0 g 2 dmB,frz 0 g 2 dqB]:=id rfl
 have unb:a0T 0 Ex.nrm = .nrm:=id rfl
 simp only [unb,a0s,bs,svl,ldBx,fA,fB,b6C,c0H,d7c]
 generalize g.map (fun _=>Ob.dead)=gd
 have pG:(a0H gd a0f 3 [svr n (frz 0 g 2 dm) (frz 0 g 2 dq),svr nB (frz 0 g 2 dmB) (frz 0 g 2 dqB)])[gd.length]?=some (.row a0f 3 [svr n (frz 0 g 2 dm) (frz 0 g 2 dq),svr nB (frz 0 g 2 dmB) (frz 0 g 2 dqB)]):=a1a _ _ _ _
 have hP:((D.msl 3 gd.length 0 2,a0H gd a0f 3 [svr n (frz 0 g 2 dm) (frz 0 g 2 dq),svr nB (frz 0 g 2 dmB) (frz 0 g 2 dqB)]):D × Hp).1 = .msl 3 gd.length 0 2:=rfl
 refine c9q [svr n (frz 0 g 2 dm) (frz 0 g 2 dq),svr nB (frz 0 g 2 dmB) (frz 0 g 2 dqB)] rfl (fun x hx=>?_) _ gd.length pG _ hP _ rfl rfl fun ds' hb=>?_
 ·simp only [d7x,List.not_mem_nil,or_false] at hx
  rcases hx with rfl | rfl
  ·exact ⟨_,_,_,ms,its,rfl,mA,qA,mle,sIs⟩
  ·exact ⟨_,_,_,msB,itB,rfl,mB,qB,lB,sB⟩
 clear ldBx fA fB mA qA mB qB pB lB sB hP
 generalize a0H gd a0f 3 [svr n (frz 0 g 2 dm) (frz 0 g 2 dq),svr nB (frz 0 g 2 dmB) (frz 0 g 2 dqB)]=G at *
 clear pG
 -- the bytes of the state
 obtain ⟨tb,eb,sb⟩:=c8l n ms its dm dq G hm hq (by omega) (by omega) (fun i hi=>by have:=(sIs.2 i hi).1;omega) (fun i hi g=>b5c i g (sIs.2 i hi).2)
 have hst:stE n ms its=0:=ok.e
 rw [hst] at eb
 rw [if_pos hst] at sb
 have hL12:=b3R (n,ms,its)
 have hLu:=b7a n ms its
 have hLl:(b0b n ms its).length≤61000:=hle
 have hL12:12≤(b0b n ms its).length:=hL12
 simp only [a0r,a0s,bs,hb,svl,b8C,eb,a0J,d7f,d7g,d7c,a0g,a0q]
 generalize b0b n ms its=L at *
 refine b2V (n0:=G.length) (rows:=[]) (Nat.le_refl _) (.nils _ _ _ _) (a2L _ sb) (by simp only [d7i,d7u];omega) fun x81 g81 o81 lx81 k81 _ _=>?_
 rw [List.nil_append] at o81
 obtain ⟨o,ho,rfl,p81⟩:=a8m o81 (i:=0) (by simp only [d7i];omega)
 simp only [d7i]
 have hwa:IntKind.wrap .i64 at_=at_:=wrap_i64 (by omega) (by omega)
 have hne:¬ ((L.length:Int)=0):=by omega
 have hp0:=Int.tmod_nonneg (L.length:Int) ha0
 have hp1:=Int.tmod_lt_of_pos at_ (show (0:Int)<(L.length:Int) by omega)
 obtain ⟨p,hp⟩:=Int.eq_ofNat_of_zero_le hp0
 rw [hp] at hp1
 obtain ⟨z,hz1⟩:∃ z,L[p]?=some z:=⟨_,d7r (by omega)⟩
 have hixp:a0c tab a0N (.msl 1 o 0 L.length) (.int .i64 (p:Int))=some (.ptr o p 0):=by rw [b5C,if_pos (by omega)];simp [-bind_some]
 have hldp:a0b tab g81 ty5 (.ptr o p 0)=some (.int .u8 z):=by rw [c8P,a0I p81,d7p,hz1];rfl
 simp only [bs,a7m,b3J,hwa,a3j,hne,if_false,hp,hixp,hldp,b9U]
 try simp only [d7c]
 generalize hW:IntKind.wrap .u8 ((BitVec.ofInt IntKind.u8.bits z ^^^ BitVec.ofInt IntKind.u8.bits by_).toNat:Int)=W
 have hWu:U8 W:=by
  rw [← hW,a6J];unfold U8;omega
 refine d6V (kk:=p) (off:=0) (row:=byr z) (v := .int .u8 W) p81 (by rw [d7p,hz1];rfl) (by rfl) (by simp [-bind_some, byr]) (by rfl) fun g91 p91 st91=>?_
 have hset:(L.map byr).set p (spl (byr z) 0 (a0B (.int .u8 W)))=(L.set p W).map byr:=by
  rw [show spl (byr z) 0 (a0B (.int .u8 W))=byr W from rfl,List.map_set]
 rw [hset] at p91
 have hlen1:(L.set p W).length=L.length:=by simp
 have hu1:∀ x∈L.set p W,U8 x:=fun x hx=>by
  rcases List.mem_or_eq_of_mem_set hx with hx | rfl
  ·exact hLu x hx
  ·exact hWu
 generalize L.set p W=l1 at *
 clear hset hW hixp hldp hz1 hp1 hp hp0 hne
 -- the bytes with the checksum made right
 have hw4:IntKind.wrap .i64 ((L.length:Int) - 4)=((L.length - 4:Nat):Int):=by rw [wrap_i64 (by omega) (by omega)];omega
 have hsl:a0A tab a0N false true false [.msl 1 o 0 L.length,.int .i64 ((L.length - 4:Nat):Int)]=some (.msl 1 o 0 (L.length - 4)):=c7y (T:=tab) (t:=a0N) (i:=ti22) (j:=ti5) (id rfl) (id rfl) (id rfl) (id rfl) (by decide) (by omega)
 have htk:(l1.take (L.length - 4)).length=L.length - 4:=by simp;omega
 have hout:o<g91.length:=(d7s.1 p91).1
 have r91:a1R g91 1 (.msl 1 o 0 (L.length - 4))=some ((l1.take (L.length - 4)).map byr):=by
  simp [-bind_some, a1R,p91,List.map_take]
 simp only [bs,a7m,a0D,hw4,hsl,d7c]
 refine b2V (n0:=g91.length) (rows:=[]) (Nat.le_refl _) (.nils _ _ _ _) r91 (by simp only [d7i,d7u];omega) fun x97 g97 o97 lx97 k97 _ _=>?_
 rw [List.nil_append] at o97
 have hp97:g97[o]?=some (.row ty5 1 ((l1.take (L.length - 4)).map byr++(l1.drop (L.length - 4)).map byr)):=by rw [k97 o hout,p91,← d7j,List.take_append_drop]
 have hck:=c8e (l1.take (L.length - 4)) o _ g97 hp97 (by omega) fun x hx=>hu1 x (List.mem_of_mem_take hx)
 rw [htk] at hck
 obtain ⟨x12,g12,e12,B⟩:=b0A (a2t (l1.take (L.length - 4))) 4 (by omega) g91.length g97 (l1.take (L.length - 4)) x97 lx97 o97 (by omega)
 have e12:R a2l [x97,.int .u64 (a2t (l1.take (L.length - 4))),.int .i64 4] g97=some (x12,g12):=e12
 have hl2:(l1.take (L.length - 4)++a3B 4 (a2t (l1.take (L.length - 4)))).length=L.length:=by
  rw [d7h,htk,a1b];omega
 have hu2:∀ x∈l1.take (L.length - 4)++a3B 4 (a2t (l1.take (L.length - 4))),U8 x:=fun x hx=>by
  rcases d7y.1 hx with hx | hx
  ·exact hu1 x (List.mem_of_mem_take hx)
  ·exact a4t _ _ x hx
 have o12:=B.ow
 have q12:g12[o]?=some (.row ty5 1 (l1.map byr)):=by
  rw [B.old o (by omega) fun hin=>by have:=(o97.lt hin).1;omega,k97 o hout];exact p91
 have lx12:=B.len
 clear B
 have hwm:IntKind.wrap .i64 ((L.length:Int)+1)=((L.length+1:Nat):Int):=by rw [wrap_i64 (by omega) (by omega)];omega
 have hm0:=Int.tmod_nonneg ((L.length+1:Nat):Int) ha0
 have hm1:=Int.tmod_lt_of_pos at_ (show (0:Int)<((L.length+1:Nat):Int) by omega)
 have hne1:¬ (((L.length+1:Nat):Int)=0):=by omega
 obtain ⟨d24,e24,sl24⟩:=a8M sb (k := .i64) (n:=at_.tmod ((L.length+1:Nat):Int)) hm0 (by omega)
 simp only [bs,a7m,a0D,hw4,hsl,c3Q,hck,c3P,e12,b3J,hwa,a1Z sb,a0t,hwm,a3j,hne1,if_false,e24,d7c]
 generalize l1.take (L.length - 4)++a3B 4 (a2t (l1.take (L.length - 4)))=l2 at *
 refine b2V (n0:=g12.length) (rows:=[]) (Nat.le_refl _) (.nils _ _ _ _) (a2L _ sb) (by simp only [d7i,d7u];omega) fun x26 g26 o26 lx26 k26 _ _=>?_
 rw [List.nil_append] at o26
 try simp only [bs]
 refine b2V (n0:=g12.length) lx26 o26 (a2L _ hrs) (by simp only [d7i];omega) fun x28 g28 o28 lx28 k28 _ _=>?_
 rw [← d7j] at o28
 try simp only [bs]
 have m1:g28[o]?=some (.row ty5 1 (l1.map byr)):=by rw [k28 _ (by omega),k26 _ (by omega)];exact q12
 have m2:Own g28 g91.length ty5 1 (l2.map byr) x12:=o12.keep fun q hq hin=>by
  have:=(o12.lt hin).2
  rw [k28 _ (by omega),k26 _ (by omega)]
 have fz:∀ (l:List Int),∀ a∈l,∀ d∈byr a,frz 0 g28 2 d=d:=fun l a _ d hd=>by
  simp only [byr,List.mem_singleton] at hd;subst hd;exact b2t _ _ _ _ _
 have fs:∀ {l:List Int} {d:D},SlOf 1 byr l d→SlOf 1 byr l (frz 0 g28 3 d):=fun {l d} h=>by rw [a2Z h (fz l)];exact h
 have f0:=fs hrs
 have f1:=fs sb
 have f2:SlOf 1 byr l1 (frz 0 g28 3 (.msl 1 o 0 L.length)):=a2g (n0:=0) (n1:=0) (.inr ⟨o,by omega,by rw [d7i,hlen1],m1⟩) (Nat.le_refl _) (fz l1)
 have f3:SlOf 1 byr l2 (frz 0 g28 3 x12):=a2g (n0:=0) (m2.from (Nat.zero_le _)) (Nat.le_refl _) (fz l2)
 have f4:=fs sl24
 have f5:SlOf 1 byr (L++rs) (frz 0 g28 3 x28):=a2g (n0:=0) o28 (by omega) (fz _)
 generalize frz 0 g28 3 dr=d0 at *
 generalize frz 0 g28 3 tb=d1 at *
 generalize frz 0 g28 3 (.msl 1 o 0 L.length)=d2 at *
 generalize frz 0 g28 3 x12=d3 at *
 generalize frz 0 g28 3 d24=d4 at *
 generalize frz 0 g28 3 x28=d5 at *
 rw [b6B _ d0 d1 d2 d3 d4 d5 (a1v f0) (a1v f1) (a1v f2) (a1v f3) (a1v f4) (a1v f5)]
 have all:∀ x∈[d0,d1,d2,d3,d4,d5],∃ l,SlOf 1 byr l x∧l.length≤600000000∧∀ z∈l,U8 z:=fun x hx=>by
  simp only [d7x,List.not_mem_nil,or_false] at hx
  rcases hx with rfl | rfl | rfl | rfl | rfl | rfl
  ·exact ⟨_,f0,by omega,hrz⟩
  ·exact ⟨_,f1,by omega,hLu⟩
  ·exact ⟨_,f2,by omega,hu1⟩
  ·exact ⟨_,f3,by omega,hu2⟩
  ·exact ⟨_,f4,by simp;omega,fun z hz=>hLu z (List.mem_of_mem_take hz)⟩
  ·exact ⟨_,f5,by simp;omega,fun z hz=>by
     rcases d7y.1 hz with hz | hz
     ·exact hLu z hz
     ·exact hrz z hz⟩
 generalize g28.map (fun _=>Ob.dead)=gd2
 have pG2:(a0H gd2 a0N 1 [[d0],[d1],[d2],[d3],[d4],[d5]])[gd2.length]?=some (.row a0N 1 ([d0,d1,d2,d3,d4,d5].map fun x=>[x])):=a1a _ _ _ _
 have hP2:((D.msl 1 gd2.length 0 6,a0H gd2 a0N 1 [[d0],[d1],[d2],[d3],[d4],[d5]]):D × Hp).1 = .msl 1 gd2.length 0 6:=rfl
 simp only [bs,c0F]
 refine c9p [d0,d1,d2,d3,d4,d5] rfl all _ gd2.length pG2 _ hP2 _ rfl fun ds2=>?_
 simp only [bs,a0r,a0s,a0j,hsc]
 exact .some rfl
theorem c0D (rs:List Int) (dr:D) (zs:List Int) (d:D) (at_ by_ odd:Int) (hr:a5w .u8 rs dr) (hrz:∀ z∈rs,0≤z∧z<256) (hrl:rs.length≤1048576) (hd:a5w .u8 zs d) (hz:∀ z∈zs,0≤z∧z<256) (hzl:zs.length≤9223372036854775807) (ha:(Lit.int .u16 at_).wf=true) :
  ∃ h',R1 b4r [dr,d,.int .u16 at_,.int .u8 by_,.int .i64 odd] []=some (.bool true,h'):=by
 have h1:0≤at_∧at_<65536:=by
  simp only [Lit.wf,Bool.and_eq_true,decide_eq_true_eq] at ha
  have h1:IntKind.min .u16=0:=rfl
  have h2:IntKind.max .u16=65535:=rfl
  omega
 exact c3w rs dr zs d at_ by_ odd hr hrz hrl hd hz hzl h1.1 h1.2
end Go.Proofs.YtjmndhbabkjebaaGreatDoor

/- Laws, on plain data, about functions that the statement reaches. -/
import Derived.Test.YtjmndhbabkjebaaGreatDoorL4
set_option linter.unusedSimpArgs false
set_option linter.unusedVariables false
set_option linter.unnecessarySimpa false
set_option maxRecDepth 100000
namespace Go.Proofs.YtjmndhbabkjebaaGreatDoor
open Go.Eng Go.Pi
open Option (bind_some)
theorem d3c (l:List Int) (d:D) (h:Hp) (hd:SlOf 1 byr l d) (hl:l.length≤1000000000) (hu:∀ z∈l,U8 z) :
  ∃ dm dq its,R a4A [d] h=some (.tup [.agg (svr (a2d l).2.2.1 dm dq),.int .i64 (a2d l).2.1,.int .i64 (a2d l).1],h)∧SlOf 2 mkr (a2d l).2.2.2.1 dm∧SlOf 11 itr its dq∧its.map a1Y=(a2d l).2.2.2.2:=by
 suffices Wp (R a4A [d] h) (fun p=>∃ dm dq its,p=(.tup [.agg (svr (a2d l).2.2.1 dm dq),.int .i64 (a2d l).2.1,.int .i64 (a2d l).1],h)∧SlOf 2 mkr (a2d l).2.2.2.1 dm∧SlOf 11 itr its dq∧its.map a1Y=(a2d l).2.2.2.2) by
  obtain ⟨p,h1,dm,dq,its,rfl,h2⟩:=this
  exact ⟨dm,dq,its,h1,h2⟩
 have fin:∀ e,a2d l=(e,0,0,[],[])→∃ dm dq its,((.tup [.agg (svr 0 .nils .nils),.int .i64 0,.int .i64 e],h):D × Hp)=(.tup [.agg (svr (a2d l).2.2.1 dm dq),.int .i64 (a2d l).2.1,.int .i64 (a2d l).1],h)∧SlOf 2 mkr (a2d l).2.2.2.1 dm∧SlOf 11 itr its dq∧its.map a1Y=(a2d l).2.2.2.2:=fun e he=>by
  rw [he];exact ⟨.nils,.nils,[],rfl,.nils _ _,.nils _ _,rfl⟩
 have r0:(a0I h a0g 3 [[.int .i64 0,.nils,.nils]])[h.length]?=some (.row a0g 3 [svr 0 .nils .nils]):=a1h _ _ _ _
 have l0:(a0I h a0g 3 [[.int .i64 0,.nils,.nils]]).length=h.length+1:=by simp [-bind_some, a0I]
 have k0:∀ q,q<h.length→(a0I h a0g 3 [[.int .i64 0,.nils,.nils]])[q]?=h[q]?:=fun q hq=>a0Y _ _ _ _ hq
 rw [d0E]
 simp only [c5V,bs,a1P hd,a0k,b2b,d6W]
 generalize a0I h a0g 3 [[.int .i64 0,.nils,.nils]]=g0 at *
 by_cases h8:l.length<8
 ·have h8':(l.length:Int)<8:=by omega
  simp only [h8',decide_true,a0c,if_true]
  exact a7m r0 rfl k0 14 (fin 14 (by unfold a2d;rw [if_pos h8]))
 have h8':¬ (l.length:Int)<8:=by omega
 obtain ⟨d8,e8,s8⟩:=a8F hd (k := .i64) (n:=8) (by omega) (by omega)
 have s8:SlOf 1 byr (l.take 8) d8:=s8
 have epre:=d3d (bys (l.take 8)) [76,84,49,10] g0 (by simp [-bind_some, bys];omega)
 rw [c3w l hu (by omega)] at epre
 simp only [h8',decide_false,a0c,d6X,if_false,e8,bs,a3O s8,epre,a1y]
 by_cases hmag:l.take 4=magS
 case neg =>
  have hm:decide (l.take 4=magS)=false:=decide_eq_false hmag
  simp only [hm,d7i,if_true]
  exact a7m r0 rfl k0 1 (fin 1 (by unfold a2d;rw [if_neg h8,if_pos hmag]))
 have hm:decide (l.take 4=magS)=true:=decide_eq_true hmag
 obtain ⟨dc,ec,sc⟩:=a4N hd 4 8 (by omega) (by omega)
 have lc:(l.take 8).drop 4=(l.drop 4).take 4:=by rw [List.drop_take]
 rw [lc] at sc
 have ec:a0A tab a0J true true false [d,.int .i64 4,.int .i64 8]=some dc:=ec
 have hu4:∀ z∈(l.drop 4).take 4,U8 z:=fun z hz=>hu z (List.mem_of_mem_drop (List.mem_of_mem_take hz))
 obtain ⟨n0,n1⟩:=a2k 4 ((l.drop 4).take 4) (by simp;omega) hu4
 rw [a6z] at n1
 have eg:=c3V _ dc g0 sc (by simp;omega) hu4
 have hN:IntKind.wrap .i64 (num ((l.drop 4).take 4))=(dN l:Int):=by rw [wrap_i64 (by omega) (by omega)];unfold dN;omega
 have hN32:dN l<4294967296:=by unfold dN;omega
 rw [hN] at eg
 have w1:IntKind.wrap .i64 (8+(dN l:Int))=((8+dN l:Nat):Int):=by rw [wrap_i64 (by omega) (by omega)];omega
 have w2:IntKind.wrap .i64 (((8+dN l:Nat):Int)+4)=((12+dN l:Nat):Int):=by rw [wrap_i64 (by omega) (by omega)];omega
 simp only [hm,d7h,d6X,if_false,ec,eg,bs,a0t,w1,w2,a1P hd,a0k]
 by_cases hsh:l.length<12+dN l
 ·have hsh':decide ((l.length:Int)<((12+dN l:Nat):Int))=true:=decide_eq_true (by omega)
  simp only [hsh',if_true]
  exact a7m r0 rfl k0 14 (fin 14 (by unfold a2d;rw [if_neg h8,if_neg (by simpa using hmag),if_pos hsh]))
 have hsh':decide ((l.length:Int)<((12+dN l:Nat):Int))=false:=decide_eq_false (by omega)
 obtain ⟨dn,en,sn⟩:=a8F hd (k := .i64) (n:=((8+dN l:Nat):Int)) (by omega) (by omega)
 rw [d7g] at sn
 have ek:=c8c (l.take (8+dN l)) dn g0 (.inl sn) (by simp;omega) (fun z hz=>hu z (List.mem_of_mem_take hz))
 obtain ⟨dk,ek2,sk⟩:=a4N hd (8+dN l) (12+dN l) (by omega) (by omega)
 have lk:(l.take (12+dN l)).drop (8+dN l)=(l.drop (8+dN l)).take 4:=by rw [List.drop_take];congr 1;omega
 rw [lk] at sk
 have huk:∀ z∈(l.drop (8+dN l)).take 4,U8 z:=fun z hz=>hu z (List.mem_of_mem_drop (List.mem_of_mem_take hz))
 obtain ⟨m0,m1⟩:=a2k 4 ((l.drop (8+dN l)).take 4) (by simp;omega) huk
 rw [a6z] at m1
 have eg2:=c3V _ dk g0 sk (by simp;omega) huk
 rw [wrap_i64 (by omega) (by omega)] at eg2
 simp only [hsh',d6X,if_false,en,ek,ek2,eg2,bs,a0w]
 by_cases hck:a2z (l.take (8+dN l))=num ((l.drop (8+dN l)).take 4)
 case neg =>
  have hck':decide (a2z (l.take (8+dN l))≠num ((l.drop (8+dN l)).take 4))=true:=decide_eq_true hck
  simp only [hck',if_true]
  exact a7m r0 rfl k0 15 (fin 15 (by unfold a2d;rw [if_neg h8,if_neg (by simpa using hmag),if_neg hsh,if_pos hck]))
 have hck':decide (a2z (l.take (8+dN l))≠num ((l.drop (8+dN l)).take 4))=false:=decide_eq_false (by simpa using hck)
 have hdec:∀ x,(b3M l→x=(1,0,0,[],[]))→(¬ b3M l→x=(0,((12+dN l:Nat):Int),(dA l).1,(dM l).1,(dQ l).1))→a2d l=x:=fun x h1 h2=>by
  unfold a2d
  rw [if_neg h8,if_neg (by simpa using hmag),if_neg hsh,if_neg (by simpa using hck)]
  by_cases hb:b3M l
  ·rw [if_pos hb,h1 hb]
  ·rw [if_neg hb,h2 hb]
 -- the cursor, and the state's variable
 obtain ⟨db,eb,sb⟩:=a4N hd 8 (8+dN l) (by omega) (by omega)
 have eb:a0A tab a0J true true false [d,.int .i64 8,.int .i64 ((8+dN l:Nat):Int)]=some db:=eb
 have hbc:a0K tab a1O [0] [db]=some (.agg [db,.bool false]):=b9H db (a1x sb)
 have c0:(a0I g0 a1O 2 [[db,.bool false]])[h.length+1]?=some (.row a1O 2 [[db,.bool false]]):=by rw [← l0];exact a1h _ _ _ _
 have cl:(a0I g0 a1O 2 [[db,.bool false]]).length=h.length+2:=by simp [-bind_some, a0I,l0]
 have ck:∀ q,q<h.length+1→(a0I g0 a1O 2 [[db,.bool false]])[q]?=g0[q]?:=fun q hq=>a0Y _ _ _ _ (by omega)
 simp only [hck',d6X,if_false,eb,hbc,bs,a3e a1O 2 g0 [db,.bool false] rfl (by omega),l0,d6W]
 generalize a0I g0 a1O 2 [[db,.bool false]]=g1 at *
 have C0:CuP g1 (h.length+1) (dS0 l):=⟨db,c0,sb,fun z hz=>hu z (List.mem_of_mem_take (List.mem_of_mem_drop hz)),by simp [-bind_some, dS0];omega⟩
 obtain ⟨g2,e2,c2,t2⟩:=d2h C0
 have e2:R a4S [.ptr (h.length+1) 0 0,.int .i64 8] g1=some (.int .i64 (dA l).1,g2):=e2
 have l2:g2.length=h.length+2:=by rw [t2.1];exact cl
 simp only [e2,bs,b9G,l2,d6W]
 have v3:(a0I g2 a0g 3 [[.int .i64 0,.nils,.nils]])[h.length+2]?=some (.row a0g 3 [[.int .i64 0,.nils,.nils]]):=by rw [← l2];exact a1h _ _ _ _
 have k3:∀ q,q<h.length+2→(a0I g2 a0g 3 [[.int .i64 0,.nils,.nils]])[q]?=g2[q]?:=fun q hq=>a0Y _ _ _ _ (by omega)
 have hp7:((.ptr (h.length+2) 0 0,a0I g2 a0g 3 [[.int .i64 0,.nils,.nils]]):D × Hp).1 = .ptr (h.length+2) 0 0:=rfl
 generalize a0I g2 a0g 3 [[.int .i64 0,.nils,.nils]]=g3 at *
 refine a4v (kk:=0) (off:=0) (row:=[.int .i64 0,.nils,.nils]) (v := .agg [.int .i64 (dA l).1,.nils,.nils]) v3 (by rfl) (by rfl) (by exact Nat.le_refl _) (by rfl) fun g4 p4 s4=>?_
 have p4:g4[h.length+2]?=some (.row a0g 3 [svr (dA l).1 .nils .nils]):=p4
 have P4:DcP h g4 (svr (dA l).1 .nils .nils) (dA l).2:=by
  obtain ⟨dd,q1,q2⟩:=c2
  exact ⟨by rw [s4.2 _ (by omega),k3 _ (by omega),t2.2 _ (by omega),ck _ (by omega)];exact r0,⟨dd,by rw [s4.2 _ (by omega),k3 _ (by omega)];exact q1,q2⟩,p4,fun q hq=>by rw [s4.2 _ (by omega),k3 _ (by omega),t2.2 _ (by omega),ck _ (by omega)];exact k0 q hq⟩
 obtain ⟨g5,e5,c5,t5⟩:=c7x P4.cu
 have P5:=P4.cur c5 t5
 obtain ⟨_,_,_,hu5,_⟩:=P4.cu
 obtain ⟨N1,hN1,hN1b⟩:=b4C hu5
 rw [hN1] at e5
 have hM:dM l=a3q N1 (a1z (dA l).2).2:=by unfold dM;rw [hN1];rfl
 simp only [bs,e5,d6W]
 refine c2D (a:=(dA l).1) hN1b hp7 P5 _ fun g6 dm b c P6 owm=>?_
 rw [← hM] at P6 owm
 obtain ⟨g7,e7,c7,t7⟩:=c7x P6.cu
 have P7:=P6.cur c7 t7
 have owm7:=owm.same t7 (by omega)
 obtain ⟨_,_,_,hu7,_⟩:=P6.cu
 obtain ⟨N2,hN2,hN2b⟩:=b4C hu7
 rw [hN2] at e7
 have hQ2:dQ l=qsS N2 (a1z (dM l).2).2:=by unfold dQ;rw [hN2];rfl
 simp only [bs,a0s,a0r,a0f,a0o,e7,d6W]
 refine c2E (a:=(dA l).1) hN2b hp7 P7 owm7 _ fun g8 dq its b2 c2' P8 owm8 owq hits=>?_
 rw [← hQ2] at P8 hits
 obtain ⟨dd,q1,q2,q3,q4⟩:=P8.cu
 obtain ⟨m1',m2'⟩:=b6E q1
 have hlm:(dM l).1.length≤4294967296:=by rw [hM];have:=b0m N1 (a1z (dA l).2).2;omega
 have hlq:its.length=(dQ l).1.length:=by rw [← hits];simp [-bind_some]
 have hlq2:its.length≤4294967296:=by rw [hlq,hQ2];have:=b8y N2 (a1z (dM l).2).2;omega
 have ldv:a0b tab g8 a0g (.ptr (h.length+2) 0 0)=some (.agg (svr (dA l).1 dm dq)):=by rw [a3C,a0O P8.st];rfl
 simp only [bs,a0s,a0r,a0f,a0o,a0v,a3X,a3A,m1',m2',a0p,d6W]
 -- the check's answer
 have sM:=a7A (n:=1) owm8 (fun a _=>c0J g8 1 a)
 have sQ:=a7A (n:=1) owq (fun a _=>c0v g8 1 a)
 have hsn:a8t g8 3 (.agg (svr (dA l).1 dm dq)) = .agg (svr (dA l).1 (a8t g8 2 dm) (a8t g8 2 dq)):=rfl
 have hcall:=c8b (dA l).1 (dM l).1 its.length (a8t g8 2 dm) (a8t g8 2 dq) (g8.map fun _ => .dead) sM (a6O sQ) (by omega)
 have hcB:a4M R b1j [.agg (svr (dA l).1 dm dq)] g8=some (.int .i64 (stC (dA l).1 (dM l).1 its.length),g8):=by
  unfold a4M
  simp only [d7e,d7f,hsn,hcall]
  rfl
 rw [hlq] at hcB
 have bad:b3M l→∀ {β:Type},a2d l=(1,0,0,[],[]):=fun hb _=>hdec _ (fun _=>rfl) fun hn=>absurd hb hn
 cases hbd:(dQ l).2.2 with
 | true =>
  have hB:b3M l := .inl hbd
  simp only [reduceCtorEq,d6Y,if_false,bs,a0e,if_true,a0p,a1f,a0c]
  exact a7m P8.r0 rfl P8.lo 1 (fin 1 (hdec _ (fun _=>rfl) fun hn=>absurd hB hn))
 | false =>
  simp only [if_true,bs,a0v,a3X,m1',a1P q2,a0u,a0e,d6X,if_false]
  by_cases hlen:0<(dQ l).2.1.length
  ·have hB:b3M l := .inr (.inl hlen)
   have hd1:decide (((dQ l).2.1.length:Int)>0)=true:=decide_eq_true (by omega)
   simp only [hd1,reduceCtorEq,d6Y,if_false,bs,a0e,if_true,a0p,a1f,a0c]
   exact a7m P8.r0 rfl P8.lo 1 (fin 1 (hdec _ (fun _=>rfl) fun hn=>absurd hB hn))
  have hd1:decide (((dQ l).2.1.length:Int)>0)=false:=decide_eq_false (by omega)
  simp only [hd1,a0p,a1f,if_true,bs,ldv,hcB,a0w,a0e,d6X,if_false]
  by_cases hst:stC (dA l).1 (dM l).1 (dQ l).1.length=0
  case neg =>
   have hB:b3M l := .inr (.inr hst)
   have hd2:decide (stC (dA l).1 (dM l).1 (dQ l).1.length≠0)=true:=decide_eq_true hst
   simp only [hd2,a0c,if_true]
   exact a7m P8.r0 rfl P8.lo 1 (fin 1 (hdec _ (fun _=>rfl) fun hn=>absurd hB hn))
  have hd2:decide (stC (dA l).1 (dM l).1 (dQ l).1.length≠0)=false:=decide_eq_false (by rw [hst];simp [-bind_some])
  have hgood:a2d l=(0,((12+dN l:Nat):Int),(dA l).1,(dM l).1,(dQ l).1):=hdec _ (fun hb=>absurd hb (by
   rintro (hx | hx | hx)
   ·rw [hbd] at hx;cases hx
   ·exact hlen hx
   ·exact hx hst)) fun _=>rfl
  have okv:(D.agg (svr (dA l).1 dm dq)).okv=true:=by
   rcases owm8 with ⟨rfl,_⟩ | ⟨_,_,rfl,_⟩ <;> rcases owq with ⟨rfl,_⟩ | ⟨_,_,rfl,_⟩ <;> rfl
  simp only [hd2,a0c,d6X,if_false,ldv,bs]
  refine a4v (kk:=0) (off:=0) (row:=svr 0 .nils .nils) (v := .agg (svr (dA l).1 dm dq)) P8.r0 (by rfl) (by rfl) (by exact Nat.le_refl _) okv fun g9 p9 s9=>?_
  have p9:g9[h.length]?=some (.row a0g 3 [svr (dA l).1 dm dq]):=p9
  have ld9:a0b tab g9 a0g (.ptr h.length 0 0)=some (.agg (svr (dA l).1 dm dq)):=by rw [a3C,a0O p9];rfl
  have om9:=owm8.keep (h':=g9) fun q hq _=>s9.2 q (by omega)
  have oq9:=owq.keep (h':=g9) fun q hq _=>s9.2 q (by omega)
  have fM:=a2w (n0:=h.length) (n:=1) om9 (by omega) (fun a _=>a6Q _ g9 1 a)
  have fQ:=a2w (n0:=h.length) (n:=1) oq9 (by omega) (fun a _=>a4V _ g9 0 a)
  have hl9:h.length≤g9.length:=by have:=(d7n.1 p9).1;omega
  simp only [ld9,bs,a6P]
  rw [a1a (d' := .tup [.agg (svr (dA l).1 (frz h.length g9 2 dm) (frz h.length g9 2 dq)),.int .i64 ((12+dN l:Nat):Int),.int .i64 0]) rfl (by
   refine .tup _ fun d hd=>?_
   simp at hd
   rcases hd with rfl | rfl | rfl
   ·refine .agg _ fun d hd=>?_
    simp [-bind_some, svr] at hd
    rcases hd with rfl | rfl | rfl
    ·constructor
    ·exact a1q fM fun a _=>a9c _ a
    ·exact a1q fQ fun a _=>a6M _ a
   ·constructor
   ·constructor) hl9 (fun q hq=>by rw [s9.2 q (by omega)];exact P8.lo q hq)]
  rw [hgood]
  exact .some ⟨_,_,its,rfl,fM,fQ,hits⟩
structure OkI (i:It):Prop where
 r:ItR i
 b:(a1t i).length≤20000
 e:itE i=0
theorem b9X {i:It} (h:OkI i) (r:List Int):a3W (a2M i++r)=(0,((a2M i).length:Int),a1Y i):=by
 obtain ⟨e1,e2⟩:=c2G h.r h.b r
 unfold a3W
 rw [e2,b0I,h.e,e1]
theorem c3h {i:It} (h:OkI i) (r:List Int):itS (a2M i++r,false)=(a1Y i,(r,false)):=by
 unfold itS
 rw [b9X h r]
 rw [if_neg (by simp)]
 simp only [d7g]
 rw [List.drop_left' rfl]
theorem b4M:∀ (ms:List FM),(∀ m∈ms,I64 m.1∧I64 m.2)→∀ r,a3q ms.length ((ms.map mkB).flatten++r,false)=(ms,(r,false))
 | [],_,r=>rfl
 | m::t,h,r=>by
  obtain ⟨h1,h2⟩:=h m (by simp)
  have e:((m::t).map mkB).flatten++r=pI m.1++(pI m.2++((t.map mkB).flatten++r)):=by simp [-bind_some, mkB]
  rw [e,d7o]
  unfold a3q
  rw [if_neg (by simp),a2f h1,a2f h2,b4M t (fun x hx=>h x (List.mem_cons_of_mem _ hx)) r]
theorem b8x:∀ (its:List It),(∀ i∈its,OkI i)→∀ r,qsS its.length ((its.map a2M).flatten++r,false)=(its.map a1Y,(r,false))
 | [],_,r=>rfl
 | i::t,h,r=>by
  have e:((i::t).map a2M).flatten++r=a2M i++((t.map a2M).flatten++r):=by simp
  rw [e,d7o]
  unfold qsS
  rw [if_neg (by simp),c3h (h i (by simp)),b8x t (fun x hx=>h x (List.mem_cons_of_mem _ hx)) r]
  rfl
abbrev SvD:=Int × List FM × List It
def a4h (s:SvD):List Int:=b0y s.1 s.2.1 s.2.2
structure OkS (s:SvD):Prop where
 n:I64 s.1
 m:∀ m∈s.2.1,I64 m.1∧I64 m.2
 q:∀ i∈s.2.2,OkI i
 c:stC s.1 s.2.1 s.2.2.length=0
 b:(a1A s.1 s.2.1 s.2.2).length<4294967000
theorem b7H:∀ {its:List It},(∀ i∈its,OkI i)→a7x its=0
 | [],_=>rfl
 | i::t,h=>by
  unfold a7x
  rw [if_pos (h i (by simp)).e]
  exact b7H fun x hx=>h x (List.mem_cons_of_mem _ hx)
theorem OkS.e {s:SvD} (h:OkS s):stE s.1 s.2.1 s.2.2=0:=by
 unfold stE
 rw [if_pos h.c]
 exact b7H h.q
theorem OkS.le {s:SvD} (h:OkS s):s.2.1.length≤1000∧s.2.2.length≤1000:=by
 have:=h.c
 unfold stC at this
 by_cases h1:s.1<0
 ·rw [if_pos h1] at this;cases this
 by_cases h2:a6X s.2.1=false
 ·rw [if_neg h1,if_pos h2] at this;cases this
 by_cases h3:a6x s.2.1=true
 ·rw [if_neg h1,if_neg h2,if_pos h3] at this;cases this
 by_cases h4:1000<s.2.1.length∨1000<s.2.2.length
 ·rw [if_neg h1,if_neg h2,if_neg h3,if_pos h4] at this;cases this
 omega
theorem a6I (s:SvD) (r:List Int):(a4h s++r).length=12+(a1A s.1 s.2.1 s.2.2).length+r.length∧(a4h s++r).take 4=magS∧((a4h s++r).drop 4).take 4=pN (a1A s.1 s.2.1 s.2.2).length∧(a4h s++r).take (8+(a1A s.1 s.2.1 s.2.2).length)=a3c (a1A s.1 s.2.1 s.2.2)∧((a4h s++r).drop (8+(a1A s.1 s.2.1 s.2.2).length)).take 4=a3H 4 (a2z (a3c (a1A s.1 s.2.1 s.2.2))):=by
 obtain ⟨B,hB⟩:∃ B,B=a1A s.1 s.2.1 s.2.2:=⟨_,rfl⟩
 have e1:a4h s++r=magS++(pN B.length++(B++(a3H 4 (a2z (a3c B))++r))):=by rw [hB];simp [-bind_some, a4h,b0y,a3c]
 have e2:a4h s++r=a3c B++(a3H 4 (a2z (a3c B))++r):=by rw [hB];simp [-bind_some, a4h,b0y]
 rw [← hB]
 have hl:=a3Z B
 refine ⟨?_,?_,?_,?_,?_⟩
 ·rw [e2,d7b,d7b,hl,a1c];omega
 ·rw [e1];exact List.take_left' rfl
 ·rw [e1,List.drop_left' (show magS.length=4 from rfl)];exact List.take_left' (a1H _)
 ·rw [e2];exact List.take_left' hl
 ·rw [e2,List.drop_left' hl];exact List.take_left' (a1c _ _)
theorem b9Z {s:SvD} (h:OkS s) (r:List Int):a2d (a4h s++r)=(0,((a4h s).length:Int),s.1,s.2.1,s.2.2.map a1Y):=by
 obtain ⟨p1,p2,p3,p4,p5⟩:=a6I s r
 obtain ⟨hm,hq⟩:=h.le
 have hB:=h.b
 have hc:=a3u (a3c (a1A s.1 s.2.1 s.2.2))
 have hN:dN (a4h s++r)=(a1A s.1 s.2.1 s.2.2).length:=by unfold dN;rw [p3,c1M (by omega)];rfl
 have hlen:(a4h s).length=12+(a1A s.1 s.2.1 s.2.2).length:=by
  have:=(a6I s []).1
  simpa using this
 have hS0:dS0 (a4h s++r)=(a1A s.1 s.2.1 s.2.2,false):=by
  unfold dS0
  rw [hN,p4]
  unfold a3c
  rw [List.drop_left' (by simp [-bind_some, magS,a1H])]
 have hbody:a1A s.1 s.2.1 s.2.2=pI s.1++(pN s.2.1.length++((s.2.1.map mkB).flatten++(pN s.2.2.length++((s.2.2.map a2M).flatten++[])))):=by simp [-bind_some, a1A]
 have hA:dA (a4h s++r)=(s.1,(pN s.2.1.length++((s.2.1.map mkB).flatten++(pN s.2.2.length++((s.2.2.map a2M).flatten++[]))),false)):=by
  unfold dA
  rw [hS0,hbody,a2f h.n]
 have hM:dM (a4h s++r)=(s.2.1,(pN s.2.2.length++((s.2.2.map a2M).flatten++[]),false)):=by
  unfold dM
  rw [hA]
  simp only
  rw [a7y (by omega)]
  simp only [d7g]
  exact b4M _ h.m _
 have hQ:dQ (a4h s++r)=(s.2.2.map a1Y,([],false)):=by
  unfold dQ
  rw [hM]
  simp only
  rw [a7y (by omega)]
  simp only [d7g]
  exact b8x _ h.q _
 have hbad:¬ b3M (a4h s++r):=by
  unfold b3M
  rw [hQ,hA,hM]
  simp only [d7c,h.c]
  simp [-bind_some]
 unfold a2d
 rw [if_neg (by omega),if_neg (by rw [p2];simp [-bind_some]),hN,if_neg (by omega),p4,p5,if_neg (by rw [a5s 4 _ hc.1,a6z];omega),if_neg hbad,hA,hM,hQ,hlen]
theorem b3R:a2d []=(14,0,0,[],[]):=rfl
theorem a6f {l:List Int} (h:(a2d l).1=0):12≤(a2d l).2.1∧(a2d l).2.1≤l.length:=by
 unfold a2d at h ⊢
 by_cases h1:l.length<8
 ·rw [if_pos h1] at h;cases h
 by_cases h2:l.take 4≠magS
 ·rw [if_neg h1,if_pos h2] at h;cases h
 by_cases h3:l.length<12+dN l
 ·rw [if_neg h1,if_neg h2,if_pos h3] at h;cases h
 by_cases h4:a2z (l.take (8+dN l))≠num ((l.drop (8+dN l)).take 4)
 ·rw [if_neg h1,if_neg h2,if_neg h3,if_pos h4] at h;cases h
 by_cases h5:b3M l
 ·rw [if_neg h1,if_neg h2,if_neg h3,if_neg h4,if_pos h5] at h;cases h
 rw [if_neg h1,if_neg h2,if_neg h3,if_neg h4,if_neg h5]
 simp only
 omega
noncomputable def a8E:Nat→List Int→Int→List ((Int × List FM × List RI) × Int)
 | 0,_,_=>[]
 | f+1,l,a=>if (a2d l).1=0 then ((a2d l).2.2,a+(a2d l).2.1)::a8E f (l.drop (a2d l).2.1.toNat) (a+(a2d l).2.1) else []
def c6l (r:List D × Int) (x:(Int × List FM × List RI) × Int):Prop:=∃ dm dq its,r=(svr x.1.1 dm dq,x.2)∧SlOf 2 mkr x.1.2.1 dm∧SlOf 11 itr its dq∧its.map a1Y=x.1.2.2
inductive RecsOf:List (List D × Int)→List ((Int × List FM × List RI) × Int)→Prop
 | nil:RecsOf [] []
 | cons {r x rs xs}:c6l r x→RecsOf rs xs→RecsOf (r::rs) (x::xs)
theorem b5f {z:Nat} {α:Type} {f:α→List D} {l:List α} {d:D} (h:SlOf z f l d):slD d=true:=by
 rcases h with ⟨rfl,_⟩ | ⟨b,rfl⟩ <;> rfl
theorem c2B {l:List Int} {d:D} (h:SlOf 1 byr l d) (a:Int) (h0:0≤a):SlOf 1 byr (l.drop a.toNat) (c6y d a):=by
 rcases h with ⟨rfl,rfl⟩ | ⟨b,rfl⟩
 ·exact .inl ⟨rfl,by simp⟩
 ·refine .inr ⟨false,?_⟩
  show D.sl 1 false ((l.map byr).drop a.toNat)=_
  rw [List.map_drop]
theorem b4X {l:List Int} {d:D} (hd:SlOf 1 byr l d) (hl:l.length≤1000000000) (hu:∀ z∈l,U8 z):∀ (f:Nat) (a:Int),0≤a→a≤l.length→(l.length:Int) - a<f→∃ rs,a7n R a4A d l.length f a=some rs∧RecsOf rs (a8E f (l.drop a.toNat) a)
 | 0,a,h0,h1,h2=>by omega
 | f+1,a,h0,h1,h2=>by
  have hu2:∀ z∈l.drop a.toNat,U8 z:=fun z hz=>hu z (List.mem_of_mem_drop hz)
  have hl2:(l.drop a.toNat).length=l.length - a.toNat:=by simp
  obtain ⟨dm,dq,its,e,o1,o2,o3⟩:=d3c (l.drop a.toNat) (c6y d a) [] (c2B hd a h0) (by omega) hu2
  unfold a7n a8E
  rw [e]
  simp only [svr,b5f o1,b5f o2,and_self,if_true]
  by_cases hz:(a2d (l.drop a.toNat)).1=0
  ·obtain ⟨z1,z2⟩:=a6f hz
   rw [if_pos hz,if_pos hz,if_pos ⟨by omega,by omega⟩]
   obtain ⟨rs,er,hr⟩:=b4X hd hl hu f (a+(a2d (l.drop a.toNat)).2.1) (by omega) (by omega) (by omega)
   rw [er]
   refine ⟨_,rfl,.cons ⟨dm,dq,its,rfl,o1,o2,o3⟩ ?_⟩
   rw [List.drop_drop]
   have:a.toNat+(a2d (l.drop a.toNat)).2.1.toNat=(a+(a2d (l.drop a.toNat)).2.1).toNat:=by omega
   rw [this]
   exact hr
  ·rw [if_neg hz,if_neg hz]
   exact ⟨[],rfl,.nil⟩
theorem c6F {l:List Int} {d:D} (h:SlOf 1 byr l d):b2j d=some l.length:=by
 rcases h with ⟨rfl,rfl⟩ | ⟨b,rfl⟩
 ·rfl
 ·simp only [b2j,a7L,d7c]
theorem a9R {l:List Int} {d:D} (hd:SlOf 1 byr l d) (hl:l.length≤1000000000) (hu:∀ z∈l,U8 z):∃ rs,b5t R a4A [d]=some rs∧RecsOf rs (a8E (l.length+1) l 0):=by
 obtain ⟨rs,e,h⟩:=b4X hd hl hu (l.length+1) 0 (by omega) (by omega) (by omega)
 refine ⟨rs,?_,by simpa using h⟩
 simp only [b5t,c6F hd]
 rw [if_pos (by omega),e]
theorem d2Z (l:List FM) (da db:D) (h:Hp) (ha:SlOf 2 mkr l da) (hb:SlOf 2 mkr l db) (hl:l.length≤9000000000000000000):R b7v [da,db] h=some (.bool true,h):=by
 apply Wp.val
 rw [d0z]
 simp only [c5Q,bs,a0w,ne_eq,not_true,decide_false,d6X,if_false,a3t ha,a3t hb,a0c,d6W]
 refine Wp.loop (fun n ds g=>g=h∧∃ x y z,∃ i:Nat,ds=[x,.int .i64 i,y,z]∧n+i=l.length)
  (fun r=>r.1 = .ext 0∧r.2.2=h) l.length ⟨rfl,_,_,_,0,rfl,rfl⟩ ?_ ?_
 ·rintro n ds g ⟨rfl,x,y,z,i,rfl,hi⟩
  simp only [b3q,a0f,a0o,bs,d6W,a3t ha,a0k]
  refine Wp.dif ?_ ?_
  ·intro h0
   have h0:i<l.length:=dl_ h0
   have hg:l[i]?=some l[i]:=d7m h0
   generalize l[i]=u at hg
   have ia:a0d tab a0C da (.int .i64 i)=some (.fptr (mkr u)):=by rw [a6N ha];simp [-bind_some, hg]
   have ib:a0d tab a0C db (.int .i64 i)=some (.fptr (mkr u)):=by rw [a6N hb];simp [-bind_some, hg]
   have lu:a0b tab g a0M (.fptr (mkr u))=some (.agg (mkr u)):=id rfl
   have hw:=wi_ i (by omega)
   have hn:a0n tab .neq a0M (.agg (mkr u)) (.agg (mkr u))=some (.bool false):=by
    have:=b9J u.1 u.1 u.2 u.2
    simpa [-bind_some, mkr] using this
   simp only [ia,ib,lu,hn,bs,a0c,d6X,if_false,a0t,hw]
   exact .some (.inl ⟨rfl,n - 1,by omega,rfl,_,_,_,i+1,rfl,by omega⟩)
  ·intro _
   exact .some (.inr ⟨by simp,rfl,rfl⟩)
 ·rintro ⟨ex,ds,g⟩ ⟨q1,q2⟩
  simp only at q1 q2
  subst q1;subst q2
  simp only [a0s,a0r,bs,a0i]
  exact .some rfl
theorem d3a (l m:List It) (da db:D) (h:Hp) (ha:SlOf 11 itr l da) (hb:SlOf 11 itr m db) (hlm:l.map a1Y=m.map a1Y) (hl:l.length≤9000000000000000000):R b7w [da,db] h=some (.bool true,h):=by
 apply Wp.val
 have hlen:m.length=l.length:=by have:=congrArg List.length hlm;simpa using this.symm
 rw [d0A]
 simp only [c5R,bs,a0w,ne_eq,not_true,decide_false,d6X,if_false,a6O ha,a6O hb,hlen,a0c,d6W]
 refine Wp.loop (fun n ds g=>g=h∧∃ x y z,∃ i:Nat,ds=[x,.int .i64 i,y,z]∧n+i=l.length)
  (fun r=>r.1 = .ext 0∧r.2.2=h) l.length ⟨rfl,_,_,_,0,rfl,rfl⟩ ?_ ?_
 ·rintro n ds g ⟨rfl,x,y,z,i,rfl,hi⟩
  simp only [b3r,a0f,a0o,bs,d6W,a6O ha,a0k]
  refine Wp.dif ?_ ?_
  ·intro h0
   have h0:i<l.length:=dl_ h0
   have hg:l[i]?=some l[i]:=d7m h0
   have hg2:m[i]?=some m[i]:=d7m (by omega)
   have hri:a1Y l[i]=a1Y m[i]:=by
    have e1:(l.map a1Y)[i]?=some (a1Y l[i]):=by rw [d7k,hg];rfl
    have e2:(m.map a1Y)[i]?=some (a1Y m[i]):=by rw [d7k,hg2];rfl
    rw [hlm,e2] at e1
    injection e1 with e1
    exact e1.symm
   generalize l[i]=u at hg hri
   generalize m[i]=v at hg2 hri
   have ia:a0d tab a1v da (.int .i64 i)=some (.fptr (itr u)):=by rw [b4y ha];simp [-bind_some, hg]
   have ib:a0d tab a1v db (.int .i64 i)=some (.fptr (itr v)):=by rw [b4y hb];simp [-bind_some, hg2]
   have lu:∀ u:It,a0b tab g a0P (.fptr (itr u))=some (.agg (itr u)):=fun u=>id rfl
   have hw:=wi_ i (by omega)
   have hs:=s82 u v g
   rw [(b8J hri).2.2.2] at hs
   simp only [ia,ib,lu,hs,bs,a1y,d7h,a0c,d6X,if_false,a0t,hw]
   exact .some (.inl ⟨rfl,n - 1,by omega,rfl,_,_,_,i+1,rfl,by omega⟩)
  ·intro _
   exact .some (.inr ⟨by simp,rfl,rfl⟩)
 ·rintro ⟨ex,ds,g⟩ ⟨q1,q2⟩
  simp only at q1 q2
  subst q1;subst q2
  simp only [a0s,a0r,bs,a0i]
  exact .some rfl
theorem d2X (n:Int) (ms:List FM) (l m:List It) (da db dx dy:D) (h:Hp) (hm:SlOf 2 mkr ms da) (hm2:SlOf 2 mkr ms db) (hx:SlOf 11 itr l dx) (hy:SlOf 11 itr m dy) (hlm:l.map a1Y=m.map a1Y) (hml:ms.length≤9000000000000000000) (hl:l.length≤9000000000000000000):R a8V [.agg (svr n da dx),.agg (svr n db dy)] h=some (.bool true,h):=by
 have e1:=d2Z ms da db h hm hm2 hml
 have e2:=d3a l m dx dy h hx hy hlm hl
 rw [d0u]
 simp only [c5L,bs,a1G,sv0,sv1,sv2,c4F,a3M,b5C,a0S,decide_true,a0p,a1f,if_true,e1,e2,a0e,d6W,a0i]
theorem b1B (k:Int):∀ (ls:List Lin) (a b:Int),mch a ls b→mch (a+k) (ls.map fun l=>⟨l.off+k,l.len,l.txt⟩) (b+k)
 | [],a,b,h=>by show a+k=b+k;rw [show a=b from h]
 | l::r,a,b,h=>by
  obtain ⟨h1,h2,h3,h4,h5⟩:=h
  refine ⟨by show l.off+k=a+k;rw [h1],h2,h3,h4,?_⟩
  have:=b1B k r _ b h5
  show mch (a+k+l.len) _ _
  rw [show a+k+l.len=a+l.len+k by omega]
  exact this
def mvI (x:RI) (f k:Int):RI:=⟨x.r,x.a0,f,x.a2+k,x.a3+k,x.ls.map fun l=>⟨l.off+k,l.len,l.txt⟩,x.a5,x.a6,x.t7,x.t8,x.fs⟩
theorem d2f {i j:It} (hi:ItK i) {f k:Int} (hf:0≤f) (hf2:f≤2) (h0:0≤i.e.a2+k) (h9:i.e.a3+k≤50000) (hj:a1Y j=mvI (a1Y i) f k):OkI j:=by
 obtain ⟨jr,⟨b0,b1,b2,b3,bl,dl,b5,b6,b7,b8,bf,df,w1,w2,w3,w4⟩⟩:=j
 simp only [a1Y,mvI,RI.mk.injEq] at hj
 obtain ⟨q0,q1,q2,q3,q4,q5,q6,q7,q8,q9,q10⟩:=hj
 have l3:=hi.l3
 have f4:=hi.fs
 obtain ⟨ch,a0,a9,l1⟩:=hi.ch
 have chj:=b1B k _ _ _ ch
 rw [← q3,← q4,← q5] at chj
 have bl3:bl.length=i.e.ls.length:=by rw [q5];simp [-bind_some]
 have hle:=a6w _ _ _ chj
 have tx:=b8e _ _ _ chj (by omega) (by omega)
 have hh:jr.length≤32∧b7.length≤32∧b8.length≤32∧I64 b0∧I64 b1∧I64 b5∧I64 b6∧∀ p∈bf,p.1.length≤1000∧p.2.length≤1000:=by
  rw [q0,q1,q2,q6,q7,q8,q9,q10]
  rcases hi with ⟨hr,g⟩ | g
  ·have h1:=g.h0;have h2:=g.h2;have h5:=g.t0;have h6:=g.t9
   have hw:=(show ∀ s∈lt82_14,(-10000:Int)≤s∧s≤10000 by decide) _ g.wt
   refine ⟨by rw [hr];simp [-bind_some],(show ∀ s∈lt98_15,s.length≤32 by decide) _ g.tr,(show ∀ s∈lt98_16,s.length≤32 by decide) _ g.st,by unfold I64;omega,by unfold I64;omega,by unfold I64;omega,by unfold I64;omega,fun p hp=>⟨?_,(show ∀ s∈lt98_18,s.length≤1000 by decide) _ (g.fs.2 p hp)⟩⟩
   exact (show ∀ s∈lt98_17,s.length≤1000 by decide) _ (g.fs.1.subset (d7u.2 ⟨p,hp,rfl⟩))
  ·have h1:=g.h0;have h2:=g.h2;have h5:=g.t0;have h6:=g.w0
   exact ⟨(show ∀ s∈lt98_35,s.length≤32 by decide) _ g.r,by rw [g.tr];simp [-bind_some],by rw [g.st];simp [-bind_some],by unfold I64;omega,by unfold I64;omega,by unfold I64;omega,by unfold I64;omega,fun p hp=>by rw [g.fs] at hp;cases hp⟩
 obtain ⟨r1,r2,r3,r4,r5,r6,r7,r8⟩:=hh
 have bf4:bf.length≤4:=by rw [q10];exact f4
 refine ⟨⟨by show jr.length<_;omega,r4,r5,by unfold I64;show _≤b2∧b2<_;omega,by unfold I64;show _≤b3∧b3<_;omega,by show bl.length<_;omega,fun l hl=>(tx l hl).1,r6,r7,by show b7.length<_;omega,by show b8.length<_;omega,by show bf.length<_;omega,fun p hp=>by have:=r8 p hp;omega⟩,?_,?_⟩
 ·have h1:=a5o lnB 220 bl (fun l hl=>by
    have:=(tx l hl).2
    simp only [lnB,d7b,a1m,a1M];omega)
  have h2:(bf.map fdB).flatten.length≤bf.length*2008:=a5o fdB 2008 bf (fun p hp=>by
   have:=r8 p hp
   simp only [fdB,d7b,a1M];omega)
  have h8:(bf.length*2008:Nat)≤4*2008:=Nat.mul_le_mul_right _ bf4
  have h9:(bl.length*220:Nat)≤3*220:=Nat.mul_le_mul_right _ (by omega)
  simp only [a1t,a4L,a3x,d7b,a1m,a1M,a1H]
  omega
 ·have hl:∀ m:Int,200≤m→a2j (⟨b0,b1,b2,b3,bl,dl,b5,b6,b7,b8,bf,df,w1,w2,w3,w4⟩:Ev) m=0:=fun m hm=>b7U m hm (by show 0≤b2;omega) (by show b3≤60000;omega) (by show 1≤bl.length;omega) (by show bl.length≤40;omega) chj
  rcases hi with ⟨hr,h⟩ | h
  ·have h1:=h.h0;have h2:=h.h2;have h8:=h.t0;have h9:=h.t9
   have hw:=(show ∀ s∈lt82_14,¬ s<1∧Int.tmod 5040 s=0 by decide) _ h.wt
   have htr:=(show ∀ s∈lt98_15,¬ 32<s.length by decide) _ h.tr
   have hst:=(show ∀ s∈lt98_16,¬ 32<s.length by decide) _ h.st
   have hs:=c3x h.fs
   have hv:(bf.any fun p=>decide (2000<p.2.length))=false:=by
    rw [List.any_eq_false]
    intro p hp
    have:=(r8 p hp).2
    simp [-bind_some];omega
   rw [← q7] at hw
   rw [← q8] at htr
   rw [← q9] at hst
   rw [← q10] at hs
   have hrj:jr=[]:=by rw [q0];exact hr
   have ht:(decide (0≤b5)&&decide (b5≤253402300799999))=true:=by simp;omega
   have hp:plB (⟨b0,b1,b2,b3,bl,dl,b5,b6,b7,b8,bf,df,w1,w2,w3,w4⟩:Ev)=true:=by
    simp [-bind_some, plB]
    omega
   simp [-bind_some, itE,hrj,evE,hp,ht,hw.1,hw.2,hl 2000 (by omega),htr,hst,hs,hv]
  ·have hr:=(show ∀ s∈lt98_35,s≠[]∧¬ 32<s.length by decide) _ h.r
   rw [← q0] at hr
   have h1:=h.h0;have h2:=h.h2
   obtain rfl:b5=0:=q6.trans h.t0
   obtain rfl:b6=0:=q7.trans h.w0
   obtain rfl:b7=[]:=q8.trans h.tr
   obtain rfl:b8=[]:=q9.trans h.st
   obtain rfl:bf=[]:=q10.trans h.fs
   have hp:plB (⟨b0,b1,b2,b3,bl,dl,0,0,[],[],[],df,w1,w2,w3,w4⟩:Ev)=true:=by
    simp [-bind_some, plB]
    omega
   have htx:∀ p∈bl,p.txt=[]:=fun p hp=>by
    rw [q5] at hp
    obtain ⟨l0,hl0,rfl⟩:=d7u.1 hp
    exact h.tx l0 hl0
   have ha:(bl.any fun p => !(p.txt==[]))=false:=by
    rw [List.any_eq_false]
    intro p hp
    simp [-bind_some, htx p hp]
   simp [-bind_some, itE,hr.1,hr.2,hp,hl 60000 (by omega)]
   exact htx
inductive MkA:Int→List FM→Prop
 | nil (n):MkA n []
 | cons {n:Int} {m:FM} {r}:n≤m.1→m.1≤3→0≤m.2→m.2≤1000→MkA (m.1+1) r→MkA n (m::r)
theorem MkA.mem:∀ {l:List FM} {n:Int},MkA n l→∀ m∈l,n≤m.1∧m.1≤3∧0≤m.2∧m.2≤1000
 | x::r,n,h,m,hm=>by
  cases h with
  | cons h1 h2 h3 h4 h5 =>
   rcases d7s.1 hm with rfl | hm
   ·exact ⟨h1,h2,h3,h4⟩
   ·have:=h5.mem m hm
    omega
theorem MkA.asc:∀ {l:List FM} {n:Int},MkA n l→a6X l=true
 | [],n,h=>rfl
 | [x],n,h=>rfl
 | x::y::r,n,h=>by
  cases h with
  | cons h1 h2 h3 h4 h5 =>
   have:=h5.asc
   cases h5 with
   | cons g1 g2 g3 g4 g5 =>
    unfold a6X
    rw [this]
    simp [-bind_some];omega
theorem MkA.neg {l:List FM} {n:Int} (h:MkA n l) (hn:0≤n):a6x l=false:=by
 unfold a6x
 rw [List.any_eq_false]
 intro m hm
 have:=h.mem m hm
 simp [-bind_some];omega
theorem MkA.app {k:Int}:∀ {l:List FM} {n:Int} {m:FM},MkA n l→(∀ x∈l,x.1<m.1)→n≤m.1→m.1≤3→0≤m.2→m.2≤1000→MkA n (l++[m])
 | [],n,m,h,hx,h1,h2,h3,h4 => .cons h1 h2 h3 h4 (.nil _)
 | x::r,n,m,h,hx,h1,h2,h3,h4=>by
  cases h with
  | cons g1 g2 g3 g4 g5 =>
   have:=hx x (by simp)
   exact .cons g1 g2 g3 g4 (MkA.app (k:=k) g5 (fun y hy=>hx y (List.mem_cons_of_mem _ hy)) (by omega) h2 h3 h4)
theorem d2d {h:Hp} {o:Nat} (hc:CM h o):∃ ms d h',R b4s [.ptr o 0 0] h=some (d,h')∧SlOf 2 mkr ms d∧MkA 0 ms∧CM h' o∧Same o h h':=by
 suffices Wp (R b4s [.ptr o 0 0] h) (fun p=>∃ ms,SlOf 2 mkr ms p.1∧MkA 0 ms∧CM p.2 o∧Same o h p.2) by
  obtain ⟨⟨x,h'⟩,h1,ms,h2⟩:=this
  exact ⟨ms,x,h',h1,h2⟩
 have ho:=hc.lt
 rw [d0w]
 simp only [c5N,bs,d6W]
 refine Wp.loop (fun n ds g=>∃ d,∃ i:Nat,∃ x y,∃ l:List FM,ds=[d,.int .i64 i,x,y]∧n+i=4∧Sm h o g∧Own g h.length a0M 2 (l.map mkr) d∧MkA 0 l∧(∀ m∈l,m.1<i)∧l.length≤i)
  (fun r=>r.1 = .ext 0∧∃ d,∃ l:List FM,nth 0 r.2.1=d∧Sm h o r.2.2∧Own r.2.2 h.length a0M 2 (l.map mkr) d∧MkA 0 l) 4 ⟨.nils,0,.any,.any,[],rfl,rfl,.refl hc,.nils _ _ _ _,.nil _,by simp,by simp⟩ ?_ ?_
 ·rintro n ds g ⟨d,i,x,y,l,rfl,hi,S,ow,hl,hlt,hll⟩
  simp only [b3n,a0f,a0o,bs,d6W,a0k]
  refine Wp.dif ?_ ?_
  ·intro h0
   have h0:i<4:=dl_ h0
   have hw:=wi_ i (by omega)
   obtain ⟨v,g1,e1,c1,s1,v0,v1⟩:=m39 S.cd 2 (by omega) (by omega)
   have S1:=S.next c1 s1
   have ow1:=ow.same s1 ho
   simp only [e1,bs,a0S]
   by_cases hv:v=1
   ·simp only [hv,decide_true,a0c,if_true]
    obtain ⟨w,g2,e2,c2,s2,w0,w1⟩:=m39 S1.cd 120 (by omega) (by omega)
    have S2:=S1.next c2 s2
    have ow2:=ow1.same s2 ho
    simp only [e2,bs,a8I,b3E,d6W]
    refine b2W (ys:=[mkr ((i:Int),w)]) (n0:=h.length) S2.le ow2 (a1l _ _ _ _) (by simp;omega) fun d' g3 ow3 l3 k3 _ _=>?_
    have S3:=S2.app l3 fun q hq=>k3 q hq
    simp only [bs,a0r,a2n,a0f,a0t,hw]
    have e:l.map mkr++[mkr ((i:Int),w)]=(l++[((i:Int),w)]).map mkr:=by simp
    rw [e] at ow3
    refine .some (.inl ⟨rfl,n - 1,by omega,_,i+1,_,_,_,rfl,by omega,S3,ow3,MkA.app (k:=0) hl (fun m hm=>hlt m hm) (by show (0:Int)≤i;omega) (by show (i:Int)≤3;omega) w0 (by show w≤1000;omega),fun m hm=>?_,by simp;omega⟩)
    rcases d7t.1 hm with hm | hm
    ·have:=hlt m hm;omega
    ·simp at hm;rw [hm];show (i:Int)<_;omega
   ·simp only [hv,decide_false,a0c,d6X,if_false]
    simp only [bs,a0r,a2n,a0f,a0t,hw]
    exact .some (.inl ⟨rfl,n - 1,by omega,_,i+1,_,_,l,rfl,by omega,S1,ow1,hl,fun m hm=>by have:=hlt m hm;omega,by omega⟩)
  ·intro _
   exact .some (.inr ⟨by simp,rfl,d,l,rfl,S,ow,hl⟩)
 ·rintro ⟨ex,ds,g⟩ ⟨rfl,d,l,hd,S,ow,hl⟩
  simp only at hd S ow
  simp only [a0s,a0r,bs,a0f,hd,a0i]
  have fM:=a2w (n0:=h.length) (n:=3) ow (Nat.le_refl _) (fun a _=>a6Q _ g 3 a)
  obtain ⟨h',e,c',s'⟩:=S.scope (d:=d) rfl (a1q fM fun a _=>a9c _ a)
  rw [e]
  exact .some ⟨l,fM,hl,c',s'⟩
def mvL (k:Int) (l:Lin):Lin:=⟨l.off+k,l.len,l.txt⟩
theorem c3X (s:Int) (ls:List Lin) (i:Nat) (hi:i<ls.length):(((ls.take i).map (mvL s)++ls.drop i).map a1L).set i (a1L (mvL s ls[i]))=((ls.take (i+1)).map (mvL s)++ls.drop (i+1)).map a1L:=by
 have hg:ls[i]?=some ls[i]:=d7m hi
 rw [List.drop_eq_getElem_cons hi,d7j,hg]
 generalize ls[i]=l
 rw [d7d,d7e,a4s _ _ _ _ i (by simp;omega)]
 simp [-bind_some]
theorem c7G {s:Int} {ls:List Lin} {x:D} {n0:Nat} {g:Hp} (ow:Own g n0 a1r 3 (ls.map a1L) x) (hl:ls.length≤1000) (hw:∀ l∈ls, -9223372036854775808≤l.off+s∧l.off+s<9223372036854775808) (a b:D) {β:Type} {K:Out→Option β} {Q:β→Prop}
  (k:∀ g' a' b' c',g'.length=g.length→(∀ q,¬ x.inOb q→g'[q]?=g[q]?)→Own g' n0 a1r 3 ((ls.map (mvL s)).map a1L) x→Wp (K (.ext 2,[a',b',c'],g')) Q) :
  Wp ((a0N (a9C (.int .i64 s) x (.int .i64 ls.length)) [a,.int .i64 0,b] g).bind K) Q:=by
 refine Wp.loop (fun r ds g'=>∃ y z,∃ i:Nat,ds=[y,.int .i64 i,z]∧r+i=ls.length∧g'.length=g.length∧(∀ q,¬ x.inOb q→g'[q]?=g[q]?)∧Own g' n0 a1r 3 (((ls.take i).map (mvL s)++ls.drop i).map a1L) x)
  (fun r=>r.1 = .ext 2∧∃ a' b' c',r.2.1=[a',b',c']∧r.2.2.length=g.length∧(∀ q,¬ x.inOb q→r.2.2[q]?=g[q]?)∧Own r.2.2 n0 a1r 3 ((ls.map (mvL s)).map a1L) x) ls.length ⟨_,_,0,rfl,by omega,rfl,fun _ _=>rfl,by simpa using ow⟩ ?_ ?_
 ·rintro r ds g' ⟨y,z,i,rfl,hi,lg,sg,ow'⟩
  simp only [a9C,a0f,a0o,bs,d6W,a0k]
  refine Wp.dif ?_ ?_
  ·intro h0
   have h0:i<ls.length:=dl_ h0
   have hg:ls[i]?=some ls[i]:=d7m h0
   have hset:=c3X s ls i h0
   have hmem:ls[i]∈ls:=List.getElem_mem h0
   have hrow:(((ls.take i).map (mvL s)++ls.drop i).map a1L)[i]?=some (a1L ls[i]):=by
    rw [d7k,List.getElem?_append_right (by simp;omega)]
    have:i - ((ls.take i).map (mvL s)).length=0:=by simp;omega
    rw [this,List.getElem?_drop]
    simp [-bind_some, hg]
   have hL:(((ls.take i).map (mvL s)++ls.drop i).map a1L).length=ls.length:=by simp;omega
   obtain ⟨w0,w1⟩:=hw _ hmem
   generalize ls[i]=l at *
   have hws:IntKind.wrap .i64 (l.off+s)=l.off+s:=wrap_i64 w0 (by omega)
   have hw1:=wi_ i (by omega)
   rcases ow' with ⟨_,hn⟩ | ⟨o,hno,rfl,ho⟩
   ·rw [hn] at hrow;cases hrow
   rw [hL]
   have hlt:(0:Int)≤i∧(i:Int)<ls.length:=⟨by omega,by omega⟩
   have ld:a0b tab g' ty3 (.ptr o i 0)=some (.int .i64 l.off):=by rw [a7h,a0O ho,hrow];rfl
   rw [hL] at sg
   simp only [c7a,hlt,and_self,if_true,bs,Nat.zero_add,d7g,a3l,Nat.add_zero,ld,a0t,hws]
   refine b5k (kk:=i) (off:=0) (row:=a1L l) ho hrow (by rfl) (by simp [-bind_some, a1L]) (by rfl) fun g3 p3 s3=>?_
   have hspl:spl (a1L l) 0 (a0F (.int .i64 (l.off+s)))=a1L (mvL s l):=id rfl
   rw [hspl,hset] at p3
   simp only [bs,hw1]
   refine .some (.inl ⟨rfl,r - 1,by omega,_,_,i+1,rfl,by omega,s3.1.trans lg,fun q hq=>?_,?_⟩)
   ·rw [s3.2 q fun hh=>hq ⟨3,ls.length,by rw [hh]⟩];exact sg q hq
   ·refine .inr ⟨o,hno,?_,p3⟩
    have:(((ls.take (i+1)).map (mvL s)++ls.drop (i+1)).map a1L).length=ls.length:=by simp;omega
    rw [this]
  ·intro h0
   have h0:i=ls.length:=by
    have:¬ (i:Int)<ls.length:=by simpa using h0
    omega
   subst h0
   rw [d7v,List.drop_length,List.append_nil] at ow'
   exact .some (.inr ⟨by simp,rfl,_,_,_,rfl,lg,sg,ow'⟩)
 ·rintro ⟨ex,ds,g'⟩ ⟨rfl,a',b',c',rfl,lg,sg,ow'⟩
  exact k g' a' b' c' lg sg ow'
def RowQ (g:Hp) (n0:Nat) (x:RI) (row:List D):Prop:=∃ ld fd,row=x.row ld fd∧Own g n0 a1r 3 (x.ls.map a1L) ld∧SlOf 2 fld x.fs fd∧x.ls.length≤1000∧x.fs.length≤1000
inductive RowsQ (g:Hp) (n0:Nat):List RI→List (List D)→Prop
 | nil:RowsQ g n0 [] []
 | cons {x row xs rows}:RowQ g n0 x row→RowsQ g n0 xs rows→RowsQ g n0 (x::xs) (row::rows)
theorem RowsQ.snoc {g:Hp} {n0:Nat} {x:RI} {row:List D}:∀ {xs:List RI} {rows:List (List D)},RowsQ g n0 xs rows→RowQ g n0 x row→RowsQ g n0 (xs++[x]) (rows++[row])
 | _,_,.nil,h => .cons h .nil
 | _,_,.cons a b,h => .cons a (b.snoc h)
theorem RowsQ.len {g:Hp} {n0:Nat}:∀ {xs:List RI} {rows:List (List D)},RowsQ g n0 xs rows→rows.length=xs.length
 | _,_,.nil=>rfl
 | _,_,.cons a b=>by simp [-bind_some, b.len]
theorem RowQ.keep {g g':Hp} {n0:Nat} {x:RI} {row:List D} (h:RowQ g n0 x row) (hk:∀ q rs,n0≤q→q<g.length→g[q]?=some (.row a1r 3 rs)→g'[q]?=g[q]?):RowQ g' n0 x row:=by
 obtain ⟨ld,fd,h1,h2,h3⟩:=h
 exact ⟨ld,fd,h1,h2.keep fun q hq hin=>hk q _ hq (h2.lt hin).2 (a1T h2 hin),h3⟩
theorem RowsQ.keep {g g':Hp} {n0:Nat} (hk:∀ q rs,n0≤q→q<g.length→g[q]?=some (.row a1r 3 rs)→g'[q]?=g[q]?):∀ {xs:List RI} {rows:List (List D)},RowsQ g n0 xs rows→RowsQ g' n0 xs rows
 | _,_,.nil => .nil
 | _,_,.cons a b => .cons (a.keep hk) (b.keep hk)
theorem RowQ.fz {g:Hp} {n0 m:Nat} (hm:m≤n0) {x:RI} {row:List D} (h:RowQ g n0 x row):∃ j:It,a1Y j=x∧row.map (Pi.frz m g 2)=itr j:=by
 obtain ⟨ld,fd,rfl,h2,h3,h4,h5⟩:=h
 have hsl:=a2w (n0:=m) (n:=1) h2 hm (fun a _=>a5q _ g _ a)
 have hfd:Pi.frz m g 2 fd=fd:=a2F (n:=1) h3 fun p _ d hd=>by
  simp only [fld,d7s,List.not_mem_nil,or_false] at hd
  rcases hd with rfl | rfl <;> rfl
 refine ⟨c4B x (Pi.frz m g 2 ld) fd hsl h3 (by omega) (by omega),b8f _ _ _ _ _ _ _,?_⟩
 show [_,_,_,_,_,Pi.frz m g 2 ld,_,_,_,_,Pi.frz m g 2 fd]=_
 rw [hfd]
 rfl
theorem RowsQ.fz {g:Hp} {n0 m:Nat} (hm:m≤n0):∀ {xs:List RI} {rows:List (List D)},RowsQ g n0 xs rows→∃ its:List It,its.map a1Y=xs∧rows.map (fun row=>row.map (Pi.frz m g 2))=its.map itr
 | _,_,.nil=>⟨[],rfl,rfl⟩
 | _,_,.cons a b=>by
  obtain ⟨j,h1,h2⟩:=a.fz hm
  obtain ⟨its,h3,h4⟩:=b.fz hm
  exact ⟨j::its,by simp [-bind_some, h1,h3],by simp [-bind_some, h2,h4]⟩
theorem c3B {g:Hp} {n1 m e z n:Nat} {rows:List (List D)} {d:D} (hd:Own g n1 e z rows d) (hn:m≤n1):(rows=[]∧frz m g (n+1) d = .nils)∨frz m g (n+1) d = .sl z false (rows.map fun row=>row.map (frz m g n)):=by
 rcases hd with ⟨rfl,hr⟩ | ⟨o,ho,rfl,hg⟩
 ·exact .inl ⟨hr,rfl⟩
 ·right
  have:Nat.ble m o=true:=by rw [Nat.ble_eq];omega
  simp only [Pi.frz,this,hg,List.drop_zero,d7v]
theorem c1z (o k:Nat) (f:Int) (h0:0≤f) (h3:f<3):a0d tab a2P (.ptr o k 0) (.int .i64 f)=some (.ptr o k f.toNat):=by
 have h1:b0L tab a2P=some (ti3,some 3):=id rfl
 have h2:ti3.sz=1:=id rfl
 have h4:f<((3:Nat):Int):=h3
 simp only [a0d,h1,h2,h0,h4,and_self,if_true,Nat.zero_lt_one]
 simp [-bind_some]
def enr (es:List Int):List D:=es.map (.int .i64 ·)
structure QA (h g k:Hp) (o:Nat) (es:List Int) (row:List D):Prop where
 s:Sm h o k
 e:k[h.length]?=some (.row a2P 3 [enr es])
 i:k[g.length]?=some (.row a0P 11 [row])
 a:∀ q,q<g.length→q≠o→q≠h.length→k[q]?=g[q]?
 hg:h.length<g.length
theorem QA.l {h g k:Hp} {o:Nat} {es:List Int} {row:List D} (A:QA h g k o es row):g.length<k.length:=(d7n.1 A.i).1
theorem QA.next {h g k k':Hp} {o:Nat} {es:List Int} {row:List D} (A:QA h g k o es row) (c:CM k' o) (s:Same o k k'):QA h g k' o es row :=
 have ho:=A.s.lt
 have hg:=A.hg
 ⟨A.s.next c s,by rw [s.2 _ (by omega)];exact A.e,by rw [s.2 _ (by omega)];exact A.i,fun q h1 h2 h3=>by rw [s.2 q h2];exact A.a q h1 h2 h3,A.hg⟩
theorem QA.put {h g k k':Hp} {o:Nat} {es:List Int} {row row':List D} (A:QA h g k o es row) (p:k'[g.length]?=some (.row a0P 11 [row'])) (s:Same g.length k k'):QA h g k' o es row' :=
 have ho:=A.s.lt
 have hg:=A.hg
 ⟨A.s.app (Nat.le_of_eq s.1.symm) fun q hq=>s.2 q (by omega),by rw [s.2 _ (by omega)];exact A.e,p,fun q h1 h2 h3=>by rw [s.2 q (by omega)];exact A.a q h1 h2 h3,A.hg⟩
theorem QA.ends {h g k k':Hp} {o:Nat} {es es':List Int} {row:List D} (A:QA h g k o es row) (p:k'[h.length]?=some (.row a2P 3 [enr es'])) (s:Same h.length k k'):QA h g k' o es' row :=
 have ho:=A.s.lt
 have hg:=A.hg
 ⟨A.s.app (Nat.le_of_eq s.1.symm) fun q hq=>s.2 q (by omega),p,by rw [s.2 _ (by omega)];exact A.i,fun q h1 h2 h3=>by rw [s.2 q h3];exact A.a q h1 h2 h3,A.hg⟩
theorem QA.grow {h g k k':Hp} {o:Nat} {es:List Int} {row:List D} (A:QA h g k o es row) (l:k.length≤k'.length) (s:∀ q,q<g.length+1→k'[q]?=k[q]?):QA h g k' o es row :=
 have ho:=A.s.lt
 have hg:=A.hg
 ⟨A.s.app l fun q hq=>s q (by omega),by rw [s _ (by omega)];exact A.e,by rw [s _ (by omega)];exact A.i,fun q h1 h2 h3=>by rw [s q (by omega)];exact A.a q h1 h2 h3,A.hg⟩
theorem c6L (es:List Int) (f v:Int) (h3:es.length=3) (h0:0≤f) (hf:f<3):spl (enr es) f.toNat (a0F (.int .i64 v))=enr (es.set f.toNat v):=by
 match es,h3 with
 | [a,b,c],_ =>
  have:f=0∨f=1∨f=2:=by omega
  rcases this with rfl | rfl | rfl <;> rfl
theorem c6K (es:List Int) (f:Int) (h3:es.length=3) (h0:0≤f) (hf:f<3):∃ e,es[f.toNat]?=some e∧((enr es).drop f.toNat).head?=some (.int .i64 e)∧e∈es:=by
 match es,h3 with
 | [a,b,c],_ =>
  have:f=0∨f=1∨f=2:=by omega
  rcases this with rfl | rfl | rfl
  ·exact ⟨a,rfl,rfl,by simp⟩
  ·exact ⟨b,rfl,rfl,by simp⟩
  ·exact ⟨c,rfl,rfl,by simp⟩
def rkr (r:Int):List D:=[.int .i64 r]
structure QP (h g:Hp) (o:Nat) (es:List Int) (xs:List RI) (rows:List (List D)) (rs:List Int) (x y:D):Prop where
 s:Sm h o g
 e:g[h.length]?=some (.row a2P 3 [enr es])
 e3:es.length=3
 eb:∀ e∈es,0≤e∧e≤40+1000*xs.length
 q:RowsQ g (h.length+1) xs rows
 x:Own g (h.length+1) a0P 11 rows x
 y:Own g (h.length+1) ty3 1 (rs.map rkr) y
 ok:∀ z∈xs,∀ j:It,a1Y j=z→OkI j
 rl:rs.length=xs.length
theorem QP.hg {h g:Hp} {o:Nat} {es:List Int} {xs:List RI} {rows:List (List D)} {rs:List Int} {x y:D} (P:QP h g o es xs rows rs x y):h.length<g.length:=(d7n.1 P.e).1
theorem d2j {h g:Hp} {o:Nat} {es:List Int} {xs:List RI} {rows:List (List D)} {rs:List Int} {x y:D} (P:QP h g o es xs rows rs x y) (hx:xs.length≤40) {n:Int} (hn:0<n) (hn2:n≤1000) {p8:D × Hp} (hp:p8.1 = .ptr h.length 0 0) (d3 d4 d5 d6 d7 d8 d9 d10 d11:D) {Q:Out→Prop}
  (k:∀ g' es' z rows' r x' y' e3 e4 e5 e6 e7 e8 e9 e10 e11,QP h g' o es' (xs++[z]) rows' (rs++[r]) x' y'→Q (.nrm,[x',y',.int .i64 (n - 1),e3,e4,e5,e6,e7,e8,e9,e10,e11],g')) :
  Wp (a7t (.ptr o 0 0) p8 [x,y,.int .i64 n,d3,d4,d5,d6,d7,d8,d9,d10,d11] g) Q:=by
 have hgt:decide (n>0)=true:=decide_eq_true hn
 have ho:=P.s.lt
 have hg:=P.hg
 simp only [a7t,a0f,a0o,bs,d6W,a0u,hgt,a0c,if_true]
 obtain ⟨i,g1,e1,c1,s1,hi⟩:=d2b P.s.cd
 obtain ⟨hch,a20,a31,l1⟩:=hi.ch
 have hle:=a6w _ _ _ hch
 have l3:=hi.l3
 have f4:=hi.fs
 simp only [e1,bs]
 have l1g:g1.length=g.length:=s1.1
 have n0:(a0I g1 a0P 11 [[.str [],.int .i64 0,.int .i64 0,.int .i64 0,.int .i64 0,.nils,.int .i64 0,.int .i64 0,.str [],.str [],.nils]])[g.length]?=some (.row a0P 11 [itr zit]):=by rw [← l1g];exact a1h _ _ _ _
 have nk:∀ q,q<g.length→(a0I g1 a0P 11 [[.str [],.int .i64 0,.int .i64 0,.int .i64 0,.int .i64 0,.nils,.int .i64 0,.int .i64 0,.str [],.str [],.nils]])[q]?=g1[q]?:=fun q hq=>a0Y _ _ _ _ (by omega)
 have nl:(a0I g1 a0P 11 [[.str [],.int .i64 0,.int .i64 0,.int .i64 0,.int .i64 0,.nils,.int .i64 0,.int .i64 0,.str [],.str [],.nils]]).length=g.length+1:=by rw [← l1g];exact a2D _ _ _ _
 rw [l1g]
 generalize a0I g1 a0P 11 [[.str [],.int .i64 0,.int .i64 0,.int .i64 0,.int .i64 0,.nils,.int .i64 0,.int .i64 0,.str [],.str [],.nils]]=g2 at *
 have A2:QA h g g2 o es (itr zit):=⟨(P.s.next c1 s1).app (by omega) fun q hq=>nk q (by omega),by rw [nk _ hg,s1.2 _ (by omega)];exact P.e,n0,fun q h1 h2 h3=>by rw [nk q h1,s1.2 q h2],hg⟩
 clear n0 nk nl
 refine b2X (kk:=0) (off:=0) (row:=itr zit) (v := .agg (itr i)) A2.i (by rfl) (by rfl) (by exact Nat.le_refl _) (b2B _) fun g3 p3 s3=>?_
 have A3:QA h g g3 o es (itc i.r i.e.a0 i.e.a1 i.e.a2 i.e.a3 i.e.ld i.e.a5 i.e.a6 i.e.s7 i.e.s8 i.e.fd):=A2.put p3 s3
 clear p3 s3 A2 e1
 obtain ⟨f,g4,e4,c4,s4,f0,f3⟩:=m39 A3.s.cd 3 (by omega) (by omega)
 have A4:=A3.next c4 s4
 clear A3 s4 c4
 simp only [e4,bs,a4k,a9Y]
 refine b5k (kk:=0) (off:=0+1+1) (v := .int .i64 f) A4.i (by rfl) (by rfl) (by simp [-bind_some, itc]) (by rfl) fun g5 p5 s5=>?_
 have A5:QA h g g5 o es (itc i.r i.e.a0 f i.e.a2 i.e.a3 i.e.ld i.e.a5 i.e.a6 i.e.s7 i.e.s8 i.e.fd):=A4.put p5 s5
 clear p5 s5 A4 e4
 obtain ⟨ef,he,hed,hem⟩:=c6K es f P.e3 f0 f3
 obtain ⟨eb0,eb1⟩:=P.eb ef hem
 have lde:a0b tab g5 ty3 (.ptr h.length 0 f.toNat)=some (.int .i64 ef):=by rw [a7h,a0O A5.e];exact hed
 have ldf:a0b tab g5 ty3 (.ptr g.length 0 (0+1+2))=some (.int .i64 i.e.a2):=by rw [a7h,a0O A5.i];rfl
 have ldl:a0b tab g5 a1j (.ptr g.length 0 (0+1+4))=some i.e.ld:=by rw [b7P,a0O A5.i];rfl
 have hsh:IntKind.wrap .i64 (ef - i.e.a2)=ef - i.e.a2:=wrap_i64 (by omega) (by omega)
 simp only [bs,hp,c1z _ _ f f0 f3,lde,a4k,a4O,a3Q,ldf,ldl,a0z,hsh]
 refine b9m (n0:=g5.length) (rows:=[]) (Nat.le_refl _) (.nils _ _ _ _) (a3k _ i.e.hld) (by simp;omega) fun x6 g6 o6 l6 k6 _ _=>?_
 rw [List.nil_append] at o6
 have l5:=A5.l
 have A6:=A5.grow l6 fun q hq=>k6 q (by omega)
 have lx6:a0y tab a1j x6=some (.int .i64 i.e.ls.length):=by rw [c1E o6];simp [-bind_some]
 have hoff:∀ l∈i.e.ls,0≤l.off∧l.off≤1000:=by
  have key:∀ (ls:List Lin) (a b:Int),mch a ls b→∀ y∈ls,a≤y.off∧y.off≤b:=by
   intro ls
   induction ls with
   | nil=>intro a b _ y hy;simp at hy
   | cons z r ih =>
    intro a b h y hy
    have h5:=a6w _ _ _ h.2.2.2.2
    rcases d7s.1 hy with rfl | hy
    ·have:=h.1;have:=h.2.1;omega
    ·have:=ih _ b h.2.2.2.2 y hy
     have:=h.2.1
     omega
  intro l hl
  have:=key _ _ _ hch l hl
  omega
 simp only [bs,lx6,d6W]
 refine c7G (s:=ef - i.e.a2) o6 (by omega) (fun l hl=>by have:=hoff l hl;omega) _ _ fun g7 z7 z10 z11 l7 k7 o7=>?_
 have A7:QA h g g7 o es _:=A6.grow (by omega) fun q hq=>k7 q fun hin=>by have:=(o6.lt hin).1;omega
 clear k7 A6 k6
 have ldf7:a0b tab g7 ty3 (.ptr g.length 0 (0+1+2))=some (.int .i64 i.e.a2):=by rw [a7h,a0O A7.i];rfl
 have ldt7:a0b tab g7 ty3 (.ptr g.length 0 (0+1+3))=some (.int .i64 i.e.a3):=by rw [a7h,a0O A7.i];rfl
 have hs2:IntKind.wrap .i64 (i.e.a2+(ef - i.e.a2))=i.e.a2+(ef - i.e.a2):=wrap_i64 (by omega) (by omega)
 have hs3:IntKind.wrap .i64 (i.e.a3+(ef - i.e.a2))=i.e.a3+(ef - i.e.a2):=wrap_i64 (by omega) (by omega)
 simp only [bs,a0s,a0r,a0f,a0o,a4k,a4O,a4P,a3Q,ldf7,ldt7,a0t,hs2,hs3,d6W]
 have ox:=a0H (a2l o7)
 refine b9r (kk:=0) (off:=0+1+4) A7.i (by rfl) (by rw [ox.1];rfl) (by simp [-bind_some, itc]) ox.2 fun g8 p8' s8=>?_
 rw [ox.1] at p8'
 have A8:QA h g g8 o es (itc i.r i.e.a0 f i.e.a2 i.e.a3 x6 i.e.a5 i.e.a6 i.e.s7 i.e.s8 i.e.fd):=A7.put p8' s8
 have o8:=o7.same s8 (by omega)
 clear p8' s8 A7 ldf7 ldt7
 try simp only [bs,a4k,a4O,a4P]
 refine b5k (kk:=0) (off:=0+1+2) (v := .int .i64 (i.e.a2+(ef - i.e.a2))) A8.i (by rfl) (by rfl) (by simp [-bind_some, itc]) (by rfl) fun g9 p9 s9=>?_
 have A9:QA h g g9 o es (itc i.r i.e.a0 f (i.e.a2+(ef - i.e.a2)) i.e.a3 x6 i.e.a5 i.e.a6 i.e.s7 i.e.s8 i.e.fd):=A8.put p9 s9
 have o9:=o8.same s9 (by omega)
 clear p9 s9 A8 o8
 try simp only [bs,a4k,a4O,a4P]
 refine b5k (kk:=0) (off:=0+1+3) (v := .int .i64 (i.e.a3+(ef - i.e.a2))) A9.i (by rfl) (by rfl) (by simp [-bind_some, itc]) (by rfl) fun ga pa sa=>?_
 have Aa:QA h g ga o es (itc i.r i.e.a0 f (i.e.a2+(ef - i.e.a2)) (i.e.a3+(ef - i.e.a2)) x6 i.e.a5 i.e.a6 i.e.s7 i.e.s8 i.e.fd):=A9.put pa sa
 have oa:=o9.same sa (by omega)
 clear pa sa A9 o9
 have ldta:a0b tab ga ty3 (.ptr g.length 0 (0+1+3))=some (.int .i64 (i.e.a3+(ef - i.e.a2))):=by rw [a7h,a0O Aa.i];rfl
 simp only [bs,a4k,a4P,ldta,hp,c1z _ _ f f0 f3]
 refine b5k (kk:=0) (off:=f.toNat) (v := .int .i64 (i.e.a3+(ef - i.e.a2))) Aa.e (by rfl) (by rfl) (by simp only [enr,d7c,P.e3];omega) (by rfl) fun gb pb sb=>?_
 rw [c6L es f _ P.e3 f0 f3] at pb
 have Ab:QA h g gb o (es.set f.toNat (i.e.a3+(ef - i.e.a2))) _:=Aa.ends pb sb
 have ob:=oa.same sb (by omega)
 clear pb sb Aa oa ldta
 have ldi:a0b tab gb a0P (.ptr g.length 0 0)=some (.agg (itc i.r i.e.a0 f (i.e.a2+(ef - i.e.a2)) (i.e.a3+(ef - i.e.a2)) x6 i.e.a5 i.e.a6 i.e.s7 i.e.s8 i.e.fd)):=b7M Ab.i rfl
 have hlit:a0W tab a1v 1 [0] [.agg (itc i.r i.e.a0 f (i.e.a2+(ef - i.e.a2)) (i.e.a3+(ef - i.e.a2)) x6 i.e.a5 i.e.a6 i.e.s7 i.e.s8 i.e.fd)]=some (.sl 11 true [itc i.r i.e.a0 f (i.e.a2+(ef - i.e.a2)) (i.e.a3+(ef - i.e.a2)) x6 i.e.a5 i.e.a6 i.e.s7 i.e.s8 i.e.fd]):=id rfl
 simp only [bs,ldi,hlit]
 have hin:∀ {e z:Nat} {rw:List (List D)} {d:D},Own g (h.length+1) e z rw d→Own gb (h.length+1) e z rw d:=fun w=>w.keep fun q hq hi=>Ab.a q (w.lt hi).2 (by omega) (by omega)
 have xb:=hin P.x
 have yb:=hin P.y
 have qb:=P.q.keep (g':=gb) fun q _ hq hq2 _=>Ab.a q hq2 (by omega) (by omega)
 have hlr:rows.length≤40:=by rw [P.q.len];exact hx
 have lb:=Ab.l
 refine b9l (n0:=h.length+1) (by omega) xb (a1l _ _ _ _) (by simp;omega) fun x' gc oc lc kc kc' _=>?_
 have Sc:=Ab.s.app lc fun q hq=>kc q (by omega)
 have nox:∀ {e z:Nat} {rw:List (List D)} {d:D} {m:Nat},Own gb m e z rw d→e≠a0P→Own gc m e z rw d:=fun w hne=>w.keep fun q hq hi=>kc' q (w.lt hi).2 fun hx=>by
  have h1:=a1T w hi
  rw [a1T xb hx] at h1
  injection h1 with h1
  injection h1 with h1
  exact hne h1.symm
 have yc:=nox yb (by decide)
 have ol:=nox ob (by decide)
 have qc:=qb.keep (g':=gc) fun q rs _ hq h1=>kc' q hq fun hx=>by
  rw [a1T xb hx] at h1
  injection h1 with h1
  injection h1 with h1
  exact absurd h1 (by decide)
 have ec:gc[h.length]?=some (.row a2P 3 [enr (es.set f.toNat (i.e.a3+(ef - i.e.a2)))]):=by rw [kc _ (by omega)];exact Ab.e
 obtain ⟨r,gd,ed,cd,sd,r0,r4⟩:=m39 Sc.cd 4 (by omega) (by omega)
 have Sd:=Sc.next cd sd
 simp only [bs,ed,c1o]
 have xd:=oc.same sd (by omega)
 have yd:=yc.same sd (by omega)
 have old:=ol.same sd (by omega)
 have qd:=qc.keep (g':=gd) fun q rs hq _ _=>sd.2 q (by omega)
 have hld:gd.length=gc.length:=sd.1
 have hrl:rs.length≤40:=by rw [P.rl];exact hx
 refine c8q (ys:=[rkr r]) (n0:=h.length+1) (by omega) yd (a1l _ _ _ _) (by simp;omega) fun y' ge oe le ke ke' _=>?_
 have noy:∀ {e z:Nat} {rw:List (List D)} {d:D} {m:Nat},Own gd m e z rw d→e≠ty3→Own ge m e z rw d:=fun w hne=>w.keep fun q hq hi=>ke' q (w.lt hi).2 fun hx=>by
  have h1:=a1T w hi
  rw [a1T yd hx] at h1
  injection h1 with h1
  injection h1 with h1
  exact hne h1.symm
 have hn1:IntKind.wrap .i64 (n - 1)=n - 1:=wrap_i64 (by omega) (by omega)
 simp only [bs,a0z,hn1]
 have qe:=qd.keep (g':=ge) fun q rs _ hq h1=>ke' q hq fun hx=>by
  rw [a1T yd hx] at h1
  injection h1 with h1
  injection h1 with h1
  exact absurd h1 (by decide)
 have hrow:RowQ ge (h.length+1) (mvI (a1Y i) f (ef - i.e.a2)) (itc i.r i.e.a0 f (i.e.a2+(ef - i.e.a2)) (i.e.a3+(ef - i.e.a2)) x6 i.e.a5 i.e.a6 i.e.s7 i.e.s8 i.e.fd) :=
  ⟨x6,i.e.fd,rfl,(noy old (by decide)).from (by omega),i.e.hfd,by simp only [mvI,a1Y,d7c];omega,by show i.e.fs.length≤1000;omega⟩
 refine .some (k ge _ (mvI (a1Y i) f (ef - i.e.a2)) _ r x' y' _ _ _ _ _ _ _ _ _ ⟨Sd.app le fun q hq=>ke q (by omega),by rw [ke _ (by omega),sd.2 _ (by omega)];exact ec,by simpa using P.e3,fun e he=>?_,qe.snoc hrow,noy xd (by decide),by rw [d7d];exact oe,fun z hz j hj=>?_,by simp [-bind_some, P.rl]⟩)
 ·rcases List.mem_or_eq_of_mem_set he with he | rfl
  ·have:=P.eb e he
   simp only [d7b,d7o,d7p]
   omega
  ·simp only [d7b,d7o,d7p]
   omega
 ·rcases d7t.1 hz with hz | hz
  ·exact P.ok z hz j hj
  ·simp only [List.mem_singleton] at hz
   subst hz
   exact d2f hi f0 (by omega) (by omega) (by omega) hj
theorem b8K (n0:Nat) (h:Hp) (n:Nat) (r:Int):∀ d∈rkr r,frz n0 h n d=d:=by
 intro d hd
 simp only [rkr,List.mem_singleton] at hd
 subst hd
 exact b2x _ _ _ _ _
theorem d2e {h:Hp} {o:Nat} (hc:CM h o) (m:Nat) (hm:m≤40):∃ (its:List It) (rs:List Int) (dq dr:D) (h':Hp),R b1i [.ptr o 0 0,.int .i64 m] h=some (.tup [dq,dr],h')∧SlOf 11 itr its dq∧SlOf 1 rkr rs dr∧(∀ i∈its,OkI i)∧its.length≤m∧rs.length=its.length∧CM h' o∧Same o h h':=by
 suffices Wp (R b1i [.ptr o 0 0,.int .i64 m] h) (fun p=>∃ (its:List It) (rs:List Int) (dq dr:D),p.1 = .tup [dq,dr]∧SlOf 11 itr its dq∧SlOf 1 rkr rs dr∧(∀ i∈its,OkI i)∧its.length≤m∧rs.length=its.length∧CM p.2 o∧Same o h p.2) by
  obtain ⟨⟨x,h'⟩,h1,its,rs,dq,dr,rfl,h2⟩:=this
  exact ⟨its,rs,dq,dr,h',h1,h2⟩
 have ho:=hc.lt
 have hmul:∀ v:Int,0≤v→v<4→IntKind.wrap .i64 (10*v)=10*v:=fun v h0 h1=>wrap_i64 (by omega) (by omega)
 rw [d0x]
 simp only [c5O,bs,d6W]
 obtain ⟨v1,g1,e1,c1,s1,a1,b1⟩:=m39 hc 4 (by omega) (by omega)
 simp only [e1,bs,a2x,hmul v1 a1 b1]
 obtain ⟨v2,g2,e2,c2,s2,a2,b2⟩:=m39 c1 4 (by omega) (by omega)
 simp only [e2,bs,a2x,hmul v2 a2 b2]
 obtain ⟨v3,g3,e3,c3,s3,a3,b3⟩:=m39 c2 4 (by omega) (by omega)
 have hb:a0K tab a2P [0,1,2] [.int .i64 (10*v1),.int .i64 (10*v2),.int .i64 (10*v3)]=some (.agg (enr [10*v1,10*v2,10*v3])):=id rfl
 simp only [e3,bs,a2x,hmul v3 a3 b3,hb,d6W]
 have l3:g3.length=h.length:=by have:=s1.1;have:=s2.1;have:=s3.1;omega
 have S3:=(((Sm.refl hc).next c1 s1).next c2 s2).next c3 s3
 have n0:(a0I g3 a2P 3 [[.int .i64 0,.int .i64 0,.int .i64 0]])[h.length]?=some (.row a2P 3 [enr [0,0,0]]):=by rw [← l3];exact a1h _ _ _ _
 have nk:∀ q,q<h.length→(a0I g3 a2P 3 [[.int .i64 0,.int .i64 0,.int .i64 0]])[q]?=g3[q]?:=fun q hq=>a0Y _ _ _ _ (by omega)
 have nl:(a0I g3 a2P 3 [[.int .i64 0,.int .i64 0,.int .i64 0]]).length=h.length+1:=by rw [← l3];exact a2D _ _ _ _
 rw [l3]
 generalize a0I g3 a2P 3 [[.int .i64 0,.int .i64 0,.int .i64 0]]=g4 at *
 have S4:=S3.app (g':=g4) (by omega) fun q hq=>nk q hq
 refine c4s (kk:=0) (off:=0) (row:=enr [0,0,0]) (v := .agg (enr [10*v1,10*v2,10*v3])) n0 (by rfl) (by rfl) (by exact Nat.le_refl _) (by rfl) fun g5 p5 s5=>?_
 have p5:g5[h.length]?=some (.row a2P 3 [enr [10*v1,10*v2,10*v3]]):=p5
 have S5:=S4.app (Nat.le_of_eq s5.1.symm) fun q hq=>s5.2 q (by omega)
 have hm1:IntKind.wrap .i64 ((m:Int)+1)=(m:Int)+1:=wrap_i64 (by omega) (by omega)
 simp only [bs,a0t,hm1]
 obtain ⟨n,g6,e6,c6,s6,a6,b6⟩:=m39 S5.cd ((m:Int)+1) (by omega) (by omega)
 have S6:=S5.next c6 s6
 simp only [bs,e6]
 obtain ⟨N,rfl⟩:∃ N:Nat,n=N:=⟨n.toNat,by omega⟩
 have hN:N≤m:=by omega
 refine Wp.loop (fun r ds g=>∃ x y d3 d4 d5 d6 d7 d8 d9 d10 d11,∃ es xs rows rs,ds=[x,y,.int .i64 (r:Nat),d3,d4,d5,d6,d7,d8,d9,d10,d11]∧r+xs.length=N∧QP h g o es xs rows rs x y)
  (fun q=>q.1 = .ext 0∧∃ x y es xs rows rs,nth 0 q.2.1=x∧nth 1 q.2.1=y∧xs.length=N∧QP h q.2.2 o es xs rows rs x y) N ⟨.nils,.nils,_,_,_,_,_,_,_,_,_,[10*v1,10*v2,10*v3],[],[],[],rfl,by simp,⟨S6,by rw [s6.2 _ (by omega)];exact p5,rfl,fun e he=>?_,.nil,.nils _ _ _ _,.nils _ _ _ _,fun z hz=>by simp at hz,rfl⟩⟩ ?_ ?_
 ·simp only [d7s,List.not_mem_nil,or_false] at he
  simp only [d7p]
  rcases he with rfl | rfl | rfl <;> omega
 ·rintro r ds g ⟨x,y,d3,d4,d5,d6,d7,d8,d9,d10,d11,es,xs,rows,rs,rfl,hr,P⟩
  by_cases h0:r=0
  ·subst h0
   simp only [a7t,a0f,a0o,bs,d6W,a0u,show decide (((0:Nat):Int)>0)=false by decide,a0c,d6X,if_false]
   exact .some (.inr ⟨by simp,rfl,x,y,es,xs,rows,rs,rfl,rfl,by omega,P⟩)
  ·refine d2j P (by omega) (n:=(r:Int)) (by omega) (by omega) rfl _ _ _ _ _ _ _ _ _ fun g' es' z rows' r' x' y' e3 e4 e5 e6 e7 e8 e9 e10 e11 P'=>?_
   have hr1:(r:Int) - 1=((r - 1:Nat):Int):=by omega
   rw [hr1]
   exact .inl ⟨rfl,r - 1,by omega,_,_,_,_,_,_,_,_,_,_,_,_,_,_,_,rfl,by simp only [d7b,d7o,d7p];omega,P'⟩
 ·rintro ⟨ex,ds,g⟩ ⟨rfl,x,y,es,xs,rows,rs,hx,hy,hxs,P⟩
  simp only at hx hy P
  simp only [a0s,a0r,bs,a0f,a0o,hx,hy,a0Z]
  obtain ⟨its,q1,q2⟩:=P.q.fz (m:=h.length) (by omega)
  have hsx:SlOf 11 itr its (frz h.length g 3 x):=by
   rcases c3B (m:=h.length) (n:=2) P.x (by omega) with ⟨w1,w2⟩ | w
   ·rw [w2]
    have:its=[]:=by rw [w1] at q2;simpa using q2.symm
    rw [this]
    exact .nils _ _
   ·rw [w,q2];exact .mk _ _ _ _
  have hsy:=a2w (n0:=h.length) (n:=2) P.y (by omega) (fun a _=>b8K _ g 2 a)
  have hil:its.length=N:=by rw [← hxs,← q1];simp [-bind_some]
  obtain ⟨h',e,c',s'⟩:=P.s.scope (d := .tup [x,y]) (d' := .tup [frz h.length g 3 x,frz h.length g 3 y]) (by rfl) (.tup _ fun d hd=>by
   simp at hd
   rcases hd with rfl | rfl
   ·exact a1q hsx fun a _=>a6M _ a
   ·exact a1q hsy fun a _ d hd=>by
      simp only [rkr,List.mem_singleton] at hd
      subst hd
      exact .int _ _)
  rw [e]
  refine .some ⟨its,rs,_,_,rfl,hsx,hsy,fun i hi=>P.ok (a1Y i) ?_ i rfl,by omega,by rw [P.rl,hxs,hil],c',s'⟩
  rw [← q1]
  exact d7u.2 ⟨i,hi,rfl⟩
theorem d2c {h:Hp} {o:Nat} (hc:CM h o):∃ (n:Int) (ms:List FM) (its:List It) (dm dq:D) (h':Hp),R a7c [.ptr o 0 0] h=some (.agg (svr n dm dq),h')∧SlOf 2 mkr ms dm∧SlOf 11 itr its dq∧0≤n∧n<200∧MkA 0 ms∧(∀ i∈its,OkI i)∧its.length≤3∧CM h' o∧Same o h h':=by
 suffices Wp (R a7c [.ptr o 0 0] h) (fun p=>∃ (n:Int) (ms:List FM) (its:List It) (dm dq:D),p.1 = .agg (svr n dm dq)∧SlOf 2 mkr ms dm∧SlOf 11 itr its dq∧0≤n∧n<200∧MkA 0 ms∧(∀ i∈its,OkI i)∧its.length≤3∧CM p.2 o∧Same o h p.2) by
  obtain ⟨⟨x,h'⟩,h1,n,ms,its,dm,dq,rfl,h2⟩:=this
  exact ⟨n,ms,its,dm,dq,h',h1,h2⟩
 have ho:=hc.lt
 have r0:(a0I h a0g 3 [[.int .i64 0,.nils,.nils]])[h.length]?=some (.row a0g 3 [svr 0 .nils .nils]):=a1h _ _ _ _
 have l0:(a0I h a0g 3 [[.int .i64 0,.nils,.nils]]).length=h.length+1:=a2D _ _ _ _
 have k0:∀ q,q<h.length→(a0I h a0g 3 [[.int .i64 0,.nils,.nils]])[q]?=h[q]?:=fun q hq=>a0Y _ _ _ _ hq
 rw [d0s]
 simp only [c5J,bs,d6W]
 generalize a0I h a0g 3 [[.int .i64 0,.nils,.nils]]=g0 at *
 have S0:=(Sm.refl hc).app (g':=g0) (by omega) k0
 obtain ⟨n,g1,e1,c1,s1,n0,n1⟩:=m39 S0.cd 200 (by omega) (by omega)
 have S1:=S0.next c1 s1
 obtain ⟨ms,dm,g2,e2,hm,ha,c2,s2⟩:=d2d c1
 have S2:=S1.next c2 s2
 have l2:g2.length=h.length+1:=by have:=s1.1;have:=s2.1;omega
 have r2:g2[h.length]?=some (.row a0g 3 [svr 0 .nils .nils]):=by rw [s2.2 _ (by omega),s1.2 _ (by omega)];exact r0
 simp only [e1,e2,bs,b5p n dm (a1x hm),l2,d6W]
 have r3:(a0I g2 a0g 3 [[.int .i64 0,.nils,.nils]])[h.length+1]?=some (.row a0g 3 [svr 0 .nils .nils]):=by rw [← l2];exact a1h _ _ _ _
 have k3:∀ q,q<h.length+1→(a0I g2 a0g 3 [[.int .i64 0,.nils,.nils]])[q]?=g2[q]?:=fun q hq=>a0Y _ _ _ _ (by omega)
 have l3:(a0I g2 a0g 3 [[.int .i64 0,.nils,.nils]]).length=h.length+2:=by rw [a2D,l2]
 generalize a0I g2 a0g 3 [[.int .i64 0,.nils,.nils]]=g3 at *
 have S3:=S2.app (g':=g3) (by omega) fun q hq=>k3 q (by omega)
 refine a4v (kk:=0) (off:=0) (row:=svr 0 .nils .nils) (v := .agg [.int .i64 n,dm,.nils]) r3 (by rfl) (by rfl) (by exact Nat.le_refl _) (by rcases hm with ⟨rfl,_⟩ | ⟨b,rfl⟩ <;> rfl) fun g4 p4 s4=>?_
 have p4:g4[h.length+1]?=some (.row a0g 3 [svr n dm .nils]):=p4
 have S4:=S3.app (g':=g4) (Nat.le_of_eq s4.1.symm) fun q hq=>s4.2 q (by omega)
 obtain ⟨its,rs,dq,dr,g5,e5,hq,_,hok,hil,_,c5,s5⟩:=d2e S4.cd 3 (by omega)
 have e5:R b1i [.ptr o 0 0,.int .i64 3] g4=some (.tup [dq,dr],g5):=e5
 have S5:=S4.next c5 s5
 simp only [bs,e5,a0E,d6Z,d7a,a7Q]
 have p5:g5[h.length+1]?=some (.row a0g 3 [svr n dm .nils]):=by rw [s5.2 _ (by omega)];exact p4
 have oq:=a0H (a1x hq)
 refine b9q (kk:=0) (off:=0+2) (row:=svr n dm .nils) p5 (by rfl) (by rw [oq.1];rfl) (by exact Nat.le_refl _) oq.2 fun g6 p6 s6=>?_
 rw [oq.1] at p6
 have p6:g6[h.length+1]?=some (.row a0g 3 [svr n dm dq]):=p6
 have S6:=S5.app (g':=g6) (Nat.le_of_eq s6.1.symm) fun q hq=>s6.2 q (by omega)
 have ld6:a0b tab g6 a0g (.ptr (h.length+1) 0 0)=some (.agg (svr n dm dq)):=by rw [a3C,a0O p6];rfl
 have r6:g6[h.length]?=some (.row a0g 3 [svr 0 .nils .nils]):=by rw [s6.2 _ (by omega),s5.2 _ (by omega),s4.2 _ (by omega),k3 _ (by omega)];exact r2
 have okv:(D.agg (svr n dm dq)).okv=true:=by
  rcases hm with ⟨rfl,_⟩ | ⟨_,rfl⟩ <;> rcases hq with ⟨rfl,_⟩ | ⟨_,rfl⟩ <;> rfl
 simp only [bs,ld6]
 refine a4v (kk:=0) (off:=0) (row:=svr 0 .nils .nils) (v := .agg (svr n dm dq)) r6 (by rfl) (by rfl) (by exact Nat.le_refl _) okv fun g7 p7 s7=>?_
 have p7:g7[h.length]?=some (.row a0g 3 [svr n dm dq]):=p7
 have S7:=S6.app (g':=g7) (Nat.le_of_eq s7.1.symm) fun q hq=>s7.2 q (by omega)
 have ld7:a0b tab g7 a0g (.ptr h.length 0 0)=some (.agg (svr n dm dq)):=by rw [a3C,a0O p7];rfl
 simp only [bs,ld7,a0i]
 have fM:frz h.length g7 3 dm=dm:=a2F hm fun a _=>a6Q _ g7 2 a
 have fQ:frz h.length g7 3 dq=dq:=a2F hq fun a _=>a4V _ g7 1 a
 obtain ⟨h',e,c',s'⟩:=S7.scope (d := .agg (svr n dm dq)) (d' := .agg (svr n dm dq)) (by
  show D.agg [frz h.length g7 3 (.int .i64 n),frz h.length g7 3 dm,frz h.length g7 3 dq]=_
  rw [fM,fQ];rfl) (.agg _ fun d hd=>by
  simp [-bind_some, svr] at hd
  rcases hd with rfl | rfl | rfl
  ·exact .int _ _
  ·exact a1q hm fun a _=>a9c _ a
  ·exact a1q hq fun a _=>a6M _ a)
 rw [e]
 exact .some ⟨n,ms,its,dm,dq,rfl,hm,hq,n0,n1,ha,hok,hil,c',s'⟩
def a2U (ss:List SvD):List Int:=(ss.map a4h).flatten
theorem a6K (s:SvD) (t:List SvD):a2U (s::t)=a4h s++a2U t:=by simp [-bind_some, a2U]
theorem b3Y (ss:List SvD):∀ z∈a2U ss,U8 z:=b2u a4h ss fun s=>c2Q _ _ _
theorem c0n (s:SvD):12≤(a4h s).length:=by have:=(a6I s []).1;simp at this;omega
theorem c0o (ss:List SvD):ss.length≤(a2U ss).length:=by
 induction ss with
 | nil=>exact Nat.le_refl _
 | cons s t ih=>have:=c0n s;rw [a6K,d7b,d7o];omega
def d2v:Int→List SvD→List ((Int × List FM × List RI) × Int)
 | _,[]=>[]
 | a,s::t=>((s.1,s.2.1,s.2.2.map a1Y),a+(a4h s).length)::d2v (a+(a4h s).length) t
theorem b4V:∀ (ss:List SvD),(∀ s∈ss,OkS s)→∀ r,(a2d r).1≠0→∀ f a,ss.length<f→a8E f (a2U ss++r) a=d2v a ss
 | [],_,r,hr,0,a,hf=>by simp at hf
 | [],_,r,hr,f+1,a,hf=>by
  show a8E (f+1) r a=[]
  unfold a8E
  rw [if_neg hr]
 | s::t,h,r,hr,0,a,hf=>by simp at hf
 | s::t,h,r,hr,f+1,a,hf=>by
  have e:a2U (s::t)++r=a4h s++(a2U t++r):=by rw [a6K];simp [-bind_some]
  rw [e]
  unfold a8E
  rw [b9Z (h s (by simp)),if_pos rfl]
  simp only [d7g]
  rw [List.drop_left' rfl,b4V t (fun x hx=>h x (List.mem_cons_of_mem _ hx)) r hr f _ (by simp at hf;omega)]
  rfl
def a8b (ss:List SvD):SvD:=ss.getLast?.getD (0,[],[])
theorem b1M:∀ {ss:List SvD} {a:Int} {rs:List (List D × Int)},RecsOf rs (d2v a ss)→(ss=[]∧rs=[])∨(ss≠[]∧∃ dm dq its,rs.getLast?=some (svr (a8b ss).1 dm dq,a+(a2U ss).length)∧SlOf 2 mkr (a8b ss).2.1 dm∧SlOf 11 itr its dq∧its.map a1Y=(a8b ss).2.2.map a1Y)
 | [],a,rs,h=>by
  cases h
  exact .inl ⟨rfl,rfl⟩
 | s::t,a,rs,h=>by
  cases h with
  | cons h1 h2 =>
   rename_i r rs
   right
   refine ⟨by simp,?_⟩
   rcases b1M h2 with ⟨rfl,rfl⟩ | ⟨hne,dm,dq,its,q1,q2⟩
   ·obtain ⟨dm,dq,its,rfl,w⟩:=h1
    refine ⟨dm,dq,its,?_,w⟩
    simp [-bind_some, a8b,a2U]
   ·have hl:a8b (s::t)=a8b t:=by
      cases t with
      | nil=>exact absurd rfl hne
      | cons y u=>simp [-bind_some, a8b,List.getLast?_cons_cons]
    rw [hl]
    refine ⟨dm,dq,its,?_,q2⟩
    cases rs with
    | nil=>simp at q1
    | cons y u =>
     rw [List.getLast?_cons_cons,q1,a6K,d7b]
     have:a+(a4h s).length+(a2U t).length=a+((a4h s).length+(a2U t).length:Nat):=by omega
     rw [this]
theorem c0E {ss:List SvD} (hs:∀ s∈ss,OkS s) {r l:List Int} (hr:(a2d r).1≠0) (hl:l=a2U ss++r) (hu:∀ z∈r,U8 z) (hlen:l.length≤1000000000) {d:D} (hd:SlOf 1 byr l d) (h:Hp) :
  ∃ dm dq its,R1 a7d [d] h=some (.tup [.agg (svr (a8b ss).1 dm dq),.int .i64 ((a2U ss).length:Int)],h)∧SlOf 2 mkr (a8b ss).2.1 dm∧SlOf 11 itr its dq∧its.map a1Y=(a8b ss).2.2.map a1Y:=by
 have hul:∀ z∈l,U8 z:=fun z hz=>by
  rw [hl] at hz
  rcases d7t.1 hz with hz | hz
  ·exact b3Y ss z hz
  ·exact hu z hz
 obtain ⟨rs,e,hrs⟩:=a9R hd hlen hul
 have hg:=c0o ss
 rw [hl,b4V ss hs r hr _ 0 (by simp;omega)] at hrs
 rw [c8u,b6I,e]
 simp only [bs]
 rcases b1M hrs with ⟨rfl,rfl⟩ | ⟨hne,dm,dq,its,q1,q2⟩
 ·exact ⟨.nils,.nils,[],rfl,.nils _ _,.nils _ _,rfl⟩
 ·refine ⟨dm,dq,its,?_,q2⟩
  unfold b1w
  rw [q1]
  simp [-bind_some]
theorem a7i (n:Int) (h:Hp):a0b tab h ty3 (.fptr (rkr n))=some (.int .i64 n):=id rfl
theorem MkA.len:∀ {l:List FM} {n:Int},MkA n l→l=[]∨n+l.length≤4
 | [],n,h => .inl rfl
 | x::r,n,h=>by
  cases h with
  | cons h1 h2 h3 h4 h5 =>
   right
   rcases h5.len with rfl | h6
   ·simp [-bind_some];omega
   ·simp only [d7o];omega
theorem b1s {its:List It} (h:∀ i∈its,OkI i):(its.map a2M).flatten.length≤its.length*20008:=a5o a2M 20008 its fun i hi=>by
 have:=(h i hi).b
 rw [a3K];omega
theorem a9W {n:Int} {ms:List FM} {its:List It} (n0:0≤n) (n1:n<200) (hm:MkA 0 ms) (hi:∀ i∈its,OkI i) (hl:its.length≤3):OkS (n,ms,its)∧(a4h (n,ms,its)).length≤61000:=by
 have h4:ms.length≤4:=by
  rcases hm.len with rfl | h
  ·simp [-bind_some]
  ·omega
 have hil:=b1s hi
 have h9:(its.length*20008:Nat)≤3*20008:=Nat.mul_le_mul_right _ hl
 refine ⟨⟨by unfold I64;show _≤n∧n<_;omega,fun m hmm=>?_,hi,?_,?_⟩,?_⟩
 ·have:=hm.mem m hmm
  unfold I64;omega
 ·show stC n ms its.length=0
  unfold stC
  rw [if_neg (by omega),if_neg (by rw [hm.asc];simp [-bind_some]),if_neg (by rw [hm.neg (Int.le_refl 0)];simp [-bind_some]),if_neg (by omega)]
 ·show (a1A n ms its).length<_
  rw [a6a];omega
 ·show (b0y n ms its).length≤_
  rw [a5n];omega
theorem b0s {s:SvD} (hs:OkS s) (he:(a4h s).length≤700000000) {j:List Int} {dj dm dq:D} (h:Hp) (hj:SlOf 1 byr j dj) (hjl:j.length≤1000000000) (hm:SlOf 2 mkr s.2.1 dm) (hq:SlOf 11 itr s.2.2 dq):∃ d',R1 a6t [dj,.agg (svr s.1 dm dq)] h=some (.tup [d',.int .i64 0],h)∧SlOf 1 byr (j++a4h s) d':=by
 have hl:=hs.le
 have hT:(s.2.2.map a2M).flatten.length≤700000000:=by
  have:(a4h s).length=_:=a5n s.1 s.2.1 s.2.2
  omega
 obtain ⟨d',e,o⟩:=d2W j s.1 s.2.1 s.2.2 dj dm dq h hj hjl hm hq (by omega) hT (fun i hi=>by have:=(hs.q i hi).b;omega) (fun i _ g=>b8Q i g)
 rw [hs.e] at e o
 exact ⟨d',by rw [c3G];exact e,o⟩
theorem d2V (h:Hp):R1 b4q [] h=some (.bool true,h):=by
 have b1:a0K tab a0g [0] [.int .i64 1]=some (.agg (svr 1 .nils .nils)):=id rfl
 have b2:a0K tab a0M [0,1] [.int .i64 3,.int .i64 4]=some (.agg (mkr (3,4))):=id rfl
 have b3:a0W tab a0C 1 [0] [.agg (mkr (3,4))]=some (.sl 2 true [mkr (3,4)]):=id rfl
 have b4:a0K tab a0g [0,1] [.int .i64 2,.sl 2 true [mkr (3,4)]]=some (.agg (svr 2 (.sl 2 true [mkr (3,4)]) .nils)):=id rfl
 have hm2:SlOf 2 mkr [((3,4):FM)] (.sl 2 true [mkr (3,4)]) := .mk _ _ [((3,4):FM)] true
 have ok1:OkS (1,[],[]):=(a9W (n:=1) (ms:=[]) (its:=[]) (by omega) (by omega) (.nil _) (fun i hi=>by simp at hi) (by simp)).1
 have ok2:OkS (2,[(3,4)],[]):=(a9W (n:=2) (ms:=[(3,4)]) (its:=[]) (by omega) (by omega) (.cons (by decide) (by decide) (by decide) (by decide) (.nil _)) (fun i hi=>by simp at hi) (by simp)).1
 have l1:(a4h (1,[],[])).length=28:=by have:(a4h (1,[],[])).length=_:=a5n 1 [] [];simpa using this
 have l2:(a4h (2,[(3,4)],[])).length=44:=by have:(a4h (2,[(3,4)],[])).length=_:=a5n 2 [(3,4)] [];simpa using this
 obtain ⟨d1,e1,o1⟩:=b0s ok1 (by omega) h (SlOf.nils 1 byr) (by simp) (SlOf.nils 2 mkr) (SlOf.nils 11 itr)
 obtain ⟨d2,e2,o2⟩:=b0s ok2 (by omega) h o1 (by simp [-bind_some, l1]) hm2 (SlOf.nils 11 itr)
 have hall:∀ s∈[((1,[],[]):SvD),(2,[(3,4)],[])],OkS s:=fun s hs=>by
  simp only [d7s,List.not_mem_nil,or_false] at hs
  rcases hs with rfl | rfl
  ·exact ok1
  ·exact ok2
 have hlen:(a2U [((1,[],[]):SvD),(2,[(3,4)],[])]).length=72:=by simp [-bind_some, a2U,l1,l2]
 obtain ⟨dm,dq,its,e3,o3,_,_⟩:=c0E hall (r:=[]) (l:=[]++a4h (1,[],[])++a4h (2,[(3,4)],[])) (by rw [b3R];decide) (by simp [-bind_some, a2U]) (by simp) (by simp [-bind_some, l1,l2]) o2 h
 have hla:a8b [((1,[],[]):SvD),(2,[(3,4)],[])]=(2,[(3,4)],[]):=rfl
 rw [hla] at e3 o3
 have hdl:a0y tab a0J d2=some (.int .i64 72):=by
  rw [a1P o2];simp [-bind_some, l1,l2]
 have bx:a3o 3 (.agg (svr 2 dm dq))=some (.fptr (svr 2 dm dq)):=a1Q 3 _ rfl
 rw [hlen] at e3
 rw [d0r]
 simp only [c5I,b1,b2,b3,b4,e1,e2,e3,bs,a0E,d6Z,d7a,bx,a0S,decide_true,a0p,if_true,a0e,hdl]
 simp only [show ((72:Nat):Int)=72 from rfl,decide_true,a0p,if_true,a0e,bs,sv0,sv1,c4F,a3M,a0S,a3t o3,d7o,d7p,a0i]
 rfl
def RdX (g:Hp) (e z:Nat) {α:Type} (f:α→List D) (l:List α) (d:D):Prop:=SlOf z f l d∨∃ o,d = .msl z o 0 l.length∧g[o]?=some (.row e z (l.map f))
theorem b8C {g:Hp} {n0 e z:Nat} {α:Type} {f:α→List D} {l:List α} {d:D} (h:Own g n0 e z (l.map f) d):RdX g e z f l d:=by
 rcases h with ⟨rfl,hr⟩ | ⟨o,_,rfl,ho⟩
 ·have:l=[]:=by simpa using hr
  subst this
  exact .inl (.nils _ _)
 ·exact .inr ⟨o,by simp,ho⟩
theorem b2P {g:Hp} {ms:List FM} {d:D} (h:RdX g a0M 2 mkr ms d):a0y tab a0C d=some (.int .i64 ms.length):=by
 rcases h with h | ⟨o,rfl,_⟩
 ·exact a3t h
 ·exact c0A _ _ _ _
theorem a5t {g:Hp} {ms:List FM} {d:D} (h:RdX g a0M 2 mkr ms d) {i:Nat} {m:FM} (hi:ms[i]?=some m):∃ p p0 p1,a0d tab a0C d (.int .i64 i)=some p∧a0a tab a0M 0 p=some p0∧a0a tab a0M 1 p=some p1∧∀ g',(∀ q,q<g.length→g'[q]?=g[q]?)→a0b tab g' ty3 p0=some (.int .i64 m.1)∧a0b tab g' ty3 p1=some (.int .i64 m.2):=by
 have hlt:=(d7n.1 hi).1
 rcases h with h | ⟨o,rfl,ho⟩
 ·exact ⟨_,_,_,by rw [a6N h,if_pos (by omega),d7g,hi];rfl,b4K m,b1C m,fun g' _=>⟨b4L m g',b1D m.2 g'⟩⟩
 ·have hol:=(d7n.1 ho).1
  refine ⟨_,_,_,by rw [c3k,if_pos ⟨by omega,by omega⟩,d7g],b0S _ _ _,b0T _ _ _,fun g' hk=>?_⟩
  have ho':g'[o]?=some (.row a0M 2 (ms.map mkr)):=by rw [hk o hol];exact ho
  constructor
  ·rw [a7h,a0O ho',Nat.zero_add,d7k,hi];rfl
  ·rw [a7h,a0O ho',Nat.zero_add,d7k,hi];rfl
theorem b6a {g:Hp} {its:List It} {d:D} (h:RdX g a0P 11 itr its d):a0y tab a1v d=some (.int .i64 its.length):=by
 rcases h with h | ⟨o,rfl,_⟩
 ·exact a6O h
 ·exact c3t _ _ _ _
theorem b8B {g:Hp} {its:List It} {d:D} (h:RdX g a0P 11 itr its d) {i:Nat} {x:It} (hi:its[i]?=some x):∃ p,a0d tab a1v d (.int .i64 i)=some p∧∀ g',(∀ q,q<g.length→g'[q]?=g[q]?)→a0b tab g' a0P p=some (.agg (itr x)):=by
 have hlt:=(d7n.1 hi).1
 rcases h with h | ⟨o,rfl,ho⟩
 ·exact ⟨_,by rw [b4y h,if_pos (by omega),d7g,hi];rfl,fun g' _=>id rfl⟩
 ·have hol:=(d7n.1 ho).1
  refine ⟨_,by rw [c6Z,if_pos ⟨by omega,by omega⟩,d7g],fun g' hk=>?_⟩
  have ho':g'[o]?=some (.row a0P 11 (its.map itr)):=by rw [hk o hol];exact ho
  rw [b0h,a0O ho',Nat.zero_add,d7k,hi];rfl
theorem c3R {n0:Nat} {h0 h:Hp} {d0 d:D} {l:List Int} (B:Bw n0 h0 d0 h l d) (hn:n0≤h.length) (n:Int) (hr:l.length≤999999000) {β:Type} {f:D × Hp→Option β} {Q:β→Prop}
  (k:∀ d' h',Bw n0 h0 d0 h' (l++pI n) d'→n0≤h'.length→Wp (f (d',h')) Q):Wp ((R a2o [d,.int .u64 (IntKind.wrap .u64 n),.int .i64 8] h).bind f) Q:=by
 obtain ⟨d',h',e,B1⟩:=b1R (IntKind.wrap .u64 n) 8 (by omega) n0 h l d hn B.ow hr
 exact Wp.step e (k d' h' (B.trans B1) (Nat.le_trans hn B1.len))
theorem c3Q {n0:Nat} {h0 h:Hp} {d0 d:D} {l:List Int} (B:Bw n0 h0 d0 h l d) (hn:n0≤h.length) (n:Nat) (hr:l.length≤999999000) {β:Type} {f:D × Hp→Option β} {Q:β→Prop}
  (k:∀ d' h',Bw n0 h0 d0 h' (l++pN n) d'→n0≤h'.length→Wp (f (d',h')) Q):Wp ((R a2o [d,.int .u64 (IntKind.wrap .u64 (n:Int)),.int .i64 4] h).bind f) Q:=by
 obtain ⟨d',h',e,B1⟩:=b1R (IntKind.wrap .u64 (n:Int)) 4 (by omega) n0 h l d hn B.ow hr
 exact Wp.step e (k d' h' (B.trans B1) (Nat.le_trans hn B1.len))
theorem c8e (n:Int) (ms:List FM) (its:List It) (dm dq:D) (h:Hp) (hm:RdX h a0M 2 mkr ms dm) (hq:RdX h a0P 11 itr its dq) (hl:ms.length≤5000000000) (hT:(its.map a2M).flatten.length≤700000000) (hb:∀ i∈its,(a1t i).length≤800000000) (hck:∀ i∈its,∀ g,R a5C [.agg (itr i)] g=some (.int .i64 (itE i),g)) :
  ∃ d',R b1n [.agg (svr n dm dq)] h=some (.tup [d',.int .i64 (stE n ms its)],h)∧SlOf 1 byr (if stE n ms its=0 then a1A n ms its else []) d':=by
 suffices Wp (R b1n [.agg (svr n dm dq)] h) (fun p=>p.2=h∧∃ d',p.1 = .tup [d',.int .i64 (stE n ms its)]∧SlOf 1 byr (if stE n ms its=0 then a1A n ms its else []) d') by
  obtain ⟨⟨x,h'⟩,h1,rfl,d',rfl,h2⟩:=this
  exact ⟨d',h1,h2⟩
 have hlm:=b2P hm
 have hlq:=b6a hq
 have hil:=a6q a2M 8 its fun a _=>by rw [a3K];omega
 have kh:∀ q,q<h.length→h[q]?=h[q]?:=fun _ _=>rfl
 have nils:∀ (g:Hp) (e:Int),h.length≤g.length→(∀ q,q<h.length→g[q]?=h[q]?)→scope h g (.tup [.nils,.int .i64 e])=some (.tup [.nils,.int .i64 e],h):=fun g e hg hk =>
  a1a (by simp) (.tup _ fun d hd=>by simp at hd;rcases hd with rfl | rfl <;> constructor) hg hk
 -- an error
 have bad:∀ (e:Int),stE n ms its=e→e≠0→∃ d',(D.tup [.nils,.int .i64 e]:D) = .tup [d',.int .i64 (stE n ms its)]∧SlOf 1 byr (if stE n ms its=0 then a1A n ms its else []) d':=fun e he hne=>⟨.nils,by rw [he],by rw [he,if_neg hne];exact .nils _ _⟩
 have stc:∀ e,stC n ms its.length=e→e≠0→stE n ms its=e:=fun e he hne=>by unfold stE;rw [he,if_neg hne]
 rw [d0S]
 simp only [c6j,a1G,bs,sv0,c4F,a0k,d6W,a0Z]
 by_cases hn:n<0
 ·simp only [hn,decide_true,a0c,if_true,nils h _ (Nat.le_refl _) kh]
  exact .some ⟨rfl,bad 2 (stc 2 (by simp [-bind_some, stC,hn]) (by decide)) (by decide)⟩
 simp only [hn,decide_false,a0c,d6X,if_false]
 refine Wp.loop (fun j ds g=>g=h∧∃ a b,∃ i:Nat,ds=[.nils,.int .i64 0,.int .i64 (i+1:Nat),a,b]∧j+i=ms.length∧a6X (ms.drop i)=a6X ms) (fun r=>r.2.2=h∧((r.1 = .ext 0∧a6X ms=true∧nth 0 r.2.1 = .nils∧nth 1 r.2.1 = .int .i64 0)∨(r.1 = .ret∧a6X ms=false∧nth 0 r.2.1 = .nils∧nth 1 r.2.1 = .int .i64 19))) ms.length ⟨rfl,_,_,0,rfl,rfl,rfl⟩ ?_ ?_
 ·rintro j ds g ⟨rfl,a,b,i,rfl,hj,has⟩
  simp only [b3y,a0f,a0o,bs,d6W,sv1,a3M,hlm,a0k]
  refine Wp.dif ?_ ?_
  ·intro h0
   have h0:i+1<ms.length:=by
    have:((i+1:Nat):Int)<ms.length:=by simpa using h0
    omega
   have hx:ms[i]?=some ms[i]:=d7m (by omega)
   have hy:ms[i+1]?=some ms[i+1]:=d7m h0
   rw [List.drop_eq_getElem_cons (by omega),List.drop_eq_getElem_cons h0] at has
   have hd1:ms.drop (i+1)=ms[i+1]::ms.drop (i+1+1):=List.drop_eq_getElem_cons h0
   generalize ms[i]=x at *
   generalize ms[i+1]=y at *
   obtain ⟨p,p0,p1,ep,ep0,ep1,lp⟩:=a5t hm hx
   obtain ⟨r,r0,r1,er,er0,er1,lr⟩:=a5t hm hy
   have hw:IntKind.wrap .i64 (((i+1:Nat):Int)+1)=((i+1+1:Nat):Int):=by rw [wrap_i64 (by omega) (by omega)];omega
   have hw2:IntKind.wrap .i64 (((i+1:Nat):Int) - 1)=(i:Int):=by rw [wrap_i64 (by omega) (by omega)];omega
   simp only [a0z,hw2,ep,er,bs,ep0,er0,(lp g kh).1,(lr g kh).1,a3s]
   by_cases hxy:y.1≤x.1
   ·have:a6X ms=false:=by rw [← has];simp [-bind_some, a6X,show ¬ x.1<y.1 by omega]
    simp only [hxy,decide_true,a0c,if_true]
    exact .some (.inr ⟨by simp,rfl,.inr ⟨rfl,this,rfl,rfl⟩⟩)
   ·have:a6X (y::ms.drop (i+1+1))=a6X ms:=by rw [← has];simp [-bind_some, a6X,show x.1<y.1 by omega]
    simp only [hxy,decide_false,a0c,d6X,if_false,a0t,hw,bs]
    exact .some (.inl ⟨rfl,j - 1,by omega,rfl,_,_,i+1,rfl,by omega,by rw [hd1];exact this⟩)
  ·intro h0
   have h0:¬ i+1<ms.length:=by
    have:¬ ((i+1:Nat):Int)<ms.length:=by simpa using h0
    omega
   have:a6X ms=true:=by
    rw [← has]
    cases hdr:ms.drop i with
    | nil=>rfl
    | cons x r =>
     have:(ms.drop i).length=(x::r).length:=by rw [hdr]
     simp at this
     have hr:r=[]:=List.eq_nil_of_length_eq_zero (by omega)
     subst hr;rfl
   exact .some (.inr ⟨by simp,rfl,.inl ⟨rfl,this,rfl,rfl⟩⟩)
 rintro ⟨ex,ds,g⟩ ⟨rfl,hc⟩
 rcases hc with ⟨rfl,has,z0,z1⟩ | ⟨rfl,has,z0,z1⟩
 case inr =>
  simp only [a1K,a1J,a1E,a0f,a0o,z0,z1,bs,nils g _ (Nat.le_refl _) kh]
  exact .some ⟨rfl,bad 19 (stc 19 (by simp [-bind_some, stC,hn,has]) (by decide)) (by decide)⟩
 simp only at z0 z1
 simp only [a0s,a0r,bs,a0f,a0o,z0,z1,d6W]
 refine Wp.loop (fun j ds g'=>g'=g∧∃ b c,∃ i:Nat,ds=[.nils,.int .i64 0,.int .i64 i,b,c]∧j+i=ms.length∧a6x (ms.drop i)=a6x ms) (fun r=>r.2.2=g∧((r.1 = .ext 2∧a6x ms=false∧nth 0 r.2.1 = .nils∧nth 1 r.2.1 = .int .i64 0)∨(r.1 = .ret∧a6x ms=true∧nth 0 r.2.1 = .nils∧nth 1 r.2.1 = .int .i64 2))) ms.length ⟨rfl,_,_,0,rfl,rfl,rfl⟩ ?_ ?_
 ·rintro j ds g' ⟨rfl,b,c,i,rfl,hj,hne⟩
  simp only [b3z,a0f,a0o,bs,d6W,sv1,a3M,hlm,a0k]
  refine Wp.dif ?_ ?_
  ·intro h0
   have h0:i<ms.length:=dl_ h0
   have hx:ms[i]?=some ms[i]:=d7m h0
   rw [List.drop_eq_getElem_cons h0] at hne
   generalize ms[i]=x at *
   obtain ⟨p,p0,p1,ep,ep0,ep1,lp⟩:=a5t hm hx
   have hw:=wi_ i (by omega)
   simp only [ep,bs,ep0,(lp g' kh).1,a0k]
   by_cases h1:x.1<0
   ·have:a6x ms=true:=by rw [← hne];simp [-bind_some, a6x,h1]
    simp only [h1,decide_true,a0p,reduceCtorEq,d6Y,if_false,bs,a0e,if_true,a0c]
    exact .some (.inr ⟨by simp,rfl,.inr ⟨rfl,this,rfl,rfl⟩⟩)
   ·by_cases h2:x.2<0
    ·have:a6x ms=true:=by rw [← hne];simp [-bind_some, a6x,h2]
     simp only [h1,h2,ep,ep1,(lp g' kh).2,decide_true,decide_false,a0p,reduceCtorEq,d6X,if_false,bs,a0e,if_true,a0c,a0k,sv1,a3M]
     exact .some (.inr ⟨by simp,rfl,.inr ⟨rfl,this,rfl,rfl⟩⟩)
    ·have:a6x (ms.drop (i+1))=a6x ms:=by rw [← hne];simp [-bind_some, a6x,h1,h2]
     simp only [h1,h2,ep,ep1,(lp g' kh).2,decide_true,decide_false,a0p,reduceCtorEq,d6X,if_false,bs,a0e,if_true,a0c,a0k,a0t,hw,sv1,a3M]
     exact .some (.inl ⟨rfl,j - 1,by omega,rfl,_,_,i+1,rfl,by omega,this⟩)
  ·intro h0
   have h0:¬ i<ms.length:=by
    have:¬ (i:Int)<ms.length:=by simpa using h0
    omega
   have:a6x ms=false:=by rw [← hne,List.drop_of_length_le (by omega)];rfl
   exact .some (.inr ⟨by simp,rfl,.inl ⟨rfl,this,rfl,rfl⟩⟩)
 rintro ⟨ex,ds,g'⟩ ⟨rfl,hc⟩
 rcases hc with ⟨rfl,hne,z0,z1⟩ | ⟨rfl,hne,z0,z1⟩
 case inr =>
  simp only [a1K,a1J,a1E,a0f,a0o,z0,z1,bs,nils g' _ (Nat.le_refl _) kh]
  exact .some ⟨rfl,bad 2 (stc 2 (by simp [-bind_some, stC,hn,has,hne]) (by decide)) (by decide)⟩
 simp only at z0 z1
 simp only [a0s,a0r,bs,a0f,a0o,z0,z1,hlm,sv1,a3M,a0u,d6W]
 have big:(1000<ms.length∨1000<its.length)→Wp (scope g' g' (.tup [.nils,.int .i64 4])) (fun p=>p.2=g'∧∃ d',p.1 = .tup [d',.int .i64 (stE n ms its)]∧SlOf 1 byr (if stE n ms its=0 then a1A n ms its else []) d'):=fun hb=>by
  rw [nils g' _ (Nat.le_refl _) kh]
  exact .some ⟨rfl,bad 4 (stc 4 (by simp [-bind_some, stC,hn,has,hne,hb]) (by decide)) (by decide)⟩
 by_cases hm1:1000<ms.length
 ·have h1':(1000:Int)<ms.length:=by omega
  simp only [h1',decide_true,a0p,reduceCtorEq,d6Y,if_false,bs,a0e,if_true,a0c]
  exact big (.inl hm1)
 have h1':¬ (1000:Int)<ms.length:=by omega
 simp only [h1',decide_false,a0p,d6X,reduceCtorEq,if_false,if_true,bs,a0e,sv2,b5C,hlq,a0u]
 by_cases hq1:1000<its.length
 ·have h2':decide ((its.length:Int)>1000)=true:=decide_eq_true (by omega)
  simp only [h2',a0c,if_true]
  exact big (.inr hq1)
 have h2':decide ((its.length:Int)>1000)=false:=decide_eq_false (by omega)
 have hc:stC n ms its.length=0:=by simp [-bind_some, stC,hn,has,hne,hm1,hq1]
 have hE:stE n ms its=a7x its:=by unfold stE;rw [if_pos hc]
 have B0:Bw g'.length g' .nils g' [] .nils := .refl (.nils _ _ _ _)
 have hlm64:∀ k:Nat,a1B tab ty3 a0U (.int .i64 (k:Int))=some (.int .u64 (IntKind.wrap .u64 (k:Int))):=fun k=>a2a _ _
 simp only [h2',a0c,d6X,if_false,sv0,sv1,c4F,bs,a2a,a3M,hlm,d6W]
 refine c3R B0 (Nat.le_refl _) n (by simp) fun d1 g1 B1 n1=>?_
 simp only [bs]
 refine c3Q B1 n1 ms.length (by simp [-bind_some, a1m]) fun d2 g2 B2 n2=>?_
 rw [List.nil_append] at B2
 simp only [bs,d6W]
 generalize hA:pI n++pN ms.length=A at B2
 have hAl:A.length=12:=by rw [← hA];simp [-bind_some, a1m,a1H]
 have low:∀ {g:Hp} {l:List Int} {d:D},Bw g'.length g' .nils g l d→∀ q,q<g'.length→g[q]?=g'[q]?:=fun B q hq=>B.old q hq (a6y q)
 refine Wp.loop (fun k ds g=>g'.length≤g.length∧∃ d' b,∃ i:Nat,ds=[d',.int .i64 i,b]∧k+i=ms.length∧Bw g'.length g' .nils g (A++((ms.take i).map mkB).flatten) d')
  (fun r=>r.1 = .ext 4∧g'.length≤r.2.2.length∧∃ d' b c,r.2.1=[d',b,c]∧Bw g'.length g' .nils r.2.2 (A++(ms.map mkB).flatten) d') ms.length ⟨n2,_,_,0,rfl,rfl,by simpa using B2⟩ ?_ ?_
 ·rintro k ds g ⟨hg,d',b,i,rfl,hk,B⟩
  simp only [b3A,a0f,a0o,bs,d6W,sv1,a3M,hlm,a0k]
  refine Wp.dif ?_ ?_
  ·intro h0
   have h0:i<ms.length:=dl_ h0
   obtain ⟨x,hx⟩:=gx_ h0
   obtain ⟨p,p0,p1,ep,ep0,ep1,lp⟩:=a5t hm hx
   have hw:=wi_ i (by omega)
   have hml:=a4Y (ms.take i)
   have hml2:(ms.take i).length≤1000:=by simp;omega
   simp only [ep,bs,ep0,ep1,(lp g (low B)).1,(lp g (low B)).2,a2a]
   refine c3R B hg _ (by rw [d7b,hml];omega) fun d4 g4 B4 n4=>?_
   simp only [bs,(lp g4 (low B4)).2,a2a]
   refine c3R B4 n4 _ (by simp only [d7b,hml,a1m];omega) fun d5 g5 B5 n5=>?_
   simp only [a1D,bs,a0t,hw]
   refine .some (.inl ⟨rfl,k - 1,by omega,n5,_,_,i+1,rfl,by omega,?_⟩)
   rw [a1u mkB hx]
   simpa [-bind_some, mkB] using B5
  ·intro h0
   have h0:i=ms.length:=by
    have:¬ (i:Int)<ms.length:=by simpa using h0
    omega
   subst h0
   rw [d7v] at B
   exact .some (.inr ⟨by simp,rfl,hg,_,_,_,rfl,B⟩)
 rintro ⟨ex,ds,g4⟩ ⟨rfl,n4,d4,b,c,rfl,B4⟩
 simp only at n4 B4
 have hml:=a4Y ms
 simp only [a0s,a0r,bs,a0f,a0o,sv2,b5C,hlq,a2a,d6W]
 refine c3Q B4 n4 its.length (by rw [d7b,hml];omega) fun d5 g5 B5 n5=>?_
 simp only [bs,d6W]
 generalize hA2:A++(ms.map mkB).flatten++pN its.length=A2 at B5
 have hA2l:A2.length≤16016:=by rw [← hA2];simp only [d7b,hml,a1H];omega
 refine Wp.loop (fun k ds g=>g'.length≤g.length∧∃ d' a4 a5 a6 a7,∃ i:Nat,ds=[.nils,.int .i64 0,d',.int .i64 i,a4,a5,a6,a7]∧k+i=its.length∧a7x (its.take i)=0∧Bw g'.length g' .nils g (A2++((its.take i).map a2M).flatten) d')
  (fun r=>g'.length≤r.2.2.length∧(∀ q,q<g'.length→r.2.2[q]?=g'[q]?)∧((r.1 = .ext 6∧a7x its=0∧∃ d',nth 2 r.2.1=d'∧Bw g'.length g' .nils r.2.2 (A2++(its.map a2M).flatten) d')∨(r.1 = .ret∧a7x its≠0∧nth 0 r.2.1 = .nils∧nth 1 r.2.1 = .int .i64 (a7x its)))) its.length ⟨n5,_,_,_,_,_,0,rfl,rfl,rfl,by simpa using B5⟩ ?_ ?_
 ·rintro k ds g ⟨hg,d',a4,a5,a6,a7,i,rfl,hk,hz,B⟩
  simp only [b3B,a0f,a0o,bs,d6W,sv2,b5C,hlq,a0k]
  refine Wp.dif ?_ ?_
  ·intro h0
   have h0:i<its.length:=dl_ h0
   obtain ⟨x,hx⟩:=gx_ h0
   have hxm:=d7l hx
   obtain ⟨p,ep,lp⟩:=b8B hq hx
   have hw:=wi_ i (by omega)
   obtain ⟨e1,e2⟩:=a7Y its i x hz hx
   obtain ⟨de,ee,he⟩:=d2L x (itE x) g (hck x hxm) (by have:=hb x hxm;omega)
   simp only [ep,bs,lp g (low B),ee,a0E,d6Z,d7a,a0w]
   by_cases hxe:itE x=0
   ·have hdd:decide (itE x≠0)=false:=decide_eq_false (by rw [hxe];simp [-bind_some])
    rw [if_pos hxe] at he
    have hle:=a5L a2M its (i+1)
    rw [a1u a2M hx,d7b] at hle
    simp only [hdd,a0c,d6X,if_false]
    refine b3C B hg (a4q (.inl he)) (by simp only [d7b];omega) fun d6 g6 B6 n6=>?_
    simp only [bs,a0t,hw]
    refine .some (.inl ⟨rfl,k - 1,by omega,n6,_,_,_,_,_,i+1,rfl,by omega,e2 hxe,?_⟩)
    rw [a1u a2M hx]
    simpa using B6
   ·have hdd:decide (itE x≠0)=true:=decide_eq_true hxe
    simp only [hdd,a0c,if_true]
    exact .some (.inr ⟨by simp,hg,low B,.inr ⟨rfl,by rw [e1 hxe];exact hxe,rfl,by rw [e1 hxe];rfl⟩⟩)
  ·intro h0
   have h0:i=its.length:=by
    have:¬ (i:Int)<its.length:=by simpa using h0
    omega
   subst h0
   rw [d7v] at B hz
   exact .some (.inr ⟨by simp,hg,low B,.inl ⟨rfl,hz,_,rfl,B⟩⟩)
 rintro ⟨ex,ds,g⟩ ⟨hg,hk,hcs⟩
 simp only at hg hk
 rcases hcs with ⟨rfl,hz,d',hd',B⟩ | ⟨rfl,hz,hn0,hn1⟩
 case inr =>
  simp only [a1K,a1J,a1E,a0f,a0o,hn0,hn1,bs,nils g _ hg hk]
  exact .some ⟨rfl,bad _ hE hz⟩
 simp only at B hd'
 rw [hE,hz,if_pos rfl]
 have hbody:A2++(its.map a2M).flatten=a1A n ms its:=by rw [← hA2,← hA];simp [-bind_some, a1A]
 rw [hbody] at B
 simp only [a0s,a0r,bs,a0f,a0o,hd']
 have hso:=a2w (n0:=g'.length) (n:=2) B.ow (Nat.le_refl _) (fun a _=>a4i _ g 2 a)
 rw [a1a (d' := .tup [frz g'.length g 3 d',.int .i64 0]) (by simp) (by
  refine .tup _ fun d hd=>?_
  simp at hd
  rcases hd with rfl | rfl
  ·exact a1q hso fun a _=>a6b _ a
  ·constructor) hg hk]
 exact .some ⟨rfl,_,rfl,hso⟩
theorem b9Y {l:List Int} (h:(a3W l).1=0) {j:It} (hj:a1Y j=(a3W l).2.2):itE j=0:=by
 unfold a3W a5K at h hj
 by_cases h1:l.length<4
 ·rw [if_pos h1] at h;cases h
 by_cases h2:num (l.take 4)<4∨(l.length:Int) - 4<num (l.take 4)
 ·rw [if_neg h1,if_pos h2] at h;cases h
 by_cases h3:a2z (l.take (num (l.take 4)).toNat)≠num ((l.drop (num (l.take 4)).toNat).take 4)
 ·rw [if_neg h1,if_neg h2,if_pos h3] at h;cases h
 by_cases h4:(a6C ((l.take (num (l.take 4)).toNat).drop 4,false)).2=true∨0<(a6C ((l.take (num (l.take 4)).toNat).drop 4,false)).1.length∨ckR (a1V ((l.take (num (l.take 4)).toNat).drop 4,false))≠0
 ·rw [if_neg h1,if_neg h2,if_neg h3,if_pos h4] at h;cases h
 rw [if_neg h1,if_neg h2,if_neg h3,if_neg h4] at hj
 have hj:a1Y j=a1V ((l.take (num (l.take 4)).toNat).drop 4,false):=hj
 rw [← b0I,hj]
 exact Classical.byContradiction fun hh=>h4 (.inr (.inr hh))
theorem b3Z {α:Type} (f:α→List Int):∀ (l:List α) (a:α),a∈l→(f a).length≤(l.map f).flatten.length
 | x::r,a,h=>by
  rw [d7e,List.flatten_cons,d7b]
  rcases d7s.1 h with rfl | h
  ·omega
  ·have:=b3Z f r a h;omega
structure DcI (n:Nat) (i:It):Prop where
 e:itE i=0
 l:(a2M i).length≤n
theorem DcI.nm {n:Nat} {i:It} (h:DcI n i) (hn:n≤1000000000):NmB i.e:=fun p hp=>by
 have h1:=h.l
 have h2:=b3Z fdB i.e.fs p hp
 rw [a3K] at h1
 simp only [a1t,a4L,a3x,d7b] at h1
 simp only [fdB,d7b,a1M] at h2
 omega
theorem DcI.ck {n:Nat} {i:It} (h:DcI n i) (hn:n≤1000000000) (g:Hp):R a5C [.agg (itr i)] g=some (.int .i64 (itE i),g):=b8P i g (h.nm hn)
theorem b7I {n:Nat}:∀ {its:List It},(∀ i∈its,DcI n i)→a7x its=0
 | [],_=>rfl
 | i::t,h=>by
  unfold a7x
  rw [if_pos (h i (by simp)).e]
  exact b7I fun x hx=>h x (List.mem_cons_of_mem _ hx)
structure DrP (B:List Int) (d:D) (h g:Hp) (row:List D) (s:Cur):Prop where
 r0:g[h.length]?=some (.row a0g 3 [svr 0 .nils .nils])
 st:g[h.length+1]?=some (.row a0g 3 [row])
 rd:RdC B d g (h.length+2) s
 lo:∀ q,q<h.length→g[q]?=h[q]?
theorem DrP.ln {B:List Int} {d:D} {h g:Hp} {row:List D} {s:Cur} (P:DrP B d h g row s):h.length+3≤g.length:=by have:=P.rd.lt;omega
theorem DrP.cur {B:List Int} {d:D} {h g g':Hp} {row:List D} {s s':Cur} (P:DrP B d h g row s) (hc:RdC B d g' (h.length+2) s') (hs:Same (h.length+2) g g'):DrP B d h g' row s' :=
 ⟨by rw [hs.2 _ (by omega)];exact P.r0,by rw [hs.2 _ (by omega)];exact P.st,hc,fun q hq=>by rw [hs.2 q (by omega)];exact P.lo q hq⟩
theorem DrP.keep {B:List Int} {d:D} {h g g':Hp} {row:List D} {s:Cur} (P:DrP B d h g row s) (hk:∀ q,q<h.length+3→g'[q]?=g[q]?):DrP B d h g' row s :=
 ⟨by rw [hk _ (by omega)];exact P.r0,by rw [hk _ (by omega)];exact P.st,P.rd.keep (hk _ (by omega)),fun q hq=>by rw [hk q (by omega)];exact P.lo q hq⟩
theorem DrP.sta {B:List Int} {d:D} {h g g':Hp} {row row':List D} {s:Cur} (P:DrP B d h g row s) (hp:g'[h.length+1]?=some (.row a0g 3 [row'])) (hs:Same (h.length+1) g g'):DrP B d h g' row' s :=
 ⟨by rw [hs.2 _ (by omega)];exact P.r0,hp,P.rd.keep (hs.2 _ (by omega)),fun q hq=>by rw [hs.2 q (by omega)];exact P.lo q hq⟩
theorem c1L {l:List Int} (hu:∀ z∈l,U8 z) (hl:l.length≤4):∃ n:Nat,num l=n∧n<4294967296:=by
 obtain ⟨k,hk⟩:∃ k,l.length=k:=⟨_,rfl⟩
 obtain ⟨a,b⟩:=a2k k _ hk hu
 have:k=0∨k=1∨k=2∨k=3∨k=4:=by omega
 exact ⟨(num l).toNat,by omega,by rcases this with rfl | rfl | rfl | rfl | rfl <;> omega⟩
theorem c3O {B:List Int} {d:D} (hd:SlOf 1 byr B d) (hB:B.length≤1000000000) (hu:∀ z∈B,U8 z) {h:Hp} {a:Int} {N:Nat} (hN:N<4294967296) {s0:Cur} {p4 p5:D × Hp} (hp4:p4.1 = .ptr (h.length+1) 0 0) (hp5:p5.1 = .ptr (h.length+2) 0 0) {g:Hp} (P:DrP B d h g (svr a .nils .nils) s0) (x y:D) {β:Type} {K:Out→Option β} {Q:β→Prop}
  (k:∀ g' dm b c e,DrP B d h g' (svr a dm .nils) (a3q N s0).2→Own g' (h.length+3) a0M 2 ((a3q N s0).1.map mkr) dm→Wp (K (.ext 0,[b,c,e],g')) Q) :
  Wp ((a0N (a9I p4 p5 (.int .u64 N)) [.int .u64 0,x,y] g).bind K) Q:=by
 refine Wp.loop (fun r ds g=>∃ y z dm,∃ s:Cur,∃ L:List FM,∃ i:Nat,ds=[.int .u64 i,y,z]∧r+i=N∧L.length=i∧DrP B d h g (svr a dm .nils) s∧Own g (h.length+3) a0M 2 (L.map mkr) dm∧L++(a3q r s).1=(a3q N s0).1∧(a3q r s).2=(a3q N s0).2)
  (fun r=>r.1 = .ext 0∧∃ b c e dm,r.2.1=[b,c,e]∧DrP B d h r.2.2 (svr a dm .nils) (a3q N s0).2∧Own r.2.2 (h.length+3) a0M 2 ((a3q N s0).1.map mkr) dm) N ⟨_,_,.nils,s0,[],0,rfl,rfl,rfl,P,.nils _ _ _ _,rfl,rfl⟩ ?_ ?_
 ·rintro r ds g ⟨y,z,dm,s,L,i,rfl,hr,hL,P,ow,q1,q2⟩
  have stop:(s.2=true∨r=0)→a3q r s=([],s):=by
   rintro (h0 | h0)
   ·exact b4N r s h0
   ·rw [h0];rfl
  have fin:(s.2=true∨r=0)→∀ b c e:D,Wp (some ((Ex.ext 0,[b,c,e],g):Out)) (fun x:Out=>(x.1 = .nrm∧∃ r'<r,∃ y z dm,∃ s:Cur,∃ L:List FM,∃ i:Nat,x.2.1=[.int .u64 i,y,z]∧r'+i=N∧L.length=i∧DrP B d h x.2.2 (svr a dm .nils) s∧Own x.2.2 (h.length+3) a0M 2 (L.map mkr) dm∧L++(a3q r' s).1=(a3q N s0).1∧(a3q r' s).2=(a3q N s0).2)∨(x.1 ≠ .nrm∧x.1 = .ext 0∧∃ b c e dm,x.2.1=[b,c,e]∧DrP B d h x.2.2 (svr a dm .nils) (a3q N s0).2∧Own x.2.2 (h.length+3) a0M 2 ((a3q N s0).1.map mkr) dm)):=by
   intro h0 b c e
   rw [stop h0] at q1 q2
   simp only [List.append_nil] at q1 q2
   exact .some (.inr ⟨by simp,rfl,b,c,e,dm,rfl,by rw [← q2];exact P,by rw [← q1];exact ow⟩)
  have hok:=P.rd.ok
  simp only [a9I,a0f,a0o,bs,d6W,hp4,hp5,a2S,hok,a0p,a0k]
  cases hb:s.2 with
  | true =>
   simp only [d7h,d6X,reduceCtorEq,if_false,bs,a0e,a0c]
   exact fin (.inl hb) _ _ _
  | false =>
   simp only [d7i,if_true,bs,a0k,a0e]
   by_cases hr0:r=0
   ·subst hr0
    have hlt:decide ((i:Int)<(N:Int))=false:=decide_eq_false (by omega)
    simp only [hlt,a0c,d6X,if_false]
    exact fin (.inr rfl) _ _ _
   have hlt:decide ((i:Int)<(N:Int))=true:=decide_eq_true (by omega)
   obtain ⟨r',rfl⟩:∃ r',r=r'+1:=⟨r - 1,by omega⟩
   have hS:a3q (r'+1) s=(((a0Q s).1,(a0Q (a0Q s).2).1)::(a3q r' (a0Q (a0Q s).2).2).1,(a3q r' (a0Q (a0Q s).2).2).2):=by simp [-bind_some, a3q,hb]
   rw [hS] at q1 q2
   have hg:=P.ln
   have m0:(a0I g a0M 2 [[.int .i64 0,.int .i64 0]])[g.length]?=some (.row a0M 2 [mkr (0,0)]):=a1h _ _ _ _
   have k0:∀ q,q<g.length→(a0I g a0M 2 [[.int .i64 0,.int .i64 0]])[q]?=g[q]?:=fun q hq=>a0Y _ _ _ _ hq
   simp only [hlt,a0c,if_true,bs]
   generalize a0I g a0M 2 [[.int .i64 0,.int .i64 0]]=g0 at *
   have P0:=P.keep (g':=g0) fun q hq=>k0 q (by omega)
   have ow0:=ow.keep (h':=g0) fun q hq hin=>k0 q (ow.lt hin).2
   refine rdI hd hB hu P0.rd fun g1 c1 s1=>?_
   have P1:=P0.cur c1 s1
   have ow1:=ow0.same s1 (by omega)
   have m1:g1[g.length]?=some (.row a0M 2 [mkr (0,0)]):=by rw [s1.2 _ (by omega)];exact m0
   try simp only [bs,b0S]
   refine b5k (kk:=0) (off:=0+0) (row:=mkr (0,0)) (v := .int .i64 (a0Q s).1) m1 (by rfl) (by rfl) (by simp [-bind_some, mkr]) (by rfl) fun g2 p2 s2=>?_
   have m2:g2[g.length]?=some (.row a0M 2 [mkr ((a0Q s).1,0)]):=p2
   have P2:=P1.keep (g':=g2) fun q hq=>s2.2 q (by omega)
   have ow2:=ow1.keep (h':=g2) fun q hq hin=>s2.2 q (by have:=(ow.lt hin).2;omega)
   try simp only [bs]
   refine rdI hd hB hu P2.rd fun g3 c3 s3=>?_
   have P3:=P2.cur c3 s3
   have ow3:=ow2.same s3 (by omega)
   have m3:g3[g.length]?=some (.row a0M 2 [mkr ((a0Q s).1,0)]):=by rw [s3.2 _ (by omega)];exact m2
   try simp only [bs,b0T]
   refine b5k (kk:=0) (off:=0+1) (row:=mkr ((a0Q s).1,0)) (v := .int .i64 (a0Q (a0Q s).2).1) m3 (by rfl) (by rfl) (by simp [-bind_some, mkr]) (by rfl) fun g4 p4' s4=>?_
   have m4:g4[g.length]?=some (.row a0M 2 [mkr ((a0Q s).1,(a0Q (a0Q s).2).1)]):=p4'
   have P4:=P3.keep (g':=g4) fun q hq=>s4.2 q (by omega)
   have ow4:=ow3.keep (h':=g4) fun q hq hin=>s4.2 q (by have:=(ow.lt hin).2;omega)
   have ldm:a0b tab g4 a0C (.ptr (h.length+1) 0 (0+1))=some dm:=by rw [b7N,a0O P4.st];rfl
   have ld4:a0b tab g4 a0M (.ptr g.length 0 0)=some (.agg (mkr ((a0Q s).1,(a0Q (a0Q s).2).1))):=by rw [c3r,a0O m4];rfl
   have hlit:a0W tab a0C 1 [0] [.agg (mkr ((a0Q s).1,(a0Q (a0Q s).2).1))]=some (.sl 2 true [mkr ((a0Q s).1,(a0Q (a0Q s).2).1)]):=id rfl
   have hw:IntKind.wrap .u64 ((i:Int)+1)=((i+1:Nat):Int):=by rw [a1s (by omega) (by omega)];omega
   simp only [bs,b0U,ldm,ld4,hlit]
   refine b2W (n0:=h.length+3) P4.ln ow4 (a1l _ _ _ _) (by simp;omega) fun dm' g5 ow5 l5 k5 _ _=>?_
   have P5:=P4.keep k5
   simp only [bs]
   refine b9o (kk:=0) (row:=svr a dm .nils) P5.st (by rfl) (by rw [(a0H (a2l ow5)).1];rfl) (by simp [-bind_some, svr]) (a0H (a2l ow5)).2 fun g6 p6 s6=>?_
   rw [(a0H (a2l ow5)).1] at p6
   have P6:DrP B d h g6 (svr a dm' .nils) _:=P5.sta p6 s6
   simp only [bs,a0t,hw]
   refine .some (.inl ⟨rfl,r',by omega,_,_,dm',(a0Q (a0Q s).2).2,L++[((a0Q s).1,(a0Q (a0Q s).2).1)],i+1,rfl,by omega,by simp [-bind_some, hL],P6,?_,by simpa using q1,q2⟩)
   rw [d7d]
   exact ow5.same s6 (by omega)
 ·rintro ⟨ex,ds,g⟩ ⟨rfl,b,c,e,dm,rfl,P,ow⟩
  exact k g dm b c e P ow
theorem c7H {h g:Hp} {a:Int} {ms:List FM} {rows:List It} {dm dq:D} {ok:Bool} (owm:Own g (h.length+3) a0M 2 (ms.map mkr) dm) (owq:Own g (h.length+3) a0P 11 (rows.map itr) dq) (hl:h.length≤g.length) (lo:∀ q,q<h.length→g[q]?=h[q]?) :
  ∃ dm' dq',scope h g (.tup [.agg (svr a dm dq),.bool ok])=some (.tup [.agg (svr a dm' dq'),.bool ok],h)∧SlOf 2 mkr ms dm'∧SlOf 11 itr rows dq':=by
 have fM:=a2w (n0:=h.length) (n:=1) owm (by omega) (fun a _=>a6Q _ g 1 a)
 have fQ:=a2w (n0:=h.length) (n:=1) owq (by omega) (fun a _=>a4V _ g 0 a)
 refine ⟨_,_,a1a (d' := .tup [.agg (svr a (frz h.length g 2 dm) (frz h.length g 2 dq)),.bool ok]) rfl (by
   refine .tup _ fun d hd=>?_
   simp at hd
   rcases hd with rfl | rfl
   ·refine .agg _ fun d hd=>?_
    simp [-bind_some, svr] at hd
    rcases hd with rfl | rfl | rfl
    ·constructor
    ·exact a1q fM fun a _=>a9c _ a
    ·exact a1q fQ fun a _=>a6M _ a
   ·constructor) hl lo,fM,fQ⟩
theorem b8Z {g:Hp} {n0:Nat} {a:Int} {r1 r2:List (List D)} {dm dq:D} (owm:Own g n0 a0M 2 r1 dm) (owq:Own g n0 a0P 11 r2 dq):(D.agg (svr a dm dq)).okv=true:=by
 rcases owm with ⟨rfl,_⟩ | ⟨_,_,rfl,_⟩ <;> rcases owq with ⟨rfl,_⟩ | ⟨_,_,rfl,_⟩ <;> rfl
theorem c3P {B:List Int} {d:D} (hd:SlOf 1 byr B d) (hB:B.length≤1000000000) (hu:∀ z∈B,U8 z) {h:Hp} {a:Int} {N:Nat} (hN:N<4294967296) {s0:Cur} (hs0:s0.1.length≤B.length) {p2 p4 p5:D × Hp} (hp2:p2.1 = .ptr h.length 0 0) (hp4:p4.1 = .ptr (h.length+1) 0 0) (hp5:p5.1 = .ptr (h.length+2) 0 0) {ms:List FM} {dm:D} {g:Hp} (P:DrP B d h g (svr a dm .nils) s0) (owm:Own g (h.length+3) a0M 2 (ms.map mkr) dm) (x1 x2 x3 x4 x5:D) {β:Type} {K:Out→Option β} {Q:β→Prop}
  (k:∀ g' dq (its:List It) ds,DrP B d h g' (svr a dm dq) (qsS N s0).2→Own g' (h.length+3) a0M 2 (ms.map mkr) dm→Own g' (h.length+3) a0P 11 (its.map itr) dq→its.map a1Y=(qsS N s0).1→(∀ i∈its,DcI B.length i)→(its.map a2M).flatten.length≤B.length→Wp (K (.ext 2,ds,g')) Q)
  (k2:∀ g' dq (its:List It) ds,(qsS N s0).2.2=true→g'[h.length]?=some (.row a0g 3 [svr a dm dq])→(∀ q,q<h.length→g'[q]?=h[q]?)→Own g' (h.length+3) a0M 2 (ms.map mkr) dm→Own g' (h.length+3) a0P 11 (its.map itr) dq→Wp (K (.ret,.bool false::ds,g')) Q) :
  Wp ((a0N (a9J d p2 p4 p5 (.int .u64 N)) [.bool false,.int .u64 0,x1,x2,x3,x4,x5] g).bind K) Q:=by
 refine Wp.loop (fun r ds g=>∃ y1 y2 y3 y4 y5 dq,∃ s:Cur,∃ L:List It,∃ i:Nat,ds=[.bool false,.int .u64 i,y1,y2,y3,y4,y5]∧r+i=N∧L.length=i∧DrP B d h g (svr a dm dq) s∧Own g (h.length+3) a0M 2 (ms.map mkr) dm∧Own g (h.length+3) a0P 11 (L.map itr) dq∧L.map a1Y++(qsS r s).1=(qsS N s0).1∧(qsS r s).2=(qsS N s0).2∧(∀ i∈L,DcI B.length i)∧(L.map a2M).flatten.length+s.1.length≤B.length)
  (fun r=>(r.1 = .ext 2∧∃ dq,∃ L:List It,DrP B d h r.2.2 (svr a dm dq) (qsS N s0).2∧Own r.2.2 (h.length+3) a0M 2 (ms.map mkr) dm∧Own r.2.2 (h.length+3) a0P 11 (L.map itr) dq∧L.map a1Y=(qsS N s0).1∧(∀ i∈L,DcI B.length i)∧(L.map a2M).flatten.length≤B.length) ∨
   (r.1 = .ret∧(qsS N s0).2.2=true∧∃ ds dq,∃ L:List It,r.2.1 = .bool false::ds∧r.2.2[h.length]?=some (.row a0g 3 [svr a dm dq])∧(∀ q,q<h.length→r.2.2[q]?=h[q]?)∧Own r.2.2 (h.length+3) a0M 2 (ms.map mkr) dm∧Own r.2.2 (h.length+3) a0P 11 (L.map itr) dq)) N ⟨_,_,_,_,_,.nils,s0,[],0,rfl,rfl,rfl,P,owm,.nils _ _ _ _,rfl,rfl,fun i hi=>by simp at hi,by simpa using hs0⟩ ?_ ?_
 ·rintro r ds g ⟨y1,y2,y3,y4,y5,dq,s,L,i,rfl,hr,hL,P,owm,ow,q1,q2,hdc,htot⟩
  have stop:(s.2=true∨r=0)→qsS r s=([],s):=by
   rintro (h0 | h0)
   ·exact b2N r s h0
   ·rw [h0];rfl
  have hok:=P.rd.ok
  simp only [a9J,a0f,a0o,bs,d6W,hp2,hp4,hp5,a2S,hok,a0p,a0k]
  cases hb:s.2 with
  | true =>
   rw [stop (.inl hb)] at q1 q2
   simp only [List.append_nil] at q1 q2
   simp only [d7h,d6X,reduceCtorEq,if_false,bs,a0e,a0c]
   exact .some (.inr ⟨by simp,.inl ⟨rfl,dq,L,by rw [← q2];exact P,owm,ow,q1,hdc,by omega⟩⟩)
  | false =>
   simp only [d7i,if_true,bs,a0k,a0e]
   by_cases hr0:r=0
   ·subst hr0
    have hlt:decide ((i:Int)<(N:Int))=false:=decide_eq_false (by omega)
    rw [stop (.inr rfl)] at q1 q2
    simp only [List.append_nil] at q1 q2
    simp only [hlt,a0c,d6X,if_false]
    exact .some (.inr ⟨by simp,.inl ⟨rfl,dq,L,by rw [← q2];exact P,owm,ow,q1,hdc,by omega⟩⟩)
   have hlt:decide ((i:Int)<(N:Int))=true:=decide_eq_true (by omega)
   obtain ⟨r',rfl⟩:∃ r',r=r'+1:=⟨r - 1,by omega⟩
   have hS:qsS (r'+1) s=((itS s).1::(qsS r' (itS s).2).1,(qsS r' (itS s).2).2):=by simp [-bind_some, qsS,hb]
   rw [hS] at q1 q2
   obtain ⟨n,hn,hnB,hns⟩:=P.rd
   obtain ⟨_,ldat,_,_⟩:=a3j hn
   obtain ⟨dl,el,sl⟩:=b6e hd (k := .i64) (n:=(n:Int)) (by omega) (by omega)
   rw [d7g,hns] at sl
   have hsl:s.1.length≤B.length:=by rw [← hns];simp [-bind_some]
   obtain ⟨_,j,ej,hj⟩:=c2I s.1 dl g sl (by omega) fun z hz=>hu z (by rw [← hns] at hz;exact List.mem_of_mem_drop hz)
   have ldst:a0b tab g a0g (.ptr (h.length+1) 0 0)=some (.agg (svr a dm dq)):=by rw [a3C,a0O P.st];rfl
   simp only [hlt,a0c,if_true,bs,a3z,ldat,el,ej,a0E,d6Z,d7a,c2w,a0w,ldst]
   by_cases he:(a3W s.1).1=0
   ·have hd0:decide ((a3W s.1).1≠0)=false:=decide_eq_false (by rw [he];simp [-bind_some])
    have hi:itS s=((a3W s.1).2.2,(s.1.drop (a3W s.1).2.1.toNat,false)):=by unfold itS;rw [if_neg fun hh=>hh.elim (fun hh=>by rw [hb] at hh;cases hh) fun hh=>hh he]
    obtain ⟨z8,zl,zj⟩:=b6J he
    have zj:=zj j hj
    have hw:IntKind.wrap .i64 ((n:Int)+(a3W s.1).2.1)=((n+(a3W s.1).2.1.toNat:Nat):Int):=by rw [wrap_i64 (by omega) (by omega)];omega
    have hnl:n+s.1.length=B.length:=by rw [← hns,d7q];omega
    simp only [hd0,a0c,d6X,if_false,ldat,a0t,hw,bs]
    refine b2O hn fun g1 p1 s1=>?_
    have c1:RdC B d g1 (h.length+2) (itS s).2:=by
     rw [hi]
     refine ⟨n+(a3W s.1).2.1.toNat,?_,by omega,?_⟩
     ·rw [p1];simp [-bind_some, hb]
     ·rw [← hns,List.drop_drop]
    have P1:=P.cur c1 s1
    have ow1:=ow.same s1 (by omega)
    have owm1:=owm.same s1 (by omega)
    have ldq:a0b tab g1 a1v (.ptr (h.length+1) 0 (0+2))=some dq:=by rw [c1B,a0O P1.st];rfl
    have hlit:a0W tab a1v 1 [0] [.agg (itr j)]=some (.sl 11 true [itr j]):=id rfl
    have hw1:IntKind.wrap .u64 ((i:Int)+1)=((i+1:Nat):Int):=by rw [a1s (by omega) (by omega)];omega
    have hdm:∀ q,dm.inOb q→¬ dq.inOb q:=fun q hq hq2=>by
     have h1:=a1T owm1 hq
     have h2:=a1T ow1 hq2
     rw [h1] at h2
     injection h2 with h2
     injection h2 with h2
     exact absurd h2 (by decide)
    simp only [bs,a7Q,ldq,d1U,hlit]
    refine b9l (ys:=[itr j]) (n0:=h.length+3) P1.ln ow1 (a1l _ _ _ _) (by simp;omega) fun dq' g3 ow3 l3 k3 k3' _=>?_
    have P3:=P1.keep k3
    have owm3:=owm1.keep fun q _ hq=>k3' q (owm1.lt hq).2 (hdm q hq)
    simp only [bs]
    refine b9q (kk:=0) (row:=svr a dm dq) P3.st (by rfl) (by rw [(a0H (a2l ow3)).1];rfl) (by simp [-bind_some, svr]) (a0H (a2l ow3)).2 fun g4 p4' s4=>?_
    rw [(a0H (a2l ow3)).1] at p4'
    have P4:DrP B d h g4 (svr a dm dq') _:=P3.sta p4' s4
    simp only [bs,a0t,hw1]
    have hj2:a1Y j=(itS s).1:=by rw [hi];exact hj
    refine .some (.inl ⟨rfl,r',by omega,_,_,_,_,_,dq',(itS s).2,L++[j],i+1,rfl,by omega,by simp [-bind_some, hL],P4,owm3.same s4 (by omega),?_,by rw [d7d];simpa [-bind_some, hj2] using q1,q2,fun x hx=>?_,?_⟩)
    ·rw [d7d]
     exact ow3.same s4 (by omega)
    ·rcases d7t.1 hx with hx | hx
     ·exact hdc x hx
     ·simp only [List.mem_singleton] at hx
      subst hx
      exact ⟨b9Y he hj,by omega⟩
    ·rw [d7d,List.flatten_append,d7b]
     simp only [d7e,d7f,List.flatten_cons,List.flatten_nil,List.append_nil,hi,d7q]
     omega
   ·have hd0:decide ((a3W s.1).1≠0)=true:=decide_eq_true he
    have hi:itS s=(a1Y zit,(s.1,true)):=by unfold itS;rw [if_pos (.inr he)]
    simp only [hd0,a0c,if_true,ldst,bs]
    refine a4v (kk:=0) (off:=0) (row:=svr 0 .nils .nils) (v := .agg (svr a dm dq)) P.r0 (by rfl) (by rfl) (by exact Nat.le_refl _) (b8Z owm ow) fun g1 p1 s1=>?_
    have p1:g1[h.length]?=some (.row a0g 3 [svr a dm dq]):=p1
    refine .some (.inr ⟨by simp,.inr ⟨rfl,?_,_,dq,L,rfl,p1,fun q hq=>by rw [s1.2 q (by omega)];exact P.lo q hq,owm.same s1 (by omega),ow.same s1 (by omega)⟩⟩)
    rw [← q2,hi,b2N r' _ rfl]
 ·rintro ⟨ex,ds,g⟩ (⟨rfl,dq,L,P,owm,ow,hL,hdc,htot⟩ | ⟨rfl,hbad,ds',dq,L,rfl,p1,lo,owm,ow⟩)
  ·exact k g dq L ds P owm ow hL hdc htot
  ·exact k2 g dq L ds' hbad p1 lo owm ow
theorem rdG {B:List Int} {d:D} {g:Hp} {o:Nat} {s:Cur} (hd:SlOf 1 byr B d) (hB:B.length≤1000000000) (hu:∀ z∈B,U8 z) (C:RdC B d g o s) {β:Type} {f:D→Hp→Option β} {Q:β→Prop} (k:∀ g',RdC B d g' o (a0G s 4).2→Same o g g'→Wp (f (.int .u64 (num (a0G s 4).1)) g') Q) :
  Wp ((a0b tab g a0m (.ptr o 0 0)).bind fun t=>(R a2C [t,.int .i64 4] g).bind fun p=>(a0j 0 p.1).bind fun a=>(a0j 1 p.1).bind fun b=>(a0h tab p.2 a0m (.ptr o 0 0) a).bind fun g'=>f b g') Q:=by
 obtain ⟨x,l,r⟩:=C.all
 obtain ⟨x',e,r'⟩:=b0r g hd hB hu r 4 (by omega)
 have e:R a2C [x,.int .i64 4] g=some (.tup [x',.int .u64 (num (a0G s 4).1)],g):=e
 simp only [l,bs,e,a0E,d6Z,d7a]
 exact C.st r' k
def xM (s0:Cur):List FM × Cur:=a3q (a1z (a0Q s0).2).1.toNat (a1z (a0Q s0).2).2
noncomputable def xQ (s0:Cur):List RI × Cur:=qsS (a1z (xM s0).2).1.toNat (a1z (xM s0).2).2
def c1P (s0:Cur):Prop:=(xQ s0).2.2=true∨0<(xQ s0).2.1.length∨stC (a0Q s0).1 (xM s0).1 (xQ s0).1.length≠0
theorem b4D {s:Cur} {n:Nat} (h:num (a0G s 4).1=n) (hn:n<4294967296):(a1z s).1=n:=by
 show IntKind.wrap .i64 (num (a0G s 4).1)=_
 rw [h,wrap_i64 (by omega) (by omega)]
theorem d3j (B:List Int) (d:D) (h:Hp) (hd:SlOf 1 byr B d) (hB:B.length≤600000000) (hu:∀ z∈B,U8 z) :
  ∃ a dm dq ms its ok,R b4w [d] h=some (.tup [.agg (svr a dm dq),.bool ok],h)∧SlOf 2 mkr ms dm∧SlOf 11 itr its dq∧((ok=true∧¬ c1P (B,false)∧a=(a0Q (B,false)).1∧ms=(xM (B,false)).1∧its.map a1Y=(xQ (B,false)).1)∨(ok=false∧c1P (B,false))):=by
 suffices Wp (R b4w [d] h) (fun p=>∃ a dm dq ms its ok,p=(.tup [.agg (svr a dm dq),.bool ok],h)∧SlOf 2 mkr ms dm∧SlOf 11 itr its dq∧((ok=true∧¬ c1P (B,false)∧a=(a0Q (B,false)).1∧ms=(xM (B,false)).1∧its.map a1Y=(xQ (B,false)).1)∨(ok=false∧c1P (B,false)))) by
  obtain ⟨p,h1,a,dm,dq,ms,its,ok,rfl,h2⟩:=this
  exact ⟨a,dm,dq,ms,its,ok,h1,h2⟩
 have hB9:B.length≤1000000000:=by omega
 have r0:(a0I h a0g 3 [[.int .i64 0,.nils,.nils]])[h.length]?=some (.row a0g 3 [svr 0 .nils .nils]):=a1h _ _ _ _
 have l0:(a0I h a0g 3 [[.int .i64 0,.nils,.nils]]).length=h.length+1:=a2D _ _ _ _
 have k0:∀ q,q<h.length→(a0I h a0g 3 [[.int .i64 0,.nils,.nils]])[q]?=h[q]?:=fun q hq=>a0Y _ _ _ _ hq
 rw [d0T]
 simp only [c6k,bs,l0,a8J d true (a1x hd),d6W]
 generalize a0I h a0g 3 [[.int .i64 0,.nils,.nils]]=g0 at *
 have r1:(a0I g0 a0g 3 [[.int .i64 0,.nils,.nils]])[h.length+1]?=some (.row a0g 3 [svr 0 .nils .nils]):=by rw [← l0];exact a1h _ _ _ _
 have l1:(a0I g0 a0g 3 [[.int .i64 0,.nils,.nils]]).length=h.length+2:=by rw [a2D,l0]
 have k1:∀ q,q<h.length+1→(a0I g0 a0g 3 [[.int .i64 0,.nils,.nils]])[q]?=g0[q]?:=fun q hq=>a0Y _ _ _ _ (by omega)
 simp only [l1]
 generalize a0I g0 a0g 3 [[.int .i64 0,.nils,.nils]]=g1 at *
 have r2:(a0I g1 a0m 3 [[.nils,.int .i64 0,.bool false]])[h.length+2]?=some (.row a0m 3 [[.nils,.int .i64 0,.bool false]]):=by rw [← l1];exact a1h _ _ _ _
 have k2:∀ q,q<h.length+2→(a0I g1 a0m 3 [[.nils,.int .i64 0,.bool false]])[q]?=g1[q]?:=fun q hq=>a0Y _ _ _ _ (by omega)
 generalize a0I g1 a0m 3 [[.nils,.int .i64 0,.bool false]]=g2 at *
 refine b9p (kk:=0) (off:=0) (row:=[.nils,.int .i64 0,.bool false]) (v := .agg [d,.int .i64 0,.bool true]) r2 (by rfl) (by rfl) (by exact Nat.le_refl _) (by rcases hd with ⟨rfl,_⟩ | ⟨b,rfl⟩ <;> rfl) fun g3 p3 s3=>?_
 have c3:RdC B d g3 (h.length+2) (B,false):=⟨0,p3,by omega,rfl⟩
 have P3:DrP B d h g3 (svr 0 .nils .nils) (B,false):=⟨by rw [s3.2 _ (by omega),k2 _ (by omega),k1 _ (by omega)];exact r0,by rw [s3.2 _ (by omega),k2 _ (by omega)];exact r1,c3,fun q hq=>by rw [s3.2 q (by omega),k2 q (by omega),k1 q (by omega)];exact k0 q hq⟩
 try simp only [bs]
 refine rdI hd hB9 hu P3.rd fun g4 c4 s4=>?_
 have P4:=P3.cur c4 s4
 try simp only [bs,b6Z]
 refine b5k (kk:=0) (off:=0+0) (row:=svr 0 .nils .nils) (v := .int .i64 (a0Q (B,false)).1) P4.st (by rfl) (by rfl) (by simp [-bind_some, svr]) (by rfl) fun g5 p5 s5=>?_
 have P5:DrP B d h g5 (svr (a0Q (B,false)).1 .nils .nils) _:=P4.sta p5 s5
 try simp only [bs]
 refine rdG hd hB9 hu P5.rd fun g6 c6 s6=>?_
 have P6:=P5.cur c6 s6
 have hus:∀ {g:Hp} {s:Cur},RdC B d g (h.length+2) s→(∀ z∈s.1,U8 z)∧s.1.length≤B.length:=fun C=>by
  obtain ⟨n,_,_,h3⟩:=C
  rw [← h3]
  exact ⟨fun z hz=>hu z (List.mem_of_mem_drop hz),by simp⟩
 obtain ⟨N1,hN1,hN1b⟩:=c1L (a4t (hus P5.rd).1 4).1 (a3F _ 4)
 have hL1:=b4D hN1 hN1b
 rw [hN1]
 have hM:xM (B,false)=a3q N1 (a0G (a0Q (B,false)).2 4).2:=by unfold xM;rw [hL1];rfl
 try simp only [bs]
 refine c3O hd hB9 hu hN1b rfl rfl P6 _ _ fun g7 dm x7 y7 z7 P7 owm=>?_
 rw [← hM] at P7 owm
 have hml:(xM (B,false)).1.length≤4294967296:=by rw [hM];have:=b0m N1 (a0G (a0Q (B,false)).2 4).2;omega
 simp only [a0s,a0r,bs,a0f,a0o,d6W]
 refine rdG hd hB9 hu P7.rd fun g8 c8 s8=>?_
 have P8:=P7.cur c8 s8
 have owm8:=owm.same s8 (by omega)
 obtain ⟨N2,hN2,hN2b⟩:=c1L (a4t (hus P7.rd).1 4).1 (a3F _ 4)
 have hL2:=b4D hN2 hN2b
 rw [hN2]
 have hQ:xQ (B,false)=qsS N2 (a0G (xM (B,false)).2 4).2:=by unfold xQ;rw [hL2];rfl
 try simp only [bs]
 refine c3P hd hB9 hu hN2b (hus P8.rd).2 rfl rfl rfl P8 owm8 _ _ _ _ _ (fun g9 dq its ds P9 owm9 owq9 hits hdc htot=>?_) (fun g9 dq its ds hbad p9 lo9 owm9 owq9=>?_)
 ·rw [← hQ] at P9 hits
  have hlq:its.length=(xQ (B,false)).1.length:=by rw [← hits];simp [-bind_some]
  obtain ⟨n,hn,hnB,hns⟩:=P9.rd
  obtain ⟨_,ldat,ldok,_⟩:=a3j hn
  have hbody:∀ i∈its,(a1t i).length≤800000000:=fun i hi=>by have:=(hdc i hi).l;rw [a3K] at this;omega
  obtain ⟨d',e57,_⟩:=c8e (a0Q (B,false)).1 (xM (B,false)).1 its dm dq g9 (b8C owm9) (b8C owq9) (by omega) (by omega) hbody (fun i hi g=>(hdc i hi).ck hB9 g)
  have hst:stE (a0Q (B,false)).1 (xM (B,false)).1 its=stC (a0Q (B,false)).1 (xM (B,false)).1 (xQ (B,false)).1.length:=by
   unfold stE
   rw [b7I hdc,hlq]
   split
   ·rename_i h0;exact h0.symm
   ·rfl
  rw [hst] at e57
  have ldst:a0b tab g9 a0g (.ptr (h.length+1) 0 0)=some (.agg (svr (a0Q (B,false)).1 dm dq)):=by rw [a3C,a0O P9.st];rfl
  have fin:∀ ok:Bool,((ok=true∧¬ c1P (B,false))∨(ok=false∧c1P (B,false)))→Wp ((a0h tab g9 a0g (.ptr h.length 0 0) (.agg (svr (a0Q (B,false)).1 dm dq))).bind fun h'=>(a0b tab h' a0g (.ptr h.length 0 0)).bind fun d0=>scope h h' (a0l [d0,.bool ok])) (fun p=>∃ a dm dq ms its ok,p=(.tup [.agg (svr a dm dq),.bool ok],h)∧SlOf 2 mkr ms dm∧SlOf 11 itr its dq∧((ok=true∧¬ c1P (B,false)∧a=(a0Q (B,false)).1∧ms=(xM (B,false)).1∧its.map a1Y=(xQ (B,false)).1)∨(ok=false∧c1P (B,false)))):=by
   intro ok hok
   refine a4v (kk:=0) (off:=0) (row:=svr 0 .nils .nils) (v := .agg (svr (a0Q (B,false)).1 dm dq)) P9.r0 (by rfl) (by rfl) (by exact Nat.le_refl _) (b8Z owm9 owq9) fun ga pa sa=>?_
   have pa:ga[h.length]?=some (.row a0g 3 [svr (a0Q (B,false)).1 dm dq]):=pa
   have lda:a0b tab ga a0g (.ptr h.length 0 0)=some (.agg (svr (a0Q (B,false)).1 dm dq)):=by rw [a3C,a0O pa];rfl
   obtain ⟨dm',dq',esc,om,oq⟩:=c7H (a:=(a0Q (B,false)).1) (ok:=ok) (owm9.same sa (by omega)) (owq9.same sa (by omega)) (by have:=(d7n.1 pa).1;omega) (fun q hq=>by rw [sa.2 q (by omega)];exact P9.lo q hq)
   simp only [lda,bs,a0Z,esc]
   refine .some ⟨_,dm',dq',_,its,ok,rfl,om,oq,?_⟩
   rcases hok with ⟨w1,w2⟩ | ⟨w1,w2⟩
   ·exact .inl ⟨w1,w2,rfl,rfl,hits⟩
   ·exact .inr ⟨w1,w2⟩
  have hwn:(xQ (B,false)).2.1.length=B.length - n:=by rw [← hns];simp [-bind_some]
  simp only [a0s,a0r,bs,a0f,a0o,ldst,e57,a0E,d6Z,d7a,a2S,a3z,ldok,a0p,d6W]
  cases hbd:(xQ (B,false)).2.2 with
  | true =>
   simp only [d7h,d6X,reduceCtorEq,if_false,bs,a0e,a0p]
   exact fin false (.inr ⟨rfl,.inl hbd⟩)
  | false =>
   simp only [d7i,if_true,bs,ldat,a1P hd,a0S,a0e,a0p]
   by_cases hnn:n=B.length
   ·have hn1:decide ((n:Int)=(B.length:Int))=true:=decide_eq_true (by omega)
    simp only [hn1,a0p,if_true,bs,a0S,a0e]
    by_cases hs0:stC (a0Q (B,false)).1 (xM (B,false)).1 (xQ (B,false)).1.length=0
    ·have hs1:decide (stC (a0Q (B,false)).1 (xM (B,false)).1 (xQ (B,false)).1.length=0)=true:=decide_eq_true hs0
     rw [hs1]
     refine fin true (.inl ⟨rfl,?_⟩)
     rintro (w | w | w)
     ·rw [hbd] at w;cases w
     ·omega
     ·exact w hs0
    ·have hs1:decide (stC (a0Q (B,false)).1 (xM (B,false)).1 (xQ (B,false)).1.length=0)=false:=decide_eq_false hs0
     rw [hs1]
     exact fin false (.inr ⟨rfl,.inr (.inr hs0)⟩)
   ·have hn1:decide ((n:Int)=(B.length:Int))=false:=decide_eq_false (by omega)
    simp only [hn1,a0p,d6X,reduceCtorEq,if_false,bs,a0e]
    exact fin false (.inr ⟨rfl,.inr (.inl (by omega))⟩)
 ·rw [← hQ] at hbad
  have ld9:a0b tab g9 a0g (.ptr h.length 0 0)=some (.agg (svr (a0Q (B,false)).1 dm dq)):=by rw [a3C,a0O p9];rfl
  obtain ⟨dm',dq',esc,om,oq⟩:=c7H (a:=(a0Q (B,false)).1) (ok:=false) owm9 owq9 (by have:=(d7n.1 p9).1;omega) lo9
  simp only [a1K,a1J,a1E,a0f,bs,ld9,a0Z,esc]
  exact .some ⟨_,dm',dq',_,its,false,rfl,om,oq,.inr ⟨rfl,.inl hbad⟩⟩
theorem d3e (n:Int) (ms:List FM) (its:List It) (dm dq:D) (h:Hp) (hm:SlOf 2 mkr ms dm) (hq:SlOf 11 itr its dq) (hl:ms.length≤5000000000) (hT:(its.map a2M).flatten.length≤700000000) (hb:∀ i∈its,(a1t i).length≤800000000) (hck:∀ i∈its,∀ g,R a5C [.agg (itr i)] g=some (.int .i64 (itE i),g)) :
  ∃ d',R a7e [.agg (svr n dm dq)] h=some (.tup [d',.int .i64 (stE n ms its)],h)∧SlOf 1 byr (if stE n ms its=0 then b0y n ms its else []) d':=by
 suffices Wp (R a7e [.agg (svr n dm dq)] h) (fun p=>p.2=h∧∃ d',p.1 = .tup [d',.int .i64 (stE n ms its)]∧SlOf 1 byr (if stE n ms its=0 then b0y n ms its else []) d') by
  obtain ⟨⟨x,h'⟩,h1,rfl,d',rfl,h2⟩:=this
  exact ⟨d',h1,h2⟩
 obtain ⟨b,e57,ob⟩:=c8e n ms its dm dq h (.inl hm) (.inl hq) hl hT hb hck
 rw [d0L]
 simp only [c6c,a1G,svl,bs,e57,a0E,d6Z,d7a,a0w,a0Z]
 by_cases hc:stE n ms its=0
 case neg =>
  have hcc:decide (stE n ms its≠0)=true:=decide_eq_true hc
  simp only [hcc,a0c,if_true]
  rw [a1a (d' := .tup [.nils,.int .i64 (stE n ms its)]) (by simp) (.tup _ fun d hd=>by simp at hd;rcases hd with rfl | rfl <;> constructor) (Nat.le_refl _) fun _ _=>rfl]
  exact .some ⟨rfl,_,rfl,by rw [if_neg hc];exact .nils _ _⟩
 have hcc:decide (stE n ms its≠0)=false:=decide_eq_false (by rw [hc];simp [-bind_some])
 rw [if_pos hc] at ob ⊢
 have hm1000:ms.length≤1000:=by
  have hcs:stC n ms its.length=0:=by
   apply Classical.byContradiction
   intro hh
   unfold stE at hc
   rw [if_neg hh] at hc
   exact hh hc
  unfold stC at hcs
  split at hcs
  ·cases hcs
  split at hcs
  ·cases hcs
  split at hcs
  ·cases hcs
  split at hcs
  ·cases hcs
  ·omega
 have hbl:=a6a n ms its
 have g0:(a0I h ty5 1 (magS.map byr))[h.length]?=some (.row ty5 1 (magS.map byr)):=a1h _ _ _ _
 have o0:Own (a0I h ty5 1 (magS.map byr)) h.length ty5 1 (magS.map byr) (.msl 1 h.length 0 4) := .inr ⟨h.length,Nat.le_refl _,rfl,g0⟩
 have l0:h.length≤(a0I h ty5 1 (magS.map byr)).length:=by simp [-bind_some, a0I]
 have k0:∀ q,q<h.length→(a0I h ty5 1 (magS.map byr))[q]?=h[q]?:=fun q hq=>a0Y _ _ _ _ hq
 simp only [hcc,a0c,d6X,if_false,a8g,b4G,bs,c1I g0,a1P ob,a2a]
 generalize a0I h ty5 1 (magS.map byr)=G0 at *
 have B0:Bw h.length h .nils G0 magS (.msl 1 h.length 0 4):=⟨o0,l0,fun q hq _=>k0 q hq,fun q hq => .inr (o0.lt hq).1⟩
 refine c3Q B0 l0 (a1A n ms its).length (by simp [-bind_some, magS]) fun d1 g1 B1 n1=>?_
 simp only [bs]
 refine b3C B1 n1 (a4q (.inl ob)) (by simp only [d7b,a1H];simp [-bind_some, magS];omega) fun d2 g2 B2 n2=>?_
 have hH:magS++pN (a1A n ms its).length++a1A n ms its=a3c (a1A n ms its):=rfl
 rw [hH] at B2
 have ek:=c0Q (a3c (a1A n ms its)) d2 g2 (.own B2.ow) (by rw [a3Z];omega) (b0d (a9K _ _ _))
 simp only [bs,ek]
 obtain ⟨d3,g3,e3,B3⟩:=b1R (a2z (a3c (a1A n ms its))) 4 (by omega) h.length g2 _ _ n2 B2.ow (by rw [a3Z];omega)
 have e3:R a2o [d2,.int .u64 (a2z (a3c (a1A n ms its))),.int .i64 4] g2=some (d3,g3):=e3
 simp only [e3,bs]
 have hfin:a3c (a1A n ms its)++a3H 4 (a2z (a3c (a1A n ms its)))=b0y n ms its:=rfl
 rw [hfin] at B3
 have B4:=B2.trans B3
 have hso:=a2w (n0:=h.length) (n:=2) B4.ow (Nat.le_refl _) (fun a _=>a4i _ g3 2 a)
 rw [a1a (d' := .tup [frz h.length g3 3 d3,.int .i64 0]) (by simp [-bind_some, hc]) (by
  refine .tup _ fun d hd=>?_
  simp at hd
  rcases hd with rfl | rfl
  ·exact a1q hso fun a _=>a6b _ a
  ·constructor) B4.len (fun q hq=>B4.old q hq (a6y q))]
 exact .some ⟨rfl,_,by rw [hc],hso⟩
theorem c0I (l:List Int) (hu:∀ z∈l,U8 z):(bys (l.take 4)==([76,84,49,10]:Str))=decide (l.take 4=magS):=by
 have e2:([76,84,49,10]:Str)=bys magS:=by decide
 rw [e2]
 by_cases h:l.take 4=magS
 ·rw [h];simp [-bind_some]
 ·have:bys (l.take 4)≠bys magS:=fun hh=>h (by rw [← a8k (l.take 4) (fun z hz=>hu z (List.mem_of_mem_take hz)),hh,a8k magS (by unfold magS U8;decide)])
  simp [-bind_some, h,this]
theorem b9a {l:List Int} (h:4≤l.length):(a0G (l,false) 4).1=l.take 4:=by
 unfold a0G
 rw [if_neg (by
  rintro (hh | hh | hh)
  ·cases hh
  ·omega
  ·simp only at hh;omega)]
 rfl
theorem c8d (l:List Int) (d:D) (h:Hp) (hd:SlOf 1 byr l d) (hl:l.length≤600000000) (hu:∀ z∈l,U8 z) :
  ∃ dm dq its,R a7f [d] h=some (.tup [.agg (svr (a2d l).2.2.1 dm dq),.int .i64 (a2d l).2.1,.int .i64 (a2d l).1],h)∧SlOf 2 mkr (a2d l).2.2.2.1 dm∧SlOf 11 itr its dq∧its.map a1Y=(a2d l).2.2.2.2:=by
 suffices Wp (R a7f [d] h) (fun p=>∃ dm dq its,p=(.tup [.agg (svr (a2d l).2.2.1 dm dq),.int .i64 (a2d l).2.1,.int .i64 (a2d l).1],h)∧SlOf 2 mkr (a2d l).2.2.2.1 dm∧SlOf 11 itr its dq∧its.map a1Y=(a2d l).2.2.2.2) by
  obtain ⟨p,h1,dm,dq,its,rfl,h2⟩:=this
  exact ⟨dm,dq,its,h1,h2⟩
 have fin:∀ e,a2d l=(e,0,0,[],[])→∃ dm dq its,((.tup [.agg (svr 0 .nils .nils),.int .i64 0,.int .i64 e],h):D × Hp)=(.tup [.agg (svr (a2d l).2.2.1 dm dq),.int .i64 (a2d l).2.1,.int .i64 (a2d l).1],h)∧SlOf 2 mkr (a2d l).2.2.2.1 dm∧SlOf 11 itr its dq∧its.map a1Y=(a2d l).2.2.2.2:=fun e he=>by
  rw [he];exact ⟨.nils,.nils,[],rfl,.nils _ _,.nils _ _,rfl⟩
 have hl9:l.length≤1000000000:=by omega
 have r0:(a0I h a0g 3 [[.int .i64 0,.nils,.nils]])[h.length]?=some (.row a0g 3 [svr 0 .nils .nils]):=a1h _ _ _ _
 have l0:(a0I h a0g 3 [[.int .i64 0,.nils,.nils]]).length=h.length+1:=by simp [-bind_some, a0I]
 have k0:∀ q,q<h.length→(a0I h a0g 3 [[.int .i64 0,.nils,.nils]])[q]?=h[q]?:=fun q hq=>a0Y _ _ _ _ hq
 rw [d0M]
 simp only [c6d,bs,a1P hd,a0k,b2b,d6W]
 generalize a0I h a0g 3 [[.int .i64 0,.nils,.nils]]=g0 at *
 by_cases h8:l.length<8
 ·have h8':(l.length:Int)<8:=by omega
  simp only [h8',decide_true,a0c,if_true]
  exact a7m r0 rfl k0 14 (fin 14 (by unfold a2d;rw [if_pos h8]))
 have h8':¬ (l.length:Int)<8:=by omega
 have R1:RdS l d (l.drop 4,false) (.agg [d,.int .i64 4,.bool true]):=⟨4,rfl,by omega,rfl⟩
 obtain ⟨x1,e1,q1⟩:=b0r g0 hd hl9 hu R1 4 (by omega)
 have e1:R a2C [.agg [d,.int .i64 4,.bool true],.int .i64 4] g0=some (.tup [x1,.int .u64 (num (a0G (l.drop 4,false) 4).1)],g0):=e1
 obtain ⟨m1,rfl,_⟩:=q1
 rw [b9a (l:=l.drop 4) (by simp;omega)] at e1
 have hu4:∀ z∈(l.drop 4).take 4,U8 z:=fun z hz=>hu z (List.mem_of_mem_drop (List.mem_of_mem_take hz))
 obtain ⟨n0,n1⟩:=a2k 4 ((l.drop 4).take 4) (by simp;omega) hu4
 rw [a6z] at n1
 have hN:num ((l.drop 4).take 4)=(dN l:Int):=by unfold dN;omega
 have hN32:dN l<4294967296:=by unfold dN;omega
 rw [hN] at e1
 obtain ⟨d4,e4,s4⟩:=a8F hd (k := .i64) (n:=4) (by omega) (by omega)
 have s4:SlOf 1 byr (l.take 4) d4:=s4
 have bxA:a3o 3 (.agg [d,.int .i64 m1,.bool (!(a0G (l.drop 4,false) 4).2.2)])=some (.fptr [d,.int .i64 m1,.bool (!(a0G (l.drop 4,false) 4).2.2)]):=a1Q 3 _ rfl
 simp only [h8',decide_false,a0c,d6X,if_false,a4K d 4 true (a1x hd),e1,bxA,bs,a0E,d6Z,d7a,e4,a3O s4,a1X,c0I l hu]
 by_cases hmag:l.take 4=magS
 case neg =>
  have hm:decide (l.take 4=magS)=false:=decide_eq_false hmag
  simp only [hm,d7i,if_true]
  exact a7m r0 rfl k0 1 (fin 1 (by unfold a2d;rw [if_neg h8,if_pos hmag]))
 have hm:decide (l.take 4=magS)=true:=decide_eq_true hmag
 have w0:IntKind.wrap .u64 (l.length:Int)=(l.length:Int):=a1s (by omega) (by omega)
 have w1:IntKind.wrap .u64 (12+(dN l:Int))=((12+dN l:Nat):Int):=by rw [a1s (by omega) (by omega)];omega
 simp only [hm,d7h,d6X,if_false,a2a,w0,a0t,w1,a0k,bs]
 by_cases hsh:l.length<12+dN l
 ·have hsh':decide ((l.length:Int)<((12+dN l:Nat):Int))=true:=decide_eq_true (by omega)
  simp only [hsh',if_true]
  exact a7m r0 rfl k0 14 (fin 14 (by unfold a2d;rw [if_neg h8,if_neg (by simpa using hmag),if_pos hsh]))
 have hsh':decide ((l.length:Int)<((12+dN l:Nat):Int))=false:=decide_eq_false (by omega)
 have w2:IntKind.wrap .i64 (dN l:Int)=(dN l:Int):=wrap_i64 (by omega) (by omega)
 have w3:IntKind.wrap .i64 (8+(dN l:Int))=((8+dN l:Nat):Int):=by rw [wrap_i64 (by omega) (by omega)];omega
 have w4:IntKind.wrap .i64 (((8+dN l:Nat):Int)+4)=((12+dN l:Nat):Int):=by rw [wrap_i64 (by omega) (by omega)];omega
 have R2:RdS l d (l.drop (8+dN l),false) (.agg [d,.int .i64 ((8+dN l:Nat):Int),.bool true]):=⟨8+dN l,rfl,by omega,rfl⟩
 obtain ⟨x2,e2,q2⟩:=b0r g0 hd hl9 hu R2 4 (by omega)
 have e2:R a2C [.agg [d,.int .i64 ((8+dN l:Nat):Int),.bool true],.int .i64 4] g0=some (.tup [x2,.int .u64 (num (a0G (l.drop (8+dN l),false) 4).1)],g0):=e2
 obtain ⟨m2,rfl,_⟩:=q2
 rw [b9a (l:=l.drop (8+dN l)) (by simp;omega)] at e2
 have bxB:a3o 3 (.agg [d,.int .i64 m2,.bool (!(a0G (l.drop (8+dN l),false) 4).2.2)])=some (.fptr [d,.int .i64 m2,.bool (!(a0G (l.drop (8+dN l),false) 4).2.2)]):=a1Q 3 _ rfl
 obtain ⟨dn,en,sn⟩:=a8F hd (k := .i64) (n:=((8+dN l:Nat):Int)) (by omega) (by omega)
 rw [d7g] at sn
 have ek:=c0Q (l.take (8+dN l)) dn g0 (.inl sn) (by simp;omega) (fun z hz=>hu z (List.mem_of_mem_take hz))
 simp only [hsh',d6X,if_false,a3r,w2,a0t,w3,bs,a4K d _ true (a1x hd),e2,bxB,a0E,d6Z,d7a,en,ek,a0w]
 by_cases hck:a2z (l.take (8+dN l))=num ((l.drop (8+dN l)).take 4)
 case neg =>
  have hck':decide (num ((l.drop (8+dN l)).take 4)≠a2z (l.take (8+dN l)))=true:=decide_eq_true fun hh=>hck hh.symm
  simp only [hck',if_true]
  exact a7m r0 rfl k0 15 (fin 15 (by unfold a2d;rw [if_neg h8,if_neg (by simpa using hmag),if_neg hsh,if_pos hck]))
 have hck':decide (num ((l.drop (8+dN l)).take 4)≠a2z (l.take (8+dN l)))=false:=decide_eq_false (by rw [hck];simp [-bind_some])
 obtain ⟨db,eb,sb⟩:=a4N hd 8 (8+dN l) (by omega) (by omega)
 have eb:a0A tab a0J true true false [d,.int .i64 8,.int .i64 ((8+dN l:Nat):Int)]=some db:=eb
 obtain ⟨a,dm,dq,ms,its,ok,e58,om,oq,hok⟩:=d3j ((l.take (8+dN l)).drop 8) db g0 sb (by simp;omega) (fun z hz=>hu z (List.mem_of_mem_take (List.mem_of_mem_drop hz)))
 have bxC:a3o 3 (.agg (svr a dm dq))=some (.fptr (svr a dm dq)):=a1Q 3 _ rfl
 simp only [hck',d6X,if_false,eb,e58,bs,a0E,d6Z,d7a,bxC,a1y]
 rcases hok with ⟨rfl,hnb,rfl,rfl,hits⟩ | ⟨rfl,hb⟩
 case inr =>
  have hb:b3M l:=hb
  simp only [d7i,if_true]
  exact a7m r0 rfl k0 1 (fin 1 (by unfold a2d;rw [if_neg h8,if_neg (by simpa using hmag),if_neg hsh,if_neg (by simpa using hck),if_pos hb]))
 have hnb:¬ b3M l:=hnb
 have hgood:a2d l=(0,((12+dN l:Nat):Int),(dA l).1,(dM l).1,(dQ l).1):=by unfold a2d;rw [if_neg h8,if_neg (by simpa using hmag),if_neg hsh,if_neg (by simpa using hck),if_neg hnb]
 have om:SlOf 2 mkr (dM l).1 dm:=om
 have hits:its.map a1Y=(dQ l).1:=hits
 simp only [d7h,d6X,if_false,svl,a0t,w4,bs]
 refine a4v (kk:=0) (off:=0) (row:=svr 0 .nils .nils) (v := .agg (svr (dA l).1 dm dq)) r0 (by rfl) (by rfl) (by exact Nat.le_refl _) (by rcases om with ⟨rfl,_⟩ | ⟨_,rfl⟩ <;> rcases oq with ⟨rfl,_⟩ | ⟨_,rfl⟩ <;> rfl) fun g9 p9 s9=>?_
 have p9:g9[h.length]?=some (.row a0g 3 [svr (dA l).1 dm dq]):=p9
 have ld9:a0b tab g9 a0g (.ptr h.length 0 0)=some (.agg (svr (dA l).1 dm dq)):=by rw [a3C,a0O p9];rfl
 have fM:frz h.length g9 2 dm=dm:=a2F (n:=1) om fun a _=>a6Q _ g9 1 a
 have fQ:frz h.length g9 2 dq=dq:=a2F (n:=1) oq fun a _=>a4V _ g9 0 a
 simp only [ld9,bs,a6P]
 rw [a1a (d' := .tup [.agg (svr (dA l).1 dm dq),.int .i64 ((12+dN l:Nat):Int),.int .i64 0]) (by
  show D.tup [D.agg [_,frz h.length g9 2 dm,frz h.length g9 2 dq],_,_]=_
  rw [fM,fQ];rfl) (by
  refine .tup _ fun d hd=>?_
  simp at hd
  rcases hd with rfl | rfl | rfl
  ·refine .agg _ fun d hd=>?_
   simp [-bind_some, svr] at hd
   rcases hd with rfl | rfl | rfl
   ·constructor
   ·exact a1q om fun a _=>a9c _ a
   ·exact a1q oq fun a _=>a6M _ a
  ·constructor
  ·constructor) (by rw [s9.1];omega) (fun q hq=>by rw [s9.2 q (by omega)];exact k0 q hq)]
 rw [hgood]
 exact .some ⟨dm,dq,its,rfl,om,oq,hits⟩
end Go.Proofs.YtjmndhbabkjebaaGreatDoor

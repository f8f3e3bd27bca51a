/- Laws, on plain data, about functions that the statement reaches. -/
import Derived.Test.YthaajlepgblimaaGreatDoorL4
set_option linter.unusedSimpArgs false
set_option linter.unusedVariables false
set_option linter.unnecessarySimpa false
set_option maxRecDepth 100000
namespace Go.Proofs.YthaajlepgblimaaGreatDoor
open Go.Eng Go.Pi
open Option (bind_some)
theorem d6r (l:List Int) (d:D) (c:Int) (h:Hp) (hd:SlOf 1 byr l d) (hl:l.length≤1000000000) (hu:∀ z∈l,U8 z)
  (hck:∀ j:It,a4v j=a1T ((l.take (num (l.take 4)).toNat).drop 4,false)→∀ g,R a6h [.agg (itr j)] g=some (.int .i64 c,g)) :
  ∃ j:It,R b4A [d] h=some (.tup [.agg (itr j),.int .i64 (a6O c l).2.1,.int .i64 (a6O c l).1],h)∧a4v j=(a6O c l).2.2:=by
 suffices Wp (R b4A [d] h) (fun p=>p.2=h∧∃ j:It,p.1 = .tup [.agg (itr j),.int .i64 (a6O c l).2.1,.int .i64 (a6O c l).1]∧a4v j=(a6O c l).2.2) by
  obtain ⟨⟨x,h'⟩,h1,rfl,j,rfl,h2⟩:=this
  exact ⟨j,h1,h2⟩
 have hz74:([.str [],.int .i64 0,.int .i64 0,.int .i64 0,.int .i64 0,.nils,.int .i64 0,.int .i64 0,.str [],.str [],.nils]:List D)=itr zit:=rfl
 have hbz:a0U tab a0z [] []=some (.agg (itr zit)):=id rfl
 -- a way out with an error: the result's variable is stored to and read
 have out:∀ (g:Hp) (row:List D) (a b:Int),g[h.length]?=some (.row a0z 11 [row])→row.length=11→h.length≤g.length→(∀ q,q<h.length→g[q]?=h[q]?)→(a,b,a4v zit)=((a6O c l).2.1,(a6O c l).1,(a6O c l).2.2) →
   Wp ((a0p tab g a0z (.ptr h.length 0 0) (.agg (itr zit))).bind fun h'=>(a0c tab h' a0z (.ptr h.length 0 0)).bind fun d=>scope h h' (a0f [d,.int .i64 a,.int .i64 b])) (fun p=>p.2=h∧∃ j:It,p.1 = .tup [.agg (itr j),.int .i64 (a6O c l).2.1,.int .i64 (a6O c l).1]∧a4v j=(a6O c l).2.2):=by
  intro g row a b hg hr hgl hgb he
  injection he with he1 he2
  injection he2 with he2 he3
  refine a6K hg (by rfl) (by rfl) (by rw [hr];exact Nat.le_refl _) (by rfl) fun g' h' s'=>?_
  have h':g'[h.length]?=some (.row a0z 11 [itr zit]):=by
   rw [h']
   have hs:spl row 0 (a0B (.agg (itr zit)))=itr zit:=by
    have h11:(itr zit).length=11:=rfl
    simp [-bind_some, spl,a0B,hr,h11]
   rw [hs];rfl
  have ld:a0c tab g' a0z (.ptr h.length 0 0)=some (.agg (itr zit)):=by rw [b2y,a0F h'];rfl
  rw [ld]
  simp only [bs,a8a]
  rw [c3S (by rw [s'.1];exact hgl) (fun q hq=>by rw [s'.2 q (by omega)];exact hgb q hq)]
  exact .some ⟨rfl,zit,by rw [he1,he2],he3⟩
 rw [d2s]
 simp only [c6V,hz74,bs,e0h,a1z hd,a0o,hbz]
 have hp2:(a0C h a0z 11 [itr zit])[h.length]?=some (.row a0z 11 [itr zit]):=a0Z _ _ _ _
 have hq2:∀ q,q<h.length→(a0C h a0z 11 [itr zit])[q]?=h[q]?:=fun q hq=>a0H _ _ _ _ hq
 have hl2:(a0C h a0z 11 [itr zit]).length=h.length+1:=by simp [-bind_some, a0C]
 generalize a0C h a0z 11 [itr zit]=g1 at *
 refine Wp.dif ?_ ?_
 ·intro h0
  have h0:l.length<4:=by
   have:(l.length:Int)<4:=by simpa using h0
   omega
  have hz:a6O c l=(14,0,⟨[],0,0,0,0,[],0,0,[],[],[]⟩):=by unfold a6O;rw [if_pos h0]
  exact out g1 _ 0 14 hp2 rfl (by omega) hq2 (by rw [hz,a8p])
 intro h0
 have h0:¬ l.length<4:=by
  have:¬ (l.length:Int)<4:=by simpa using h0
  omega
 obtain ⟨d4,e4,s4'⟩:=c1D hd (k := .i64) (n:=4) (by omega) (by omega)
 have s4':SlOf 1 byr (l.take 4) d4:=s4'
 have hl4:(l.take 4).length=4:=by simp;omega
 have hu4:∀ z∈l.take 4,U8 z:=fun z hz=>hu z (List.mem_of_mem_take hz)
 have e14:=c1y _ d4 g1 s4' (by omega) hu4
 obtain ⟨n0,n1⟩:=a3S 4 _ hl4 hu4
 rw [a8T] at n1
 have w5:IntKind.wrap .i64 (num (l.take 4))=num (l.take 4):=wrap_i64 (by omega) (by omega)
 have w6:IntKind.wrap .i64 ((l.length:Int) - 4)=(l.length:Int) - 4:=wrap_i64 (by omega) (by omega)
 generalize hN:num (l.take 4)=N at *
 obtain ⟨n,rfl⟩:=Int.eq_ofNat_of_zero_le n0
 simp only [e0r] at hck
 simp only [bs,e4,e14,a5Z,w5,a0o,a0v]
 by_cases hbad:(n:Int)<4∨(l.length:Int) - 4<(n:Int)
 ·have hz:a6O c l=(14,0,⟨[],0,0,0,0,[],0,0,[],[],[]⟩):=by unfold a6O;rw [if_neg h0,hN,if_pos hbad]
  by_cases c1:(n:Int)<4
  ·simp only [c1,decide_true,reduceCtorEq,e0j,if_false,bs,a0g,if_true,a0d]
   exact out g1 _ 0 14 hp2 rfl (by omega) hq2 (by rw [hz,a8p])
  ·have c2:(n:Int)>(l.length:Int) - 4:=by omega
   simp only [c1,decide_false,if_true,bs,a1z hd,a0N,w6,a0x,c2,decide_true,reduceCtorEq,e0j,e0i,if_false,a0g,a0d]
   exact out g1 _ 0 14 hp2 rfl (by omega) hq2 (by rw [hz,a8p])
 have c1:¬ (n:Int)<4:=by omega
 have c2:¬ (n:Int)>(l.length:Int) - 4:=by omega
 simp only [c1,decide_false,if_true,bs,a1z hd,a0N,w6,a0x,c2,reduceCtorEq,e0j,e0i,if_false,a0g,a0d]
 obtain ⟨dn,en,sn⟩:=c1D hd (k := .i64) (n:=(n:Int)) (by omega) (by omega)
 rw [e0r] at sn
 have e29:=c9M (l.take n) dn g1 (.inl sn) (by simp;omega) (fun z hz=>hu z (List.mem_of_mem_take hz))
 have w7:IntKind.wrap .i64 ((n:Int)+4)=((n+4:Nat):Int):=by rw [wrap_i64 (by omega) (by omega)];omega
 obtain ⟨dc,ec,sc⟩:=b6G hd n (n+4) (by omega) (by omega)
 have lc:(l.take (n+4)).drop n=(l.drop n).take 4:=by rw [List.drop_take];congr 1;omega
 rw [lc] at sc
 have e35:=c1y _ dc g1 sc (by simp;omega) (fun z hz=>hu z (List.mem_of_mem_drop (List.mem_of_mem_take hz)))
 simp only [en,e29,a0r,w7,ec,e35,bs,a0A]
 refine Wp.dif ?_ ?_
 ·intro h1
  have h1:a4q (l.take n)≠num ((l.drop n).take 4):=by simpa using h1
  have hz:a6O c l=(15,0,⟨[],0,0,0,0,[],0,0,[],[],[]⟩):=by unfold a6O;rw [if_neg h0,hN,if_neg hbad];simp only [e0r];rw [if_pos h1]
  exact out g1 _ 0 15 hp2 rfl (by omega) hq2 (by rw [hz,a8p])
 intro h1
 have h1:¬ a4q (l.take n)≠num ((l.drop n).take 4):=by simpa using h1
 obtain ⟨db,eb,sb⟩:=b6G hd 4 n (by omega) (by omega)
 have eb:a0D tab a0L true true false [d,.int .i64 4,.int .i64 n]=some db:=eb
 have hp6:(a0C g1 a0z 11 [itr zit])[h.length+1]?=some (.row a0z 11 [itr zit]):=by rw [← hl2];exact a0Z _ _ _ _
 have hp62:(a0C g1 a0z 11 [itr zit])[h.length]?=some (.row a0z 11 [itr zit]):=by rw [a0H _ _ _ _ (by omega)];exact hp2
 have hl6:(a0C g1 a0z 11 [itr zit]).length=h.length+2:=by simp [-bind_some, a0C,hl2]
 have hq6:∀ q,q<h.length→(a0C g1 a0z 11 [itr zit])[q]?=h[q]?:=fun q hq=>by rw [a0H _ _ _ _ (by omega)];exact hq2 q hq
 simp only [bs,hl2]
 generalize a0C g1 a0z 11 [itr zit]=g2 at *
 have hbc:a0U tab a1O [0] [db]=some (.agg [db,.bool false]):=c0h db (a0X sb)
 simp only [eb,hbc,bs,a3l a1O 2 g2 [db,.bool false] rfl (by omega),hl6]
 have hc0:(a0C g2 a1O 2 [[db,.bool false]])[h.length+2]?=some (.row a1O 2 [[db,.bool false]]):=by rw [← hl6];exact a0Z _ _ _ _
 have hi0:(a0C g2 a1O 2 [[db,.bool false]])[h.length+1]?=some (.row a0z 11 [itr zit]):=by rw [a0H _ _ _ _ (by omega)];exact hp6
 have hr0:(a0C g2 a1O 2 [[db,.bool false]])[h.length]?=some (.row a0z 11 [itr zit]):=by rw [a0H _ _ _ _ (by omega)];exact hp62
 have hq0:∀ q,q<h.length+1→(a0C g2 a1O 2 [[db,.bool false]])[q]?=g2[q]?:=fun q hq=>a0H _ _ _ _ (by omega)
 generalize a0C g2 a1O 2 [[db,.bool false]]=g3 at *
 have V0:ViS (h.length+1) (h.length+1) (h.length+2) g2 g3 (itc [] 0 0 0 0 .nils 0 0 [] [] .nils) ((l.take n).drop 4,false) :=
  ⟨hi0,⟨db,hc0,sb,fun z hz=>hu z (List.mem_of_mem_take (List.mem_of_mem_drop hz)),by simp;omega⟩,hq0,by omega,by omega⟩
 refine d6T V0 fun g4 ld fd V4 owL owF=>?_
 generalize hSt:(((l.take n).drop 4,false):Cur)=st at *
 obtain ⟨dd,k1,k2,k3,k4⟩:=V4.hc
 obtain ⟨m1,m2⟩:=c0D k1
 have hr4:g4[h.length]?=some (.row a0z 11 [itr zit]):=by rw [V4.lo h.length (by omega)];exact hp62
 have hq4:∀ q,q<h.length→g4[q]?=h[q]?:=fun q hq=>by rw [V4.lo q (by omega)];exact hq6 q hq
 have hl4':h.length≤g4.length:=by have:=(e0y.1 hr4).1;omega
 have ldi:a0c tab g4 a0z (.ptr (h.length+1) 0 0)=some (.agg ((a1T st).row ld fd)):=by rw [b2y,a0F V4.hi];rfl
 have hsl:st.1.length≤1000000000:=by rw [← hSt];simp [-bind_some];omega
 obtain ⟨hLl,hFl⟩:=c1J st
 have hLl:(a1T st).ls.length≤9223372036854775807:=by omega
 have hFl:(a1T st).fs.length≤9223372036854775807:=by omega
 simp only [bs,a0s,a2p,a6f,m1,m2,a0v,a1z k2]
 have hzd:∀ x:Prop,a6O c l=if (b5U st).2=true∨0<(b5U st).1.length∨c≠0 then (1,0,⟨[],0,0,0,0,[],0,0,[],[],[]⟩) else (0,4+(n:Int),a1T st):=fun _=>by
  unfold a6O
  rw [if_neg h0,hN,if_neg hbad]
  simp only [e0r]
  rw [if_neg h1,hSt]
 have hzd:=hzd True
 cases hbd:(b5U st).2 with
 | true =>
  have hz:a6O c l=(1,0,⟨[],0,0,0,0,[],0,0,[],[],[]⟩):=by rw [hzd,if_pos (.inl hbd)]
  simp only [reduceCtorEq,e0j,if_false,bs,a0g,if_true,a0v,a0Y,a0d]
  exact out g4 _ 0 1 hr4 rfl hl4' hq4 (by rw [hz,a8p])
 | false =>
  simp only [if_true,bs,a0s,a2p,m1,a1z k2,a0x]
  by_cases hlen:0<(b5U st).1.length
  ·have hz:a6O c l=(1,0,⟨[],0,0,0,0,[],0,0,[],[],[]⟩):=by rw [hzd,if_pos (.inr (.inl hlen))]
   have hd1:decide (((b5U st).1.length:Int)>0)=true:=by simp only [decide_eq_true_eq];omega
   simp only [hd1,reduceCtorEq,e0j,e0i,if_false,bs,a0g,if_true,a0v,a0Y,a0d]
   exact out g4 _ 0 1 hr4 rfl hl4' hq4 (by rw [hz,a8p])
  ·have hd1:decide (((b5U st).1.length:Int)>0)=false:=by simp only [decide_eq_false_iff_not];omega
   have sL:=b5f (n:=1) owL (fun a _=>b8t g4 1 a)
   have sF:=b5f (n:=1) owF (fun a _=>c0T g4 1 a)
   have hsn:b2L g4 3 (.agg ((a1T st).row ld fd)) = .agg (itr (d0B (a1T st) _ _ sL sF hLl hFl)):=rfl
   have hcall:=hck (d0B (a1T st) _ _ sL sF hLl hFl) (c4E _ _ _ _ _ _ _) (g4.map fun _ => .dead)
   have hokv:(D.agg ((a1T st).row ld fd)).okv=true:=by
    clear hcall hsn sL sF V4 ldi
    rcases owL with ⟨rfl,_⟩ | ⟨_,_,rfl,_⟩ <;> rcases owF with ⟨rfl,_⟩ | ⟨_,_,rfl,_⟩ <;> rfl
   have hcB:a5W R a6h [.agg ((a1T st).row ld fd)] g4=some (.int .i64 c,g4):=by
    unfold a5W
    simp only [e0p,e0q,hsn,hcall]
    rfl
   simp only [hd1,if_true,e0i,if_false,bs,a0g,a0v,ldi,a0Y,hcB,a0A]
   by_cases hc:c=0
   ·have hz:a6O c l=(0,4+(n:Int),a1T st):=by
      rw [hzd,if_neg]
      rintro (hx | hx | hx)
      ·rw [hbd] at hx;cases hx
      ·exact hlen hx
      ·exact hx hc
    rw [hc] at hz
    have w8:IntKind.wrap .i64 (4+(n:Int))=4+(n:Int):=wrap_i64 (by omega) (by omega)
    simp only [hc,ne_eq,not_true,decide_false,a0d,e0i,if_false,bs,ldi,a0r,w8]
    refine a6K (kk:=0) (off:=0) (row:=itr zit) (v := .agg ((a1T st).row ld fd)) hr4 (by rfl) (by rfl) (by exact Nat.le_refl _) hokv fun g5 h5 s5=>?_
    have h5:g5[h.length]?=some (.row a0z 11 [(a1T st).row ld fd]):=h5
    have ld5:a0c tab g5 a0z (.ptr h.length 0 0)=some (.agg ((a1T st).row ld fd)):=by rw [b2y,a0F h5];rfl
    have owL5:Own g5 (h.length+1) a1Z 3 ((a1T st).ls.map a1D) ld:=owL.keep fun q hq _=>s5.2 q (by omega)
    have owF5:Own g5 (h.length+1) a0T 2 ((a1T st).fs.map fld) fd:=owF.keep fun q hq _=>s5.2 q (by omega)
    have fL:=a1R (n0:=h.length) (n:=1) owL5 (by omega) (fun a _=>a3c _ g5 1 a)
    have fF:=a1R (n0:=h.length) (n:=1) owF5 (by omega) (fun a _=>a4y _ g5 1 a)
    simp only [ld5,bs,a8a]
    rw [a0M (d' := .tup [.agg (itr (d0B (a1T st) _ _ fL fF hLl hFl)),.int .i64 (4+(n:Int)),.int .i64 0]) rfl (by
     refine .tup _ fun d hd=>?_
     simp at hd
     rcases hd with rfl | rfl | rfl
     ·exact a6n _ _
     ·constructor
     ·constructor) (by rw [s5.1];exact hl4') (fun q hq=>by rw [s5.2 q (by omega)];exact hq4 q hq)]
    exact .some ⟨rfl,_,by rw [hz],by rw [hz];rfl⟩
   ·have hz:a6O c l=(1,0,⟨[],0,0,0,0,[],0,0,[],[],[]⟩):=by rw [hzd,if_pos (.inr (.inr hc))]
    simp only [hc,ne_eq,not_false_eq_true,decide_true,a0d,if_true,bs]
    exact out g4 _ 0 1 hr4 rfl hl4' hq4 (by rw [hz,a8p])
theorem c9x (l:List Int) (d:D) (h:Hp) (hd:RdB h l d) (hl:l.length≤9223372036854775807):R b7y [d] h=some (.int .u32 (crc l),h):=by
 apply Wp.val
 rw [d1A]
 simp only [c6g,bs,e0h,a6H hd]
 refine Wp.loop (fun k ds g=>g=h∧∃ a b c e,∃ i:Nat,ds=[.int .u32 (b5X 4294967295 (l.take i)),a,.int .i64 i,b,c,e]∧k+i=l.length) (fun r=>r.1 = .ext 0∧r.2.2=h∧nth 0 r.2.1 = .int .u32 (b5X 4294967295 l)) l.length ⟨rfl,_,_,_,_,0,rfl,rfl⟩ ?_ ?_
 ·rintro k ds g ⟨rfl,a,b,c,e,i,rfl,hk⟩
  simp only [b3e,a0e,a0m,bs,e0h,a0o]
  refine Wp.dif ?_ ?_
  ·intro h0
   have h0:i<l.length:=dl_ h0
   have hg:l[i]?=some l[i]:=e0x h0
   have htk:l.take (i+1)=l.take i++[l[i]]:=by rw [e0u,hg];rfl
   generalize l[i]=z at hg htk
   have hw:=wi_ i (by omega)
   obtain ⟨qq,q1,q2⟩:=b9b hd i z hg
   simp only [q1,q2,bs,b6J,a7n]
   have hst:b1N 8 (IntKind.wrap .u32 (BitVec.ofInt IntKind.u32.bits (b5X 4294967295 (l.take i)) ^^^ BitVec.ofInt IntKind.u32.bits (IntKind.wrap .u32 z)).toNat)=b5X 4294967295 (l.take (i+1)):=by rw [htk,a7E];rfl
   refine d5s g _ (by rw [a5G];exact a8w _) _ fun a b=>?_
   simp only [a0l,a1u,a0k,a0e,a0m,bs,a0r,hw,hst]
   exact .some (.inl ⟨rfl,k - 1,by omega,rfl,_,_,_,_,i+1,rfl,by omega⟩)
  ·intro h0
   have h0:i=l.length:=by
    have:¬ (i:Int)<l.length:=by simpa using h0
    omega
   subst h0
   exact .some (.inr ⟨by simp,rfl,rfl,by simp⟩)
 ·rintro ⟨x,ds,g⟩ ⟨rfl,rfl,hx⟩
  replace hx:nth 0 ds=_:=hx
  simp only [a0l,a0k,a0e,bs,hx,b6P,a0j]
  exact .some rfl
theorem b9l (ps:List (List Int × D)) (d:D) (h:Hp) (hd:SlOf 1 (fun p:List Int × D=>[p.2]) ps d) (hps:∀ p∈ps,RdB h p.1 p.2) (htot:((ps.map (·.1)).flatten).length≤1000000000) (hpl:ps.length≤1000000000):∃ d' h',R a8H [d] h=some (d',h')∧Own h' h.length ty5 1 (((ps.map (·.1)).flatten).map byr) d'∧h.length≤h'.length∧∀ q,q<h.length→h'[q]?=h[q]?:=by
 suffices Wp (R a8H [d] h) (fun r=>Own r.2 h.length ty5 1 (((ps.map (·.1)).flatten).map byr) r.1∧h.length≤r.2.length∧∀ q,q<h.length→r.2[q]?=h[q]?) by
  obtain ⟨⟨x,h'⟩,h1,h2⟩:=this
  exact ⟨x,h',h1,h2⟩
 have hcl:∀ i,(((ps.take i).map (·.1)).flatten).length≤((ps.map (·.1)).flatten).length:=fun i=>by
  have:((ps.take i).map (·.1)).flatten++((ps.drop i).map (·.1)).flatten=(ps.map (·.1)).flatten:=by
   rw [← List.flatten_append,← e0o,List.take_append_drop]
  rw [← this];simp [-bind_some]
 have hcs:∀ i p,ps[i]?=some p→((ps.take (i+1)).map (·.1)).flatten=((ps.take i).map (·.1)).flatten++p.1:=fun i p hp=>by
  rw [e0u,hp];simp [-bind_some]
 rw [d1w]
 simp only [c6d,bs,e0h,b4R hd]
 refine Wp.loop (fun k ds g=>g=h∧∃ a b c,∃ i:Nat,ds=[.int .i64 (((ps.take i).map (·.1)).flatten).length,a,.int .i64 i,b,c]∧k+i=ps.length)
  (fun r=>r.1 = .ext 0∧r.2.2=h∧nth 0 r.2.1 = .int .i64 ((ps.map (·.1)).flatten).length) ps.length ⟨rfl,_,_,_,0,rfl,rfl⟩ ?_ ?_
 ·rintro k ds g ⟨rfl,a,b,c,i,rfl,hk⟩
  simp only [b3b,a0e,a0m,bs,e0h,a0o]
  refine Wp.dif ?_ ?_
  ·intro h0
   have h0:i<ps.length:=dl_ h0
   have hg:ps[i]?=some ps[i]:=e0x h0
   generalize ps[i]=p at hg
   have hp:=hps p (e0w hg)
   have hw:=wi_ i (by omega)
   have h1:=hcs i p hg
   have h2:=hcl (i+1)
   have hw2:IntKind.wrap .i64 ((((ps.take i).map (·.1)).flatten.length:Int)+p.1.length)=(((ps.take (i+1)).map (·.1)).flatten).length:=by
    rw [h1] at h2 ⊢
    simp only [e0m] at h2 ⊢
    rw [wrap_i64 (by omega) (by omega)];omega
   have hnn:¬ ((((ps.take (i+1)).map (·.1)).flatten.length:Int)<0):=by omega
   simp only [b2u hd,Int.natCast_nonneg,if_true,e0r,hg,Option.map_some,bs,d5y,a6H hp,a0r,hw2,hw,hnn,decide_false,a0d,e0i,if_false,a1u,a0k]
   exact .some (.inl ⟨rfl,k - 1,by omega,rfl,_,_,_,i+1,rfl,by omega⟩)
  ·intro h0
   have h0:i=ps.length:=by
    have:¬ (i:Int)<ps.length:=by simpa using h0
    omega
   subst h0
   exact .some (.inr ⟨by simp,rfl,rfl,by simp⟩)
 ·rintro ⟨x,ds,g⟩ ⟨rfl,rfl,hx⟩
  replace hx:nth 0 ds=_:=hx
  simp only [a0l,a0k,a0e,bs,hx,d5R _ g (Int.natCast_nonneg _) (by omega:((((ps.map (·.1)).flatten).length:Nat):Int)≤1000000000)]
  generalize htt:((ps.map (·.1)).flatten).length=tot at *
  have hcase:∃ x0 g0,(if (tot:Int)=0 then some (D.nils,g) else some (.msl 1 g.length 0 0,a0C g ty5 1 (List.replicate (tot:Int).toNat zby)))=some (x0,g0)∧g.length≤g0.length∧(∀ q,q<g.length→g0[q]?=g[q]?)∧((tot=0∧x0 = .nils)∨(x0 = .msl 1 g.length 0 0∧g0[g.length]?=some (.row ty5 1 (List.replicate tot zby)))):=by
   by_cases hz:tot=0
   ·subst hz
    exact ⟨_,_,by simp,Nat.le_refl _,fun _ _=>rfl,.inl ⟨rfl,rfl⟩⟩
   ·refine ⟨.msl 1 g.length 0 0,a0C g ty5 1 (List.replicate tot zby),by simp [-bind_some, hz],by simp [-bind_some, a0C],fun q hq=>?_,.inr ⟨rfl,by simp [-bind_some, a0C]⟩⟩
    simp only [a0C];rw [e0H hq]
  obtain ⟨x0,g0,e0,len0,bel0,hx0⟩:=hcase
  refine Wp.step e0 ?_
  simp only [bs]
  refine Wp.loop (fun k ds g'=>∃ x a b,∃ i:Nat,ds=[x,a,.int .i64 i,b]∧k+i=ps.length∧g.length≤g'.length∧(∀ q,q<g.length→g'[q]?=g[q]?)∧((tot=0∧x = .nils)∨(x = .msl 1 g.length 0 (((ps.take i).map (·.1)).flatten.map byr).length∧g'[g.length]?=some (.row ty5 1 (((ps.take i).map (·.1)).flatten.map byr++List.replicate (tot - (((ps.take i).map (·.1)).flatten).length) zby)))))
   (fun r=>r.1 = .ext 2∧g.length≤r.2.2.length∧(∀ q,q<g.length→r.2.2[q]?=g[q]?)∧((tot=0∧nth 0 r.2.1 = .nils)∨(nth 0 r.2.1 = .msl 1 g.length 0 tot∧r.2.2[g.length]?=some (.row ty5 1 ((ps.map (·.1)).flatten.map byr))))) ps.length ⟨x0,_,_,0,rfl,rfl,len0,bel0,by simpa using hx0⟩ ?_ ?_
  ·rintro k ds g' ⟨x,a,b,i,rfl,hk,len,bel,hxx⟩
   simp only [b3c,a0e,a0m,bs,e0h,a0o]
   refine Wp.dif ?_ ?_
   ·intro h0
    have h0:i<ps.length:=dl_ h0
    have hg:ps[i]?=some ps[i]:=e0x h0
    generalize ps[i]=p at hg
    have hp:RdB g' p.1 p.2:=(hps p (e0w hg)).keep fun q T z rows hq=>bel q (e0y.1 hq).1
    have hw:=wi_ i (by omega)
    have h1:=hcs i p hg
    have h2:=hcl (i+1)
    rw [h1,e0m] at h2
    simp only [b2u hd,Int.natCast_nonneg,if_true,e0r,hg,Option.map_some,bs,d5y]
    rcases hxx with ⟨hz,rfl⟩ | ⟨rfl,hgo⟩
    ·have hp0:p.1=[]:=List.length_eq_zero_iff.1 (by omega)
     have e3:a0q tab g' a0L a0L .nils p.2=some (.nils,g'):=by
      have hd:a6t g' ti22 ti5 p.2=some []:=by
       simp only [a6t,b0q,b5n,a4g hp,hp0]
       rfl
      unfold a0q
      simp only [b2O,b0q,b9F,hd,b5n,c7z]
     refine Wp.step e3 ?_
     simp only [a0r,bs,hw]
     exact .some (.inl ⟨rfl,k - 1,by omega,_,_,_,i+1,rfl,by omega,len,bel,.inl ⟨hz,rfl⟩⟩)
    ·obtain ⟨g3,e3,hg3,s3⟩:=c0c (T:=tab) (t:=a0L) (i:=ti22) (j:=ti5) (id rfl) (id rfl) (id rfl) (by decide) hgo (a4g hp) (a2n (by rw [c9W];simp only [e0n];omega) (by simp only [e0n];omega)) (by simp only [e0n,List.length_replicate];omega)
     refine Wp.step e3 ?_
     simp only [bs,a0r,hw]
     refine .some (.inl ⟨rfl,k - 1,by omega,_,_,_,i+1,rfl,by omega,by rw [s3.1];exact len,fun q hq=>(s3.2 q (by omega)).trans (bel q hq),.inr ⟨?_,?_⟩⟩)
     ·rw [h1];simp [-bind_some];rfl
     ·refine hg3.trans ?_
      rw [h1]
      simp only [e0o,e0n,List.drop_replicate,e0m]
      congr 4
      omega
   ·intro h0
    have h0:i=ps.length:=by
     have:¬ (i:Int)<ps.length:=by simpa using h0
     omega
    subst h0
    refine .some (.inr ⟨by simp,rfl,len,bel,?_⟩)
    rcases hxx with ⟨h1,rfl⟩ | ⟨rfl,hgo⟩
    ·exact .inl ⟨h1,rfl⟩
    ·right
     rw [e0G] at hgo ⊢
     simp only [a0e,e0n,htt] at hgo ⊢
     simpa using hgo
  ·rintro ⟨ex,ds,g'⟩ ⟨rfl,len,bel,hxx⟩
   simp only [a0l,a0k,bs,a0j]
   rcases hxx with ⟨h1,hx⟩ | ⟨hx,hgo⟩
   ·replace hx:nth 0 ds=_:=hx
    rw [hx]
    refine .some ⟨.inl ⟨rfl,?_⟩,len,bel⟩
    rw [List.map_eq_nil_iff]
    exact List.length_eq_zero_iff.1 (by omega)
   ·replace hx:nth 0 ds=_:=hx
    rw [hx]
    exact .some ⟨.inr ⟨g.length,Nat.le_refl _,by rw [e0n,htt],hgo⟩,len,bel⟩
theorem c2X (l p:List Int) (dl dp:D) (h:Hp) (hl:SlOf 1 byr l dl) (hp:SlOf 1 byr p dp) (hn:(l++p).length≤1000000000):R b4l [dl,dp] h=some (.int .u32 (crc (l++p)),h):=by
 rw [d1x]
 obtain ⟨d',h',e1,ow,len,old⟩:=b9l [(l,dl),(p,dp)] (.sl 1 true [[dl],[dp]]) h (SlOf.mk 1 (fun p:List Int × D=>[p.2]) [(l,dl),(p,dp)] true) (by
  intro q hq
  simp only [e0D,List.not_mem_nil,or_false] at hq
  rcases hq with rfl | rfl
  ·exact .inl hl
  ·exact .inl hp) (by simpa using hn) (by simp)
 have ow:Own h' h.length ty5 1 ((l++p).map byr) d':=by simpa using ow
 simp only [c6e,bs,c0p dl dp (a0X hl) (a0X hp),e1,c9x _ _ h' (RdB.own ow) (by omega),a0j]
 exact a0M (by simp) (.int _ _) len old
theorem c2W (j p:List Int) (dj dp:D) (h:Hp) (hj:SlOf 1 byr j dj) (hp:SlOf 1 byr p dp) (hjl:j.length≤100000000) (hpl:p.length≤1000000000):∃ d',R b4k [dj,dp] h=some (.tup [d',.int .i64 (a7r j p)],h)∧SlOf 1 byr (a8O j p) d':=by
 rw [d1t]
 have hsn:∀ n:Int,scope h h (.tup [.nils,.int .i64 n])=some (.tup [.nils,.int .i64 n],h):=fun n=>a0M (by simp) (.tup _ fun d hd=>by simp at hd;rcases hd with rfl | rfl <;> constructor) (Nat.le_refl _) fun _ _=>rfl
 have w1:=wrap_i64 (n:=(j.length:Int)+8) (by omega) (by omega)
 have w2:=wrap_i64 (n:=(j.length:Int)+8+p.length) (by omega) (by omega)
 by_cases h0:p.length=0
 ·have he:a7r j p=3:=by simp [-bind_some, a7r,h0]
  exact ⟨.nils,by simp [-bind_some, b6a,a1z hp,h0,he,hsn],.inl ⟨rfl,by simp [-bind_some, a8O,he]⟩⟩
 have hpn:¬ p=[]:=by intro hh;subst hh;simp at h0
 by_cases h1:8388608<p.length
 ·have he:a7r j p=3:=by simp [-bind_some, a7r,h0,h1]
  have h1':(8388608:Int)<p.length:=by omega
  have h0':¬ (p.length:Int)=0:=by omega
  exact ⟨.nils,by simp [-bind_some, b6a,a1z hp,hpn,h1',he,hsn],.inl ⟨rfl,by simp [-bind_some, a8O,he]⟩⟩
 have h1':¬ (8388608:Int)<p.length:=by omega
 have h0':¬ (p.length:Int)=0:=by omega
 by_cases h2:67108864<j.length+8+p.length
 ·have he:a7r j p=16:=by simp [-bind_some, a7r,h0,h1,h2]
  have h2':(67108864:Int)<j.length+8+p.length:=by omega
  exact ⟨.nils,by simp [-bind_some, b6a,a1z hp,a1z hj,hpn,h1',w1,w2,h2',he,hsn],.inl ⟨rfl,by simp [-bind_some, a8O,he]⟩⟩
 have h2':¬ (67108864:Int)<j.length+8+p.length:=by omega
 have he:a7r j p=0:=by simp [-bind_some, a7r,h0,h1,h2]
 have hw:IntKind.wrap .u32 (p.length:Int)=p.length:=a3C (by omega) (by omega)
 have hsum:=c2X (a2A p.length) p _ dp h (SlOf.mk 1 byr (a2A p.length) true) hp (by simp [-bind_some, a2K];omega)
 obtain ⟨d',h',e1,ow,len,old⟩:=b9l [(j,dj),(a2A p.length,.sl 1 true ((a2A p.length).map byr)),(a2A (crc (a2A p.length++p)),.sl 1 true ((a2A (crc (a2A p.length++p))).map byr)),(p,dp)]
  (.sl 1 true [[dj],[.sl 1 true ((a2A p.length).map byr)],[.sl 1 true ((a2A (crc (a2A p.length++p))).map byr)],[dp]]) h (SlOf.mk 1 (fun p:List Int × D=>[p.2]) [(j,dj),(a2A p.length,.sl 1 true ((a2A p.length).map byr)),(a2A (crc (a2A p.length++p)),.sl 1 true ((a2A (crc (a2A p.length++p))).map byr)),(p,dp)] true)
  (by
   intro q hq
   simp only [e0D,List.not_mem_nil,or_false] at hq
   rcases hq with rfl | rfl | rfl | rfl
   ·exact .inl hj
   ·exact .inl (SlOf.mk _ _ _ _)
   ·exact .inl (SlOf.mk _ _ _ _)
   ·exact .inl hp) (by simp [-bind_some, a2K];omega) (by simp)
 have ow:Own h' h.length ty5 1 ((a8O j p).map byr) d':=by simpa [-bind_some, a8O,he] using ow
 have hsl:=a1R (n0:=h.length) (n:=2) ow (Nat.le_refl _) (fun a _=>a5s _ h' 2 a)
 have hl4:=c0r dj (.sl 1 true ((a2A p.length).map byr)) (.sl 1 true ((a2A (crc (a2A p.length++p))).map byr)) dp (a0X hj) rfl rfl (a0X hp)
 have hend:scope h h' (.tup [d',.int .i64 0])=some (.tup [frz h.length h' 3 d',.int .i64 0],h):=a0M (by simp) (by
  refine .tup _ fun d hd=>?_
  simp at hd
  rcases hd with rfl | rfl
  ·exact a1b hsl fun a _=>a7C _ a
  ·constructor) len old
 refine ⟨frz h.length h' 3 d',?_,hsl⟩
 simp [-bind_some, b6a,a1z hp,a1z hj,hpn,h1',w1,w2,h2',he,hw,c4O,hsum,hl4,e1,hend]
theorem c9v (h:Hp):R b7u [] h=some (.bool true,h):=by
 rw [d1s]
 obtain ⟨d',e1,hs⟩:=c2W [] [1] .nils (.sl 1 true [[.int .u8 1]]) h (SlOf.nils _ _) (SlOf.mk 1 byr [1] true) (by simp) (by simp)
 have h0:a7r [] [1]=0:=by decide
 have h1:(a8O [] [1]).length=9:=by simp [-bind_some, a8O,h0,a2K]
 rw [h0] at e1
 simp [-bind_some, c6b,e1,a1z hs,h1]
theorem c9I (l:List Int) (d:D) (h:Hp) (hd:SlOf 1 byr l d) (hl:l.length≤100000000) (hu:∀ z∈l,U8 z):∃ x,R b4u [d] h=some (.tup [x,.int .i64 (rd l).2],h)∧b6d (rd l).1 x:=by
 suffices Wp (R b4u [d] h) (fun p=>p.2=h∧∃ x,p.1 = .tup [x,.int .i64 (rd l).2]∧b6d (rd l).1 x) by
  obtain ⟨⟨x,h'⟩,h1,rfl,d',rfl,h2⟩:=this
  exact ⟨d',h1,h2⟩
 rw [d2g]
 simp only [c6K,bs,e0h]
 refine Wp.loop (fun k ds g=>h.length≤g.length∧(∀ q,q<h.length→g[q]?=h[q]?)∧∃ x a2 a3 a4 a5 a6 a7 a8,∃ n:Nat,∃ qs:List (List Int × D),ds=[x,.int .i64 n,a2,a3,a4,a5,a6,a7,a8]∧k+n=l.length∧n≤l.length∧qs.length≤n∧Own g h.length a0L 1 (qs.map fun p=>[p.2]) x∧(∀ p∈qs,SlOf 1 byr p.1 p.2)∧(rd l).1=qs.map (·.1)++(rd (l.drop n)).1∧(rd l).2=n+(rd (l.drop n)).2)
  (fun r=>r.1 = .ext 0∧h.length≤r.2.2.length∧(∀ q,q<h.length→r.2.2[q]?=h[q]?)∧∃ x a2 a3 a4 a5 a6 a7 a8,∃ v:Nat,∃ qs:List (List Int × D),r.2.1=[x,.int .i64 v,a2,a3,a4,a5,a6,a7,a8]∧Own r.2.2 h.length a0L 1 (qs.map fun p=>[p.2]) x∧(∀ p∈qs,SlOf 1 byr p.1 p.2)∧(rd l).1=qs.map (·.1)∧(rd l).2=v) l.length
  ⟨Nat.le_refl _,fun _ _=>rfl,_,_,_,_,_,_,_,_,0,[],rfl,rfl,by omega,by simp,Own.nils _ _ _ _,by simp,by simp,by simp⟩ ?_ ?_
 ·rintro k ds g ⟨hg,hq,x,a2,a3,a4,a5,a6,a7,a8,n,qs,rfl,hk,hnl,hqn,ow,hs,r1,r2⟩
  have w0:IntKind.wrap .i64 ((l.length:Int) - n)=(l.length:Int) - n:=wrap_i64 (by omega) (by omega)
  simp only [b3n,a0e,a0m,bs,e0h,a1z hd,a0N,w0,a2Y]
  have stop:Stop (l.drop n)→(rd l).1=qs.map (·.1)∧(rd l).2=n:=fun hst=>by
   rw [b9f hst] at r1 r2
   exact ⟨by simpa using r1,by simpa using r2⟩
  refine Wp.dif ?_ ?_
  ·intro h0
   have h0:n+8≤l.length:=by
    have:(8:Int)≤(l.length:Int) - n:=by simpa using h0
    omega
   have w1:IntKind.wrap .i64 ((n:Int)+4)=((n+4:Nat):Int):=by rw [wrap_i64 (by omega) (by omega)];omega
   have w2:IntKind.wrap .i64 ((n:Int)+8)=((n+8:Nat):Int):=by rw [wrap_i64 (by omega) (by omega)];omega
   obtain ⟨d6,e6,s6⟩:=b1Y g hd n (n+4) (by omega) (by omega)
   have l6:(l.take (n+4)).drop n=(l.drop n).take 4:=by rw [List.drop_take];congr 1;omega
   rw [l6] at s6
   have hl4:((l.drop n).take 4).length=4:=by simp;omega
   have hu4:∀ z∈(l.drop n).take 4,U8 z:=fun z hz=>hu z (List.mem_of_mem_drop (List.mem_of_mem_take hz))
   have en:=c2Z _ d6 g s6 hl4 hu4
   have hN:=c1s hl4 hu4
   unfold U32 at hN
   generalize hNN:num ((l.drop n).take 4)=N at en hN
   have w3:IntKind.wrap .i64 N=N:=wrap_i64 (by omega) (by omega)
   obtain ⟨m,hm⟩:∃ m:Nat,N=m:=⟨N.toNat,by omega⟩
   subst hm
   have w4:IntKind.wrap .i64 ((l.length:Int) - ((n+8:Nat):Int))=(l.length:Int) - ((n+8:Nat):Int):=wrap_i64 (by omega) (by omega)
   have hpick:∀ (b1 b2 b3:Bool) (K:D→Option Out),((gd (.bool b1) false (some (.bool b2))).bind fun t31=>(a0R (.bool b1) (.bool true) t31).bind K)=K (.bool (b1||b2)):=fun b1 b2 b3 K=>by cases b1 <;> cases b2 <;> rfl
   by_cases hbad:m<1∨8388608<m∨l.length - n - 8<m
   ·have hst:Stop (l.drop n):=by
      unfold Stop
      rw [hNN,e0B]
      simp only [e0r]
      omega
    obtain ⟨q1,q2⟩:=stop hst
    have hb:(decide ((m:Int)<1)||(decide ((m:Int)>8388608)||decide ((m:Int)>(l.length:Int) - ((n+8:Nat):Int))))=true:=by
     simp only [Bool.or_eq_true,decide_eq_true_eq];omega
    simp only [a0r,w1,e6,bs,en,c2f,w3,w2,a0o,a0x]
    by_cases c1:(m:Int)<1
    ·simp only [c1,decide_true,a0v,reduceCtorEq,e0j,if_false,bs,a0g,a0d,if_true]
     exact .some (.inr ⟨by simp,rfl,hg,hq,_,_,_,_,_,_,_,_,n,qs,rfl,ow,hs,q1,q2⟩)
    ·by_cases c2:(m:Int)>8388608
     ·simp only [c1,c2,decide_true,decide_false,a0v,reduceCtorEq,e0j,if_false,if_true,bs,a0g,a0d,a0x]
      exact .some (.inr ⟨by simp,rfl,hg,hq,_,_,_,_,_,_,_,_,n,qs,rfl,ow,hs,q1,q2⟩)
     ·have c3:(m:Int)>(l.length:Int) - ((n+8:Nat):Int):=by omega
      simp only [c1,c2,c3,decide_true,decide_false,a0v,reduceCtorEq,e0j,e0i,if_false,if_true,bs,a0g,a0d,a0x,a1z hd,a0N,w4]
      exact .some (.inr ⟨by simp,rfl,hg,hq,_,_,_,_,_,_,_,_,n,qs,rfl,ow,hs,q1,q2⟩)
   ·have c1:¬ (m:Int)<1:=by omega
    have c2:¬ (m:Int)>8388608:=by omega
    have c3:¬ (m:Int)>(l.length:Int) - ((n+8:Nat):Int):=by omega
    have w5:IntKind.wrap .i64 (((n+8:Nat):Int)+(m:Int))=((n+8+m:Nat):Int):=by rw [wrap_i64 (by omega) (by omega)];omega
    obtain ⟨d9,e9,s9⟩:=b1Y g hd (n+8) (n+8+m) (by omega) (by omega)
    obtain ⟨d55,e55,s55⟩:=b1Y g hd (n+4) (n+8) (by omega) (by omega)
    have l9:(l.take (n+8+m)).drop (n+8)=((l.drop n).drop 8).take m:=by rw [List.drop_take,List.drop_drop];congr 1;omega
    have l55:(l.take (n+8)).drop (n+4)=((l.drop n).drop 4).take 4:=by rw [List.drop_take,List.drop_drop];congr 1;omega
    rw [l9] at s9
    rw [l55] at s55
    have hl55:(((l.drop n).drop 4).take 4).length=4:=by simp;omega
    have hu55:∀ z∈((l.drop n).drop 4).take 4,U8 z:=fun z hz=>hu z (List.mem_of_mem_drop (List.mem_of_mem_drop (List.mem_of_mem_take hz)))
    have e56:=c2Z _ d55 g s55 hl55 hu55
    have e59:=c2X _ _ d6 d9 g s6 s9 (by simp;omega)
    simp only [a0r,w1,e6,bs,en,c2f,w3,w2,a0o,a0x,c1,c2,c3,decide_true,decide_false,a0v,reduceCtorEq,e0j,e0i,if_false,if_true,a0g,a0d,a1z hd,a0N,w4,w5,e9,e55,e56,e59,a0A]
    by_cases hcrc:num (((l.drop n).drop 4).take 4)=crc ((l.drop n).take 4++((l.drop n).drop 8).take m)
    ·have hgo:¬ Stop (l.drop n):=by
       unfold Stop
       rw [hNN,e0B]
       simp only [e0r]
       rintro (h1 | h1 | h1 | h1 | h1)
       ·omega
       ·omega
       ·omega
       ·omega
       ·exact h1 hcrc
     rw [c9h hgo,hNN] at r1 r2
     simp only [e0r,List.drop_drop] at r1 r2
     simp only [hcrc,ne_eq,not_true,decide_false,a0d,e0i,if_false,bs,c0o d9 (a0X s9)]
     refine c5k hg ow (a1e _ _ _ _) (by simp;omega) fun x1 g1 ow1 len1 bel1 _ _=>?_
     simp only [bs,a0r,w5]
     refine .some (.inl ⟨rfl,k - (8+m),by omega,Nat.le_trans hg len1,fun q hq'=>(bel1 q hq').trans (hq q hq'),_,_,_,_,_,_,_,_,n+8+m,qs++[(((l.drop n).drop 8).take m,d9)],rfl,by omega,by omega,by simp;omega,?_,?_,?_,?_⟩)
     ·simpa using ow1
     ·intro p hp
      rcases e0E.1 hp with hp | hp
      ·exact hs p hp
      ·rw [List.mem_singleton.1 hp];exact s9
     ·rw [r1,List.drop_drop]
      simp only [e0o,e0p,e0q,List.append_assoc,List.singleton_append,Nat.add_assoc]
     ·rw [r2]
      simp only [Nat.add_assoc]
    ·have hst:Stop (l.drop n):=by
       unfold Stop
       rw [hNN]
       simp only [e0r]
       exact .inr (.inr (.inr (.inr hcrc)))
     obtain ⟨q1,q2⟩:=stop hst
     simp only [hcrc,ne_eq,not_false_eq_true,decide_true,a0d,if_true]
     exact .some (.inr ⟨by simp,rfl,hg,hq,_,_,_,_,_,_,_,_,n,qs,rfl,ow,hs,q1,q2⟩)
  ·intro h0
   have h0:¬ n+8≤l.length:=by
    have:¬ (8:Int)≤(l.length:Int) - n:=by simpa using h0
    omega
   obtain ⟨q1,q2⟩:=stop (.inl (by rw [e0B];omega))
   exact .some (.inr ⟨by simp,rfl,hg,hq,_,_,_,_,_,_,_,_,n,qs,rfl,ow,hs,q1,q2⟩)
 ·rintro ⟨ex,ds,g⟩ ⟨rfl,hg,hq,x,a2,a3,a4,a5,a6,a7,a8,v,qs,rfl,ow,hs,q1,q2⟩
  subst q2
  simp only [a0l,a0k,bs,a0e,a0m,a1d]
  have hsl:=a1R (f:=fun p:List Int × D=>[p.2]) (n0:=h.length) (n:=2) ow (Nat.le_refl _) (fun a ha d hd=>by
   simp at hd;subst hd
   exact a1P (n:=1) (hs a ha) fun b _=>a5s _ g 1 b)
  rw [a0M (d' := .tup [frz h.length g 3 x,.int .i64 (rd l).2]) (by simp) (by
   refine .tup _ fun d hd=>?_
   simp at hd
   rcases hd with rfl | rfl
   ·exact a1b hsl fun a ha d hd=>by simp at hd;subst hd;exact a1b (hs a ha) fun b _=>a7C _ b
   ·constructor) hg hq]
  exact .some ⟨rfl,_,rfl,qs,q1.symm,hsl,hs⟩
theorem b9M (n:Int):IntKind.wrap .u32 n=n % 4294967296:=by
 unfold IntKind.wrap
 simp [-bind_some, IntKind.signed,IntKind.bits,IntKind.min,IntKind.max]
theorem c0R (a:Int) (k:Nat):a.fdiv (2 ^ k)=a / 2 ^ k:=Int.fdiv_eq_ediv_of_nonneg _ (Int.le_of_lt (Int.pow_pos (by omega)))
theorem c5p (n:Int):a2A (IntKind.wrap .u32 ((IntKind.wrap .u64 n).fdiv (2 ^ 32)))++a2A (IntKind.wrap .u32 n)=pI n:=by
 unfold pI a2A
 simp only [a3X,a6s,b9M,a8n,c0R,List.cons_append,List.nil_append,Nat.reduceMul]
 simp only [Int.reducePow,Int.ediv_one]
 simp only [List.cons.injEq,and_true]
 refine ⟨by omega,by omega,by omega,by omega,by omega,by omega,by omega,by omega⟩
theorem c4K {h:Hp} {l:List Int} {d:D} (hd:RdB h l d):d.one=true:=by
 rcases hd with hd | ⟨o,rfl,_⟩
 ·exact a0X hd
 ·rfl
theorem c9O (l:List Int) (n:Int) (d:D) (h:Hp) (hd:RdB h l d) (hl:l.length≤100000000):∃ d' h',R b1m [d,.int .i64 n] h=some (d',h')∧Own h' h.length ty5 1 ((l++pI n).map byr) d'∧h.length≤h'.length∧∀ q,q<h.length→h'[q]?=h[q]?:=by
 have m32:min ((32:Int).toNat) IntKind.u64.bits=32:=by decide
 have hw:=c5p n
 generalize hA:a2A (IntKind.wrap .u32 ((IntKind.wrap .u64 n).fdiv (2 ^ 32)))=A at hw
 generalize hB:a2A (IntKind.wrap .u32 n)=B at hw
 have hlA:A.length=4:=by rw [← hA];rfl
 have hlB:B.length=4:=by rw [← hB];rfl
 obtain ⟨d',h',e1,ow,len,old⟩:=b9l [(l,d),(A,.sl 1 true (A.map byr)),(B,.sl 1 true (B.map byr))] (.sl 1 true [[d],[.sl 1 true (A.map byr)],[.sl 1 true (B.map byr)]]) h (SlOf.mk 1 (fun p:List Int × D=>[p.2]) [(l,d),(A,.sl 1 true (A.map byr)),(B,.sl 1 true (B.map byr))] true)
  (by
   intro q hq
   simp only [e0D,List.not_mem_nil,or_false] at hq
   rcases hq with rfl | rfl | rfl
   ·exact hd
   ·exact .inl (SlOf.mk _ _ _ _)
   ·exact .inl (SlOf.mk _ _ _ _)) (by simp;omega) (by simp)
 have hfl:(([(l,d),(A,.sl 1 true (A.map byr)),(B,.sl 1 true (B.map byr))]:List (List Int × D)).map (·.1)).flatten=l++pI n:=by rw [← hw];simp [-bind_some]
 rw [hfl] at ow
 refine ⟨d',h',?_,ow,len,old⟩
 rw [d2G]
 simp only [c7j,bs,a2D,a2E,show ¬ (32:Int)<0 by omega,if_false,m32,b6H,c4O,hA,hB,c2e,c0q d (.sl 1 true (A.map byr)) (.sl 1 true (B.map byr)) (c4K hd) rfl rfl,e1,a0j]
theorem b8M (b:List Int):∀ (a:List Int),num (a++b)=num a*256 ^ b.length+num b
 | []=>by simp [-bind_some, num]
 | z::a=>by
  rw [List.cons_append,b0c,b8M b a,b0c,e0m,Int.pow_add,Int.add_mul,Int.mul_assoc]
  omega
theorem b9n (l:List Int) (d:D) (h:Hp) (hd:SlOf 1 byr l d) (hl:4≤l.length) (hu:∀ z∈l,U8 z):R a5i [d] h=some (.int .u32 (num (l.take 4)),h):=by
 obtain ⟨a,b,c,e,r,rfl⟩:∃ a b c e r,l=a::b::c::e::r:=by
  match l,hl with
  | a::b::c::e::r,_=>exact ⟨a,b,c,e,r,rfl⟩
 obtain ⟨d0,e0,s0⟩:=c1D hd (k := .i64) (n:=4) (by omega) (by simp;omega)
 have s0:SlOf 1 byr [a,b,c,e] d0:=s0
 have key:=c9J a b c e d0 h s0 (hu a (by simp)) (hu b (by simp)) (hu c (by simp)) (hu e (by simp))
 rw [c7T] at key ⊢
 have i0:a0b tab a0L d (.int .i64 0)=some (.fptr (byr a)):=by rw [a5z hd];rfl
 have i1:a0b tab a0L d (.int .i64 1)=some (.fptr (byr b)):=by rw [a5z hd];rfl
 have i2:a0b tab a0L d (.int .i64 2)=some (.fptr (byr c)):=by rw [a5z hd];rfl
 have i3:a0b tab a0L d (.int .i64 3)=some (.fptr (byr e)):=by rw [a5z hd];rfl
 have j0:a0b tab a0L d0 (.int .i64 0)=some (.fptr (byr a)):=by rw [a5z s0];rfl
 have j1:a0b tab a0L d0 (.int .i64 1)=some (.fptr (byr b)):=by rw [a5z s0];rfl
 have j2:a0b tab a0L d0 (.int .i64 2)=some (.fptr (byr c)):=by rw [a5z s0];rfl
 have j3:a0b tab a0L d0 (.int .i64 3)=some (.fptr (byr e)):=by rw [a5z s0];rfl
 simp only [b9W,bs,j0,j1,j2,j3] at key
 simp only [b9W,bs,i0,i1,i2,i3]
 exact key
theorem c9P (l:List Int) (d:D) (h:Hp) (hd:SlOf 1 byr l d) (hl:8≤l.length) (hu:∀ z∈l,U8 z):R a8K [d] h=some (.int .i64 (IntKind.wrap .i64 (num (l.take 8))),h):=by
 rw [d2H]
 have m32:min ((32:Int).toNat) IntKind.u64.bits=32:=by decide
 have p32:(2:Int) ^ 32=4294967296:=by decide
 obtain ⟨d1,e1,h1⟩:=b5S hd (k := .i64) (n:=4) (by omega) (by omega)
 have h1:SlOf 1 byr (l.drop 4) d1:=h1
 have q1:=b9n l d h hd (by omega) hu
 have q2:=b9n (l.drop 4) d1 h h1 (by simp;omega) (fun z hz=>hu z (List.mem_of_mem_drop hz))
 have hsp:l.take 8=l.take 4++(l.drop 4).take 4:=by rw [← List.take_add]
 have l1:(l.take 4).length=4:=by simp;omega
 have l2:((l.drop 4).take 4).length=4:=by simp;omega
 obtain ⟨a0,a1⟩:=a3S 4 _ l1 fun z hz=>hu z (List.mem_of_mem_take hz)
 obtain ⟨b0,b1⟩:=a3S 4 _ l2 fun z hz=>hu z (List.mem_of_mem_drop (List.mem_of_mem_take hz))
 rw [a8T] at a1 b1
 have hn:num (l.take 8)=num (l.take 4)*4294967296+num ((l.drop 4).take 4):=by rw [hsp,b8M,l2,a8T]
 generalize num (l.take 4)=x at *
 generalize num ((l.drop 4).take 4)=y at *
 have w1:IntKind.wrap .u64 x=x:=a1Q (by omega) (by omega)
 have w2:IntKind.wrap .u64 y=y:=a1Q (by omega) (by omega)
 have w3:IntKind.wrap .u64 (x*2 ^ 32)=x*2 ^ 32:=by rw [p32];exact a1Q (by omega) (by omega)
 have w4:=c2M (x:=x) (b:=y) 32 a0 b0 (by rw [p32];omega) (by rw [p32];omega)
 simp only [c7k,bs,q1,q2,e1,b0O,w1,w2,a9y,show ¬ (32:Int)<0 by omega,if_false,m32,w3,b2a,w4,a5Z,a0j]
 rw [hn,p32]
theorem d6t (l:List Int) (d e:D) (h:Hp) (hd:SlOf 1 byr l d) (he:SlOf 1 byr l e):R b7P [d,e] h=some (.bool true,h):=by
 rw [d2I]
 simp only [c7l,bs,b0s hd,b0s he,a1E,beq_self_eq_true,a0j]
structure RG (hs:Int) (i:It):Prop where
 fs:i.e.fs.length≤20
 ok:itE i=0
 host:i.e.a0=hs
 r:(i.r==([42]:Str))=false
 bl:(a1w i).length≤20000
 rd:ItR i
theorem b0h {i j:It} (h:a4v i=a4v j):a3a i=a3a j∧itE i=itE j∧(∀ hs,RG hs i→RG hs j)∧c9R i j=true:=by
 obtain ⟨r,⟨a0,a1,a2,a3,ls,ld,a5,a6,s7,s8,fs,fd,p1,p2,p3,p4⟩⟩:=i
 obtain ⟨r',⟨a0',a1',a2',a3',ls',ld',a5',a6',s7',s8',fs',fd',p1',p2',p3',p4'⟩⟩:=j
 simp only [a4v,RI.mk.injEq] at h
 obtain ⟨rfl,rfl,rfl,rfl,rfl,rfl,rfl,rfl,rfl,rfl,rfl⟩:=h
 refine ⟨rfl,rfl,fun hs g=>⟨g.fs,g.ok,g.host,g.r,g.bl,⟨g.rd.r,g.rd.a0,g.rd.a1,g.rd.a2,g.rd.a3,g.rd.nl,g.rd.ls,g.rd.a5,g.rd.a6,g.rd.t7,g.rd.t8,g.rd.nf,g.rd.fs⟩⟩,?_⟩
 simp [-bind_some, c9R,c4V]
def RdI (g:Hp) (its:List It) (d:D):Prop:=SlOf 11 itr its d∨∃ n0,Own g n0 a0z 11 (its.map itr) d
theorem RdI.keep {g g':Hp} {its:List It} {d:D} (hd:RdI g its d) (hk:∀ q,q<g.length→g'[q]?=g[q]?):RdI g' its d:=by
 rcases hd with hd | ⟨n0,ow⟩
 ·exact .inl hd
 ·exact .inr ⟨n0,ow.keep fun q _ hx=>hk q (ow.lt hx).2⟩
theorem b9c {g:Hp} {its:List It} {d:D} (hd:RdI g its d):a0t tab a0S d=some (.int .i64 its.length):=by
 rcases hd with hd | ⟨n0,ow⟩
 ·exact a4e hd
 ·rw [c4z ow,e0n]
theorem c2O {g:Hp} {its:List It} {d:D} (hd:RdI g its d) (n:Nat) (i:It) (hi:its[n]?=some i):∃ q,a0b tab a0S d (.int .i64 n)=some q∧a0c tab g a0z q=some (.agg (itr i)):=by
 rcases hd with hd | ⟨n0,ow⟩
 ·exact ⟨.fptr (itr i),by rw [a6T hd];simp [-bind_some, hi],b2w i g⟩
 ·have hn:n<its.length:=(e0y.1 hi).1
  obtain ⟨o,ho,rfl,hob⟩:=a5m ow (i:=n) (by simpa using hn)
  refine ⟨.ptr o n 0,?_,?_⟩
  ·rw [c8t,if_pos (by simp;omega)];simp [-bind_some]
  ·have hr:(its.map itr)[n]?=some (itr i):=by rw [e0v,hi];rfl
   rw [b2y,a0F hob,hr]
   rfl
def a5g (hs nu:Int) (d:D):List D:=[.int .i64 hs,.int .i64 nu,d]
theorem bx0 (hs nu:Int) (d:D):a0a tab a0u 0 (.fptr (a5g hs nu d))=some (.fptr (a5g hs nu d)):=id rfl
theorem bx1 (hs nu:Int) (d:D):a0a tab a0u 1 (.fptr (a5g hs nu d))=some (.fptr [.int .i64 nu,d]):=id rfl
theorem bx2 (hs nu:Int) (d:D):a0a tab a0u 2 (.fptr (a5g hs nu d))=some (.fptr [d]):=id rfl
theorem bxl (hs nu:Int) (d:D) (g:Hp):a0c tab g ty3 (.fptr (a5g hs nu d))=some (.int .i64 hs):=id rfl
theorem bxb (hs nu:Int) (d:D) (g:Hp):a0c tab g a0u (.fptr (a5g hs nu d))=some (.agg (a5g hs nu d)):=id rfl
theorem c2Y (hs nu:Int) (its:List It) (d:D) (h:Hp) (hd:RdI h its d) (h40:its.length≤40) (hit:∀ i∈its,RG hs i):R b1i [.agg (a5g hs nu d)] h=some (.int .i64 0,h):=by
 apply Wp.val
 have hlen:¬ (its.length:Int)>40:=by omega
 rw [d2b]
 simp only [c6G,a0V,bx2,a7W,b9c hd,bs,e0h,a0x,hlen,decide_false,a0d,e0i,if_false]
 refine Wp.loop (fun k ds g=>g=h∧∃ a1 a2 a3 a4 a5 a6 a7,∃ n:Nat,ds=[a1,a2,a3,.int .i64 n,a4,a5,a6,a7]∧k+n=its.length) (fun r=>r.1 = .ext 0∧r.2.2=h) its.length ⟨rfl,_,_,_,_,_,_,_,0,rfl,rfl⟩ ?_ ?_
 ·rintro k ds g ⟨rfl,a1,a2,a3,a4,a5,a6,a7,n,rfl,hk⟩
  simp only [b3l,a0e,a0m,bs,e0h,a0o]
  refine Wp.dif ?_ ?_
  ·intro h0
   have h0:n<its.length:=dl_ h0
   obtain ⟨i,hi⟩:=gx_ h0
   have hB:=hit i (e0w hi)
   have hw:=wi_ n (by omega)
   obtain ⟨q,hii,hq⟩:=c2O hd n i hi
   have hck:=c4Q i g hB.fs
   rw [hB.ok] at hck
   have q0:a0a tab a0y 0 (.fptr (evr i.e))=some (.fptr (evr i.e)):=id rfl
   have q1:a0c tab g ty3 (.fptr (evr i.e))=some (.int .i64 i.e.a0):=id rfl
   simp only [hii,hq,b2w,b0G,hck,bs,a0A,ne_eq,not_true,decide_false,a0d,e0i,if_false,c5B,q0,q1,bx0,bxl,ld3,hB.host,c5A,c5C,a1E,hB.r,a0r,hw]
   exact .some (.inl ⟨rfl,k - 1,by omega,rfl,_,_,_,_,_,_,_,n+1,rfl,by omega⟩)
  ·intro h0
   exact .some (.inr ⟨by simp,rfl,rfl⟩)
 ·rintro ⟨ex,ds,g⟩ ⟨q1,q2⟩
  simp only at q1 q2
  subst q1;subst q2
  simp only [a0l,a0k,bs,a0j]
  exact .some rfl
def a4l (hs nu:Int) (its:List It):List Int:=(pI hs++pI nu++pN its.length)++(its.map a3a).flatten
theorem b6l (b:Bat):a5p b=a4l b.hs b.nu b.its:=rfl
theorem b6n {hs nu:Int} {a b:List It} (h:a.map a4v=b.map a4v):a4l hs nu a=a4l hs nu b:=by
 have hl:a.length=b.length:=by have:=congrArg List.length h;simpa using this
 have key:∀ (a b:List It),a.map a4v=b.map a4v→a.map a3a=b.map a3a:=by
  intro a
  induction a with
  | nil=>intro b hb;cases b with
   | nil=>rfl
   | cons y b=>simp at hb
  | cons x a ih=>intro b hb;cases b with
   | nil=>simp at hb
   | cons y b =>
    simp only [e0p,List.cons.injEq] at hb ⊢
    exact ⟨(b0h hb.1).1,ih b hb.2⟩
 unfold a4l
 rw [hl,key a b h]
theorem c9d {h:Hp} {n0 n1 e z:Nat} {rows:List (List D)} {d:D} (ow:Own h n1 e z rows d) (hn:n0≤n1):Own h n0 e z rows d:=by
 rcases ow with hx | ⟨o,ho,hx⟩
 ·exact .inl hx
 ·exact .inr ⟨o,Nat.le_trans hn ho,hx⟩
theorem b3B {hs nu:Int} {its:List It} (h40:its.length≤40) (hit:∀ i∈its,RG hs i):20≤(a4l hs nu its).length∧(a4l hs nu its).length≤1000000:=by
 have hfl:=a3m a3a 20008 its fun i hi=>by have:=(hit i hi).bl;rw [a4T];omega
 have hfm:its.length*20008≤40*20008:=Nat.mul_le_mul_right _ h40
 simp only [a4l,e0m,a1i,a1N]
 omega
theorem c3G (hs nu:Int) (its:List It):∀ z∈a4l hs nu its,U8 z:=by
 intro z hz
 simp only [a4l,e0E,List.mem_flatten,e0F] at hz
 rcases hz with ((h | h) | h) | ⟨_,⟨i,_,rfl⟩,h⟩
 ·exact a3s _ _ z h
 ·exact a3s _ _ z h
 ·exact a3s _ _ z h
 ·exact b6Y i z h
theorem c3a (hs nu:Int) (its:List It) (d:D) (h:Hp) (hd:RdI h its d) (h40:its.length≤40) (hit:∀ i∈its,RG hs i):∃ d',R b1l [.agg (a5g hs nu d)] h=some (.tup [d',.int .i64 0],h)∧SlOf 1 byr (a4l hs nu its) d':=by
 suffices Wp (R b1l [.agg (a5g hs nu d)] h) (fun p=>p.2=h∧∃ d',p.1 = .tup [d',.int .i64 0]∧SlOf 1 byr (a4l hs nu its) d') by
  obtain ⟨⟨x,h'⟩,h1,rfl,d',rfl,h2⟩:=this
  exact ⟨d',h1,h2⟩
 have hchk:=c2Y hs nu its d h hd h40 hit
 have hfl:=a3m a3a 20008 its fun i hi=>by have:=(hit i hi).bl;rw [a4T];omega
 have hfm:its.length*20008≤40*20008:=Nat.mul_le_mul_right _ h40
 obtain ⟨d1,h1,e1,o1,n1,k1⟩:=c9O [] hs .nils h (.inl (.nils _ _)) (by simp)
 have e1:R b1m [.nils,.int .i64 hs] h=some (d1,h1):=e1
 obtain ⟨d2,h2,e2,o2,n2,k2⟩:=c9O _ nu d1 h1 (RdB.own o1) (by simp [-bind_some, a1i])
 have hw:IntKind.wrap .u32 (its.length:Int)=its.length:=a3C (by omega) (by omega)
 have hw6:IntKind.wrap .u64 (its.length:Int)=its.length:=a1Q (by omega) (by omega)
 have hpN:pN its.length=a2A its.length:=by unfold pN;rw [hw6,b9a]
 have B2:Bw h.length h .nils h2 (([]++pI hs)++pI nu) d2:=⟨c9d o2 n1,Nat.le_trans n1 n2,fun q hq _=>(k2 q (by omega)).trans (k1 q hq),fun q hq => .inr (by have:=(o2.lt hq).1;omega)⟩
 rw [d2D]
 simp only [c7g,a0V,bs,e0h,bxb,hchk,a0A,ne_eq,not_true,decide_false,a0d,e0i,if_false,bx0,bx1,bx2,bxl,ld3,a7W,e1,e2,b9c hd,c2e,hw,c4O]
 refine b6h B2 (Nat.le_trans n1 n2) (a1e _ _ _ _) (by simp [-bind_some, a1i,a2K]) fun d3 h3 B3 n3=>?_
 have hA:[]++pI hs++pI nu++a2A its.length=pI hs++pI nu++pN its.length:=by rw [hpN];rfl
 rw [hA] at B3
 have hAl:(pI hs++pI nu++pN its.length).length=20:=by simp only [e0m,a1i,a1N]
 simp only [a1v,bs,e0h]
 refine Wp.loop (fun k ds g=>h.length≤g.length∧∃ a0 a1 d' a3 a4 a5 a7 a8,∃ n:Nat,ds=[a0,a1,d',a3,a4,a5,.int .i64 n,a7,a8]∧k+n=its.length∧Bw h.length h .nils g ((pI hs++pI nu++pN its.length)++((its.take n).map a3a).flatten) d')
  (fun r=>r.1 = .ext 0∧h.length≤r.2.2.length∧(∃ a0 a1 d' a3 a4 a5 a6 a7 a8,r.2.1=[a0,a1,d',a3,a4,a5,a6,a7,a8]∧Bw h.length h .nils r.2.2 (a4l hs nu its) d')) its.length ⟨n3,_,_,_,_,_,_,_,_,0,rfl,rfl,by simpa using B3⟩ ?_ ?_
 ·rintro k ds g ⟨hg,a0,a1,d',a3,a4,a5,a7,a8,n,rfl,hk,B⟩
  simp only [b3t,a0e,a0m,bs,e0h,a0o]
  refine Wp.dif ?_ ?_
  ·intro h0
   have h0:n<its.length:=dl_ h0
   obtain ⟨i,hi⟩:=gx_ h0
   have hB:=hit i (e0w hi)
   have hw:=wi_ n (by omega)
   have hdg:RdI g its d:=hd.keep fun q hq=>B.old q hq (b8K q)
   obtain ⟨q,hii,hq⟩:=c2O hdg n i hi
   have hil:=hB.bl
   obtain ⟨de,ee,he⟩:=d6q i 0 g (fun g=>by have:=c4Q i g hB.fs;rw [hB.ok] at this;exact this) (by omega)
   rw [if_pos rfl] at he
   have hle:=a5w a3a its (n+1)
   rw [a1n a3a hi,e0m] at hle
   simp only [hii,hq,b0G,b2w,ee,bs,a0I,e0k,e0l,a0A,ne_eq,not_true,decide_false,a0d,e0i,if_false]
   refine b6h B hg (a4g (.inl he)) (by simp only [e0m,a1i,a1N];omega) fun d4 g4 B4 n4=>?_
   simp only [bs,a0r,hw]
   refine .some (.inl ⟨rfl,k - 1,by omega,n4,_,_,_,_,_,_,_,_,n+1,rfl,by omega,?_⟩)
   rw [a1n a3a hi]
   simpa using B4
  ·intro h0
   have h0:n=its.length:=by
    have:¬ (n:Int)<its.length:=by simpa using h0
    omega
   subst h0
   rw [e0G] at B
   exact .some (.inr ⟨by simp,rfl,hg,_,_,_,_,_,_,_,_,_,rfl,B⟩)
 ·rintro ⟨ex,ds,g⟩ ⟨rfl,q2,a0,a1,d',a3,a4,a5,a6,a7,a8,rfl,B⟩
  simp only [a0l,a0k,bs,a0e,a0m,a1d]
  have hsl:=a1R (n0:=h.length) (n:=2) B.ow (Nat.le_refl _) (fun a _=>a5s _ g 2 a)
  rw [a0M (d' := .tup [frz h.length g 3 d',.int .i64 0]) (by simp) (by
   refine .tup _ fun d hd=>?_
   simp at hd
   rcases hd with rfl | rfl
   ·exact a1b hsl fun a _=>a7C _ a
   ·constructor) q2 (fun q hq=>B.old q hq (b8K q))]
  exact .some ⟨rfl,_,rfl,hsl⟩
theorem c9N (j:List Int) (hs nu:Int) (its:List It) (dj d:D) (h:Hp) (hj:SlOf 1 byr j dj) (hjl:j.length≤10000000) (hd:RdI h its d) (h40:its.length≤40) (hit:∀ i∈its,RG hs i):∃ d',R b4G [dj,.agg (a5g hs nu d)] h=some (.tup [d',.int .i64 0],h)∧SlOf 1 byr (j++a3i (a4l hs nu its)) d':=by
 obtain ⟨d1,e1,h1⟩:=c3a hs nu its d h hd h40 hit
 have hl:=b3B (nu:=nu) h40 hit
 obtain ⟨d2,e2,h2⟩:=c2W j (a4l hs nu its) dj d1 h hj h1 (by omega) (by omega)
 have hE:a7r j (a4l hs nu its)=0:=by
  unfold a7r
  rw [if_neg (by omega),if_neg (by omega)]
 have hR:a8O j (a4l hs nu its)=j++a3i (a4l hs nu its):=by
  unfold a8O
  rw [if_pos hE]
  simp [-bind_some, a3i]
 rw [hE] at e2
 rw [hR] at h2
 refine ⟨d2,?_,h2⟩
 rw [d2F]
 simp only [c7i,a0V,bs,bxb,e1,a0I,e0k,e0l,a0A,ne_eq,not_true,decide_false,a0d,e0i,if_false,e2,a1d]
theorem c2R {a b:List It} (hab:a.map a4v=b.map a4v) {n:Nat} {i j:It} (hi:a[n]?=some i) (hj:b[n]?=some j):a4v i=a4v j:=by
 have:=congrArg (fun l=>l[n]?) hab
 simpa [-bind_some, e0v,hi,hj] using this
theorem c3R {i:It} (h:ItR i) (hb:(a1w i).length≤20000) (r:List Int):a6O 0 (a3a i++r)=(0,((a3a i).length:Int),a4v i)∧a1T (((a3a i++r).take (num ((a3a i++r).take 4)).toNat).drop 4,false)=a4v i:=by
 have hw:IntKind.wrap .u64 (((a1w i).length:Int)+4)=((a1w i).length:Int)+4:=a1Q (by omega) (by omega)
 obtain ⟨P,hP⟩:∃ P,P=a3X 4 (IntKind.wrap .u64 (((a1w i).length:Int)+4)):=⟨_,rfl⟩
 obtain ⟨C,hC⟩:∃ C,C=a3X 4 (a4q (a5c i)):=⟨_,rfl⟩
 have hPl:P.length=4:=by rw [hP,a1f]
 have hCl:C.length=4:=by rw [hC,a1f]
 have hH:a5c i=P++a1w i:=by rw [hP];rfl
 have hHl:(a5c i).length=(a1w i).length+4:=by rw [hH,e0m];omega
 have hE:a3a i++r=a5c i++(C++r):=by rw [hC];simp [-bind_some, a3a]
 have hE2:a3a i++r=P++(a1w i++(C++r)):=by rw [hE,hH];simp [-bind_some]
 have hnP:num P=(((a1w i).length+4:Nat):Int):=by rw [hP,hw,a6p 4 _ (by omega),a8T];omega
 have hcr:=a6w (a5c i)
 have hnC:num C=a4q (a5c i):=by rw [hC,a6p 4 _ hcr.1,a8T];omega
 have t4:(a3a i++r).take 4=P:=by rw [hE2];exact List.take_left' hPl
 have tn:(a3a i++r).take ((a1w i).length+4)=a5c i:=by rw [hE];exact List.take_left' hHl
 have dn:(a3a i++r).drop ((a1w i).length+4)=C++r:=by rw [hE];exact List.drop_left' hHl
 have tc:(C++r).take 4=C:=List.take_left' hCl
 have d4:(a5c i).drop 4=a1w i:=by rw [hH];exact List.drop_left' hPl
 obtain ⟨v1,v2⟩:=c1I h []
 rw [List.append_nil] at v1 v2
 have hEl:(a3a i++r).length=(a1w i).length+8+r.length:=by rw [e0m,a4T]
 refine ⟨?_,by rw [t4,hnP,e0r,tn,d4];exact v1⟩
 unfold a6O
 rw [if_neg (by omega),t4,hnP,if_neg (by omega),e0r,tn,dn,tc,hnC,if_neg (by simp),d4,v1,v2,if_neg (by simp),a4T]
 have e:4+(((a1w i).length+4:Nat):Int)=(((a1w i).length+8:Nat):Int):=by omega
 rw [e]
theorem a3q {l:List It} {n:Nat} {x:It} (h:l[n]?=some x):((l.drop n).map a3a).flatten=a3a x++((l.drop (n+1)).map a3a).flatten:=by
 obtain ⟨hn,hx⟩:=e0y.1 h
 rw [List.drop_eq_getElem_cons hn,hx];simp [-bind_some]
theorem d6s (hs nu:Int) (its:List It) (dp:D) (h:Hp) (hp:SlOf 1 byr (a4l hs nu its) dp) (h1:I64 hs) (h2:I64 nu) (h40:its.length≤40) (hit:∀ i∈its,RG hs i):∃ d' its',R b4F [dp] h=some (.tup [.agg (a5g hs nu d'),.int .i64 0],h)∧SlOf 11 itr its' d'∧its'.map a4v=its.map a4v:=by
 suffices Wp (R b4F [dp] h) (fun p=>p.2=h∧∃ d' its',p.1 = .tup [.agg (a5g hs nu d'),.int .i64 0]∧SlOf 11 itr its' d'∧its'.map a4v=its.map a4v) by
  obtain ⟨⟨x,h'⟩,h1,rfl,d',its',rfl,h2⟩:=this
  exact ⟨d',its',h1,h2⟩
 have hlen:=b3B (nu:=nu) h40 hit
 have hu:=c3G hs nu its
 obtain ⟨S,hS⟩:∃ S,S=(its.map a3a).flatten:=⟨_,rfl⟩
 have hSu:∀ z∈S,U8 z:=fun z hz=>hu z (by rw [hS] at hz;unfold a4l;exact List.mem_append_right _ hz)
 have hSl:S.length≤1000000:=by have:=hlen.2;unfold a4l at this;rw [e0m,← hS] at this;omega
 have t8:(a4l hs nu its).take 8=pI hs:=by
  have:a4l hs nu its=pI hs++(pI nu++(pN its.length++S)):=by simp [-bind_some, a4l,hS]
  rw [this];exact List.take_left' (a1i _)
 have t16:((a4l hs nu its).drop 8).take 8=pI nu:=by
  have:a4l hs nu its=pI hs++(pI nu++(pN its.length++S)):=by simp [-bind_some, a4l,hS]
  rw [this,List.drop_left' (a1i _)];exact List.take_left' (a1i _)
 have t20:((a4l hs nu its).drop 16).take 4=pN its.length:=by
  have:a4l hs nu its=(pI hs++pI nu)++(pN its.length++S):=by simp [-bind_some, a4l,hS]
  rw [this,List.drop_left' (by rw [e0m,a1i,a1i])];exact List.take_left' (a1N _)
 have d20:(a4l hs nu its).drop 20=S:=by
  have:a4l hs nu its=(pI hs++pI nu++pN its.length)++S:=by simp [-bind_some, a4l,hS]
  rw [this];exact List.drop_left' (by simp only [e0m,a1i,a1N])
 obtain ⟨x8,e8,u8s⟩:=b5S hp (k := .i64) (n:=8) (by omega) (by omega)
 obtain ⟨x16,e16,u16s⟩:=b5S hp (k := .i64) (n:=16) (by omega) (by omega)
 obtain ⟨x20,e20,u20s⟩:=b5S hp (k := .i64) (n:=20) (by omega) (by omega)
 have u8s:SlOf 1 byr ((a4l hs nu its).drop 8) x8:=u8s
 have u16s:SlOf 1 byr ((a4l hs nu its).drop 16) x16:=u16s
 have u20s:SlOf 1 byr ((a4l hs nu its).drop 20) x20:=u20s
 have q17:∀ g,R a8K [dp] g=some (.int .i64 hs,g):=fun g=>by
  rw [c9P _ dp g hp (by omega) hu,t8,b8N h1]
 have q20:∀ g,R a8K [x8] g=some (.int .i64 nu,g):=fun g=>by
  rw [c9P _ x8 g u8s (by simp;omega) (fun z hz=>hu z (List.mem_of_mem_drop hz)),t16,b8N h2]
 have q26:∀ g,R a5i [x16] g=some (.int .u32 (its.length:Int),g):=fun g=>by
  rw [b9n _ x16 g u16s (by simp;omega) (fun z hz=>hu z (List.mem_of_mem_drop hz)),t20,c2J (by omega)]
 rw [d20] at u20s
 have hn20:¬ ((a4l hs nu its).length:Int)<20:=by omega
 rw [d2E]
 simp only [c7h,bs,e0h,a1z hp,a0o,hn20,decide_false,a0d,e0i,if_false,q17,e8,q20,a8v,e20,e16,q26]
 have a0:(a0C h a0u 3 [[.int .i64 0,.int .i64 0,.nils]])[h.length]?=some (.row a0u 3 [[.int .i64 0,.int .i64 0,.nils]]):=a0Z _ _ _ _
 have l0:(a0C h a0u 3 [[.int .i64 0,.int .i64 0,.nils]]).length=h.length+1:=by simp [-bind_some, a0C]
 have k0:∀ q,q<h.length→(a0C h a0u 3 [[.int .i64 0,.int .i64 0,.nils]])[q]?=h[q]?:=fun q hq=>a0H _ _ _ _ hq
 generalize a0C h a0u 3 [[.int .i64 0,.int .i64 0,.nils]]=g0 at *
 have a1:(a0C g0 a0u 3 [[.int .i64 0,.int .i64 0,.nils]])[h.length+1]?=some (.row a0u 3 [[.int .i64 0,.int .i64 0,.nils]]):=by rw [← l0];exact a0Z _ _ _ _
 have b1:(a0C g0 a0u 3 [[.int .i64 0,.int .i64 0,.nils]])[h.length]?=some (.row a0u 3 [[.int .i64 0,.int .i64 0,.nils]]):=by rw [a0H _ _ _ _ (by omega)];exact a0
 have k1:∀ q,q<h.length→(a0C g0 a0u 3 [[.int .i64 0,.int .i64 0,.nils]])[q]?=h[q]?:=fun q hq=>by rw [a0H _ _ _ _ (by omega)];exact k0 q hq
 generalize a0C g0 a0u 3 [[.int .i64 0,.int .i64 0,.nils]]=g1 at *
 rw [l0]
 refine b2S (kk:=0) (off:=0) (row:=[.int .i64 0,.int .i64 0,.nils]) (v := .agg [.int .i64 hs,.int .i64 nu,.nils]) a1 (by rfl) (by rfl) (by exact Nat.le_refl _) (by rfl) fun g2 a2 u2s=>?_
 have a2:g2[h.length+1]?=some (.row a0u 3 [a5g hs nu .nils]):=a2
 have b2:g2[h.length]?=some (.row a0u 3 [[.int .i64 0,.int .i64 0,.nils]]):=by rw [u2s.2 _ (by omega)];exact b1
 have k2:∀ q,q<h.length→g2[q]?=h[q]?:=fun q hq=>by rw [u2s.2 q (by omega)];exact k1 q hq
 try simp only [bs,q26,e0h]
 refine Wp.loop (fun k ds g=>∃ rest v3 v4 v5 v6 v7,∃ m:Nat,∃ ld,∃ its':List It,ds=[.int .i64 0,rest,.int .u32 ((its.length - m:Nat):Int),v3,v4,v5,v6,v7]∧k+m=its.length∧SlOf 1 byr ((its.drop m).map a3a).flatten rest
   ∧ g[h.length]?=some (.row a0u 3 [[.int .i64 0,.int .i64 0,.nils]])∧g[h.length+1]?=some (.row a0u 3 [a5g hs nu ld])∧Own g (h.length+2) a0z 11 (its'.map itr) ld∧its'.map a4v=(its.take m).map a4v∧∀ q,q<h.length→g[q]?=h[q]?)
  (fun r=>r.1 = .ext 0∧(∃ v0 v1 v2 v3 v4 v5 v6 v7,r.2.1=[v0,v1,v2,v3,v4,v5,v6,v7])∧∃ ld,∃ its':List It,r.2.2[h.length]?=some (.row a0u 3 [[.int .i64 0,.int .i64 0,.nils]])∧r.2.2[h.length+1]?=some (.row a0u 3 [a5g hs nu ld])∧Own r.2.2 (h.length+2) a0z 11 (its'.map itr) ld∧its'.map a4v=its.map a4v∧∀ q,q<h.length→r.2.2[q]?=h[q]?)
  its.length ⟨x20,_,_,_,_,_,0,.nils,[],rfl,rfl,by rw [List.drop_zero,← hS];exact u20s,b2,a2,Own.nils _ _ _ _,by simp,k2⟩ ?_ ?_
 ·rintro k ds g ⟨rest,v3,v4,v5,v6,v7,m,ld,its',rfl,hk,hr,b3,a3,ow,hri,k3⟩
  simp only [b3u,a0e,a0m,bs,e0h,a0x,l0]
  by_cases hm:m<its.length
  ·obtain ⟨i,hi⟩:=gx_ hm
   have hB:=hit i (e0w hi)
   have hil:=hB.bl
   obtain ⟨r,hr0⟩:∃ r,r=((its.drop (m+1)).map a3a).flatten:=⟨_,rfl⟩
   have hfd:=a3q hi
   rw [← hr0] at hfd
   rw [hfd] at hr
   have hru:∀ z∈a3a i++r,U8 z:=fun z hz=>by
    refine hSu z ?_
    rw [hS,← List.take_append_drop m its,e0o,List.flatten_append,hfd]
    exact List.mem_append_right _ hz
   have hrl:(a3a i++r).length≤1000000:=by
    have:(its.map a3a).flatten=((its.take m).map a3a).flatten++(a3a i++r):=by rw [← hfd,← List.flatten_append,← e0o,List.take_append_drop]
    rw [hS,this,e0m] at hSl
    omega
   have hEl:=a4T i
   have hrl2:(a3a i++r).length=(a3a i).length+r.length:=e0m
   obtain ⟨z1,z2⟩:=c3R hB.rd hil r
   obtain ⟨j,ej,hj⟩:=d6r (a3a i++r) rest 0 g hr (by omega) hru (fun j hj g=>by
    rw [z2] at hj
    have hG:=(b0h hj.symm).2.2.1 _ hB
    have:=c4Q j g hG.fs
    rw [hG.ok] at this
    exact this)
   rw [z1] at ej hj
   have c1:((its.length - m:Nat):Int)>0:=by omega
   have c2:((a3a i++r).length:Int)>0:=by omega
   obtain ⟨x5,e5,u5s⟩:=b5S hr (k := .i64) (n:=((a3a i).length:Int)) (by omega) (by omega)
   rw [e0r,List.drop_left' rfl] at u5s
   have ldl:a0c tab g a0S (.ptr (h.length+1) 0 (0+2))=some ld:=by rw [c2B,a0F a3];rfl
   have hlit:a0W tab a0S 1 [0] [.agg (itr j)]=some (.sl 11 true [itr j]):=id rfl
   have hll:its'.length=m:=by have:=congrArg List.length hri;simp at this;omega
   have w1:IntKind.wrap .u32 (((its.length - m:Nat):Int) - 1)=((its.length - (m+1):Nat):Int):=by rw [a3C (by omega) (by omega)];omega
   simp only [c1,decide_true,a0v,if_true,a1z hr,bs,a0x,c2,a0g,a0d,ej,a0I,e0k,e0l,b0G,b2w,a0A,ne_eq,not_true,decide_false,e0i,if_false,b0X,ldl,hlit,e0h]
   have hgl:h.length+2≤g.length:=(e0y.1 a3).1
   refine b9K (ys:=[itr j]) hgl ow (a1e _ _ _ _) (by simp;omega) fun ld2 g3 ow3 len3 bel3 old3 _=>?_
   have a4:g3[h.length+1]?=some (.row a0u 3 [a5g hs nu ld]):=by rw [bel3 _ (by omega)];exact a3
   simp only [bs,e5]
   refine c3j (kk:=0) (row:=a5g hs nu ld) a4 (by rfl) (by rw [(a0O (a2f ow3)).1];rfl) (by simp [-bind_some, a5g]) (a0O (a2f ow3)).2 fun g4 a5 u4s=>?_
   rw [(a0O (a2f ow3)).1] at a5
   have a5:g4[h.length+1]?=some (.row a0u 3 [a5g hs nu ld2]):=a5
   simp only [bs,a0N,w1]
   refine .some (.inl ⟨rfl,k - 1,by omega,_,_,_,_,_,_,m+1,ld2,its'++[j],rfl,by omega,by rw [← hr0];exact u5s,?_,a5,?_,?_,fun q hq=>?_⟩)
   ·rw [u4s.2 _ (by omega),bel3 _ (by omega)];exact b3
   ·rw [e0o]
    exact ow3.keep fun q hq hx=>u4s.2 q (by omega)
   ·rw [e0o,hri,e0u,hi]
    simp [-bind_some, hj]
   ·rw [u4s.2 q (by omega),bel3 q (by omega)];exact k3 q hq
  ·have hm:m=its.length:=by omega
   subst hm
   have c1:¬ ((its.length - its.length:Nat):Int)>0:=by omega
   simp only [c1,decide_false,a0v,e0i,reduceCtorEq,if_false,bs,a0g,a0d,a2x]
   rw [e0G] at hri
   exact .some (.inr ⟨by simp,rfl,⟨_,_,_,_,_,_,_,_,rfl⟩,ld,its',b3,a3,ow,hri,k3⟩)
 ·rintro ⟨ex,ds,g⟩ ⟨rfl,⟨v0,v1,v2,v3,v4,v5,v6,v7,rfl⟩,ld,its',b3,a3,ow,hri,k3⟩
  have b3:g[h.length]?=some (.row a0u 3 [[.int .i64 0,.int .i64 0,.nils]]):=b3
  have a3:g[h.length+1]?=some (.row a0u 3 [a5g hs nu ld]):=a3
  have ow:Own g (h.length+2) a0z 11 (its'.map itr) ld:=ow
  have k3:∀ q,q<h.length→g[q]?=h[q]?:=k3
  have hll:its'.length=its.length:=by have:=congrArg List.length hri;simpa using this
  have hit':∀ i∈its',RG hs i:=fun j hj=>by
   obtain ⟨n,hn⟩:=List.getElem?_of_mem hj
   obtain ⟨i,hi⟩:∃ i,its[n]?=some i:=⟨_,e0x (by have:=(e0y.1 hn).1;omega)⟩
   exact (b0h (c2R hri hn hi).symm).2.2.1 _ (hit i (e0w hi))
  have ldb:a0c tab g a0u (.ptr (h.length+1) 0 0)=some (.agg (a5g hs nu ld)):=by rw [a9X,a0F a3];rfl
  obtain ⟨dz,ez,sz⟩:=c3a hs nu its' ld g (.inr ⟨_,ow⟩) (by omega) hit'
  rw [b6n hri] at sz
  have eb:=d6t _ dz dp g sz hp
  simp only [a0l,a0k,bs,e0h,l0,ldb,ez,a0I,e0k,e0l,a0A,ne_eq,not_true,decide_false,a0v,a0Y,if_true,eb,a1A,e0s,a0g,e0i,if_false,a0d]
  have hgl:h.length≤g.length:=by have:=(e0y.1 a3).1;omega
  have hok:(D.agg (a5g hs nu ld)).okv=true:=by
   have h1:=a2f ow
   rcases ow with ⟨rfl,_⟩ | ⟨_,_,rfl,_⟩ <;> rfl
  refine b2S (kk:=0) (off:=0) (row:=[.int .i64 0,.int .i64 0,.nils]) (v := .agg (a5g hs nu ld)) b3 (by rfl) (by rfl) (by exact Nat.le_refl _) hok fun g5 b5 u5s=>?_
  have b5:g5[h.length]?=some (.row a0u 3 [a5g hs nu ld]):=b5
  have ld5:a0c tab g5 a0u (.ptr h.length 0 0)=some (.agg (a5g hs nu ld)):=by rw [a9X,a0F b5];rfl
  have ow5:Own g5 (h.length+2) a0z 11 (its'.map itr) ld:=ow.keep fun q hq _=>u5s.2 q (by omega)
  have hsl:=a1R (n0:=h.length) (n:=1) ow5 (by omega) (fun a _=>a9V _ g5 0 a)
  simp only [ld5,bs,a1d]
  rw [a0M (d' := .tup [.agg (a5g hs nu (frz h.length g5 2 ld)),.int .i64 0]) rfl (by
   refine .tup _ fun d hd=>?_
   simp at hd
   rcases hd with rfl | rfl
   ·refine .agg _ fun d hd=>?_
    simp [-bind_some, a5g] at hd
    rcases hd with rfl | rfl | rfl
    ·constructor
    ·constructor
    ·exact a1b hsl fun a _=>b2s _ a
   ·constructor) (by rw [u5s.1];exact hgl) (fun q hq=>by rw [u5s.2 q (by omega)];exact k3 q hq)]
  exact .some ⟨rfl,_,its',rfl,hsl,hri⟩
theorem c9H (zs:List Int) (d:D) (h:Hp) (hd:a5O .u8 zs d) (hz:∀ z∈zs,0≤z∧z<256):∃ x w dw h',R b4t [d] h=some (.tup [x,dw],h')∧h.length≤h'.length∧SlOf 1 byr w dw∧∃ A:List Bat,SlOf 3 a3H A x∧A.length≤24∧(∀ b∈A,BatOK 1 b)∧∃ S:List (Int × Int),S.length≤15∧∀ b∈A,∀ i∈b.its,(i.e.a1,i.e.a3)∈S:=by
 suffices Wp (R b4t [d] h) (fun p=>∃ x w dw,p.1 = .tup [x,dw]∧h.length≤p.2.length∧SlOf 1 byr w dw∧∃ A:List Bat,SlOf 3 a3H A x∧A.length≤24∧(∀ b∈A,BatOK 1 b)∧∃ S:List (Int × Int),S.length≤15∧∀ b∈A,∀ i∈b.its,(i.e.a1,i.e.a3)∈S) by
  obtain ⟨⟨y,h'⟩,h1,x,w,dw,rfl,h2⟩:=this
  exact ⟨x,w,dw,h',h1,h2⟩
 rw [d2f]
 simp only [c6J,bs,e0h]
 obtain ⟨h0,e0,c0,hl0⟩:=d44 zs d 400 h hd (by omega) (by omega) hz
 refine Wp.step e0 ?_
 simp only [bs]
 obtain ⟨da,h1,ea,ca,sa,A,hA,hA1,hA2,hAb,S,hS1,hS2⟩:=c7M c0 1 5 (by omega) (by omega) (by omega) (by omega)
 refine Wp.step ea ?_
 simp only [bs]
 refine Wp.loop (fun k ds g=>g=h1∧∃ dj x,∃ n:Nat,∃ ps:List (List Int),ds=[dj,.int .i64 n,x]∧k+n=A.length∧SlOf 1 byr (a4u ps) dj∧(∀ p∈ps,b0A p)∧(a4u ps).length≤n*100100)
  (fun r=>r.1 = .ext 0∧r.2.2=h1∧∃ dj x y,∃ ps:List (List Int),r.2.1=[dj,x,y]∧SlOf 1 byr (a4u ps) dj∧(∀ p∈ps,b0A p)∧(a4u ps).length≤3000000) A.length ⟨rfl,_,_,0,[],rfl,rfl,.nils _ _,by simp,by simp [-bind_some, a4u]⟩ ?_ ?_
 ·rintro k ds g ⟨rfl,dj,x,n,ps,rfl,hk,hj,hp,hl⟩
  simp only [b3m,a0e,a0m,bs,e0h,b4S hA,a0o]
  refine Wp.dif ?_ ?_
  ·intro h0
   have h0:n<A.length:=dl_ h0
   obtain ⟨b,hi⟩:=gx_ h0
   have hb:=hAb b (e0w hi)
   have hw:=wi_ n (by omega)
   have hii:a0b tab a1V da (.int .i64 (n:Int))=some (.fptr (a3H b)):=by rw [b7Z hA];simp [-bind_some, hi]
   have lb:∀ g,a0c tab g a0u (.fptr (a3H b))=some (.agg (a3H b)):=fun g=>id rfl
   have hn24:n*100100≤24*100100:=Nat.mul_le_mul_right _ (by omega)
   obtain ⟨d',e1,hd'⟩:=d6j 1 b hb (a4u ps) dj g hj (by omega)
   have hBl:=a5T hb
   rw [← a7V] at hd'
   simp only [hii,lb,e1,bs,a0I,e0k,e0l,a0r,hw]
   refine .some (.inl ⟨rfl,k - 1,by omega,rfl,_,_,n+1,ps++[a5p b],rfl,by omega,hd',fun p hp'=>?_,?_⟩)
   ·rcases e0E.1 hp' with hp' | hp'
    ·exact hp p hp'
    ·simp at hp'
     subst hp'
     exact ⟨by omega,by omega,b6m b⟩
   ·rw [a7V,e0m,a8c,Nat.succ_mul]
    omega
  ·intro h0
   have hn24:n*100100≤24*100100:=Nat.mul_le_mul_right _ (by omega)
   exact .some (.inr ⟨by simp,rfl,rfl,_,_,_,ps,rfl,hj,hp,by omega⟩)
 ·rintro ⟨ex,ds,g⟩ ⟨rfl,q2,dj,x,y,ps,rfl,q3,q4,q5⟩
  simp only at q2
  subst q2
  simp only [a0l,a0k,bs,a0e,a1d]
  have hgl:=sa.1
  exact .some ⟨_,_,_,rfl,show h.length≤g.length by omega,q3,A,hA,hA2,hAb,S,by omega,hS2⟩
theorem b0J:∀ (ls:List Lin) (a b:Int),chain a ls b→0≤a→b≤1000000→∀ l∈ls,LnR l
 | [],a,b,_,_,_,l,hl=>by cases hl
 | x::r,a,b,h,h0,h1,l,hl=>by
  obtain ⟨g1,g2,g3,g4,g5⟩:=h
  have hle:=a2C r _ _ g5
  rcases e0D.1 hl with rfl | hl
  ·exact ⟨by unfold I64;omega,by unfold I64;omega,by omega⟩
  ·exact b0J r _ _ g5 (by omega) h1 l hl
theorem c9j {host:Int} {i:It} (h:BIt host i):RG host i:=by
 have hn:=h.n6
 have hf:=h.fs
 have pl:PlOK i.e:=by
  rcases h.good with ⟨_,g⟩ | g
  ·exact g.pl
  ·exact g.pl
 have h1:=pl.h0;have h2:=pl.h9;have h3:=pl.f0;have h4:=pl.f9;have h5:=pl.a0;have h6:=pl.ab;have h7:=pl.b9
 have hr:i.r.length≤32∧i.e.s7.length≤32∧i.e.s8.length≤32∧I64 i.e.a5∧I64 i.e.a6∧∀ p∈i.e.fs,p.1.length<4294967296∧p.2.length<4294967296:=by
  rcases h.good with ⟨hr,g⟩ | g
  ·have t0:=g.t0;have t9:=g.t9;have w1:=g.w1;have w2:=g.w2
   exact ⟨by rw [hr];simp [-bind_some],g.tr,g.st,by unfold I64;omega,by unfold I64;omega,fun p hp=>⟨by have:=(g.fn p hp).2;omega,by have:=g.fv p hp;omega⟩⟩
  ·have t0:=g.tm;have w0:=g.w0
   exact ⟨g.r3,by rw [g.tr];simp [-bind_some],by rw [g.st];simp [-bind_some],by unfold I64;omega,by unfold I64;omega,fun p hp=>by rw [g.fs] at hp;cases hp⟩
 obtain ⟨r1,r2,r3,r4,r5,r6⟩:=hr
 have hst:(i.r==([42]:Str))=false:=by
  rcases h.rule with hr | hr
  ·rw [hr];rfl
  ·have:=a8S _ hr
   simpa using this
 exact ⟨by omega,c1b h.good,h.host,hst,b1W h,⟨by omega,by unfold I64;omega,by unfold I64;omega,by unfold I64;omega,by unfold I64;omega,by omega,b0J _ _ _ h.ch h5 (by omega),r4,r5,by omega,by omega,by omega,r6⟩⟩
theorem c1u (ps:List (List Int)) (hps:∀ p∈ps,b0A p):rd (a4u ps)=(ps,(a4u ps).length):=by
 have h1:=b9e ps hps []
 rw [List.append_nil,b9f (r:=[]) (.inl (by simp))] at h1
 rw [h1]
 simp [-bind_some]
theorem d7z (hs nu:Int) (d:D):a5U 3 (.agg (a5g hs nu d))=some (.fptr (a5g hs nu d)):=a3y 3 _ rfl
structure Rw where
 k:List Str
 kd:D
 hk:SlOf 1 (fun s=>[D.str s]) k kd
 hkl:k.length≤1000000
 n:List Int
 nd:D
 hn:SlOf 1 inr n nd
 hnl:n.length≤1000000
 er:Int
theorem b6X {α:Type} {l:List α} {i:Nat} {x:α} (h:l[i]?=some x):l.drop i=x::l.drop (i+1):=by
 obtain ⟨hn,hh⟩:=e0y.1 h
 rw [List.drop_eq_getElem_cons hn,hh]
def rwa:Rw:=⟨[],.nils,.nils _ _,by simp,[1],.sl 1 true [[.int .i64 1]],.inr ⟨true,rfl⟩,by simp,0⟩
theorem d0M (b:Bat):a3H b=a5g b.hs b.nu b.d:=rfl
theorem EvQ.symm {a b:Ev} (h:EvQ a b):EvQ b a:=⟨h.a0.symm,h.a1.symm,h.a2.symm,h.a3.symm,h.a5.symm,h.a6.symm,h.s7.symm,h.s8.symm,h.ls.symm,h.fs.symm⟩
theorem EvQ.trans {a b c:Ev} (h:EvQ a b) (k:EvQ b c):EvQ a c:=⟨h.a0.trans k.a0,h.a1.trans k.a1,h.a2.trans k.a2,h.a3.trans k.a3,h.a5.trans k.a5,h.a6.trans k.a6,h.s7.trans k.s7,h.s8.trans k.s8,h.ls.trans k.ls,h.fs.trans k.fs⟩
def EvsE:List Ev→List Ev→Prop
 | [],[]=>True
 | a::l,b::r=>EvQ a b∧EvsE l r
 | _,_=>False
theorem EvsE.len:∀ {l r:List Ev},EvsE l r→l.length=r.length
 | [],[],_=>rfl
 | _::_,_::_,h=>by simp [-bind_some, h.2.len]
 | [],_::_,h=>h.elim
 | _::_,[],h=>h.elim
theorem EvsE.get:∀ {l r:List Ev},EvsE l r→∀ (i:Nat) (a b:Ev),l[i]?=some a→r[i]?=some b→EvQ a b
 | a::l,b::r,h,0,x,y,hx,hy=>by
  simp at hx hy;subst hx;subst hy;exact h.1
 | a::l,b::r,h,i+1,x,y,hx,hy=>h.2.get i x y (by simpa using hx) (by simpa using hy)
 | [],[],_,i,x,y,hx,_=>by simp at hx
 | [],_::_,h,_,_,_,_,_=>h.elim
 | _::_,[],h,_,_,_,_,_=>h.elim
theorem EvsE.app:∀ {l r l' r':List Ev},EvsE l r→EvsE l' r'→EvsE (l++l') (r++r')
 | [],[],_,_,_,k=>k
 | _::_,_::_,_,_,h,k=>⟨h.1,h.2.app k⟩
 | [],_::_,_,_,h,_=>h.elim
 | _::_,[],_,_,h,_=>h.elim
theorem a9r:∀ (its:List It) (ms:List Mrk) (ts:List Tal) (es es':List Ev),apS ms ts its≠none→apE ms its es→apE ms its es'→EvsE es es'
 | [],ms,ts,es,es',_,h,k=>by
  simp only [apE] at h k
  subst h;subst k
  trivial
 | i::r,ms,ts,es,es',hn,h,k=>by
  rw [a2X] at hn
  unfold apE at h k
  split at h
  ·rename_i ho;rw [ho] at hn;exact absurd rfl hn
  ·rename_i ho
   rw [ho] at hn k
   exact a9r r ms _ es es' hn h k
  ·rename_i kk ho
   rw [ho] at hn k
   obtain ⟨j,hj,h⟩:=h
   obtain ⟨j',hj',k⟩:=k
   have hjj:EvQ j.e j'.e:=⟨hj.a0.trans hj'.a0.symm,hj.a1.trans hj'.a1.symm,hj.a2.trans hj'.a2.symm,hj.a3.trans hj'.a3.symm,hj.a5.trans hj'.a5.symm,hj.a6.trans hj'.a6.symm,hj.s7.trans hj'.s7.symm,hj.s8.trans hj'.s8.symm,hj.ls.trans hj'.ls.symm,hj.fs.trans hj'.fs.symm⟩
   split at h
   ·rename_i hr
    rw [if_pos hr] at k
    obtain ⟨e,es0,rfl,he,h⟩:=h
    obtain ⟨e',es1,rfl,he',k⟩:=k
    exact ⟨he.trans (hjj.trans he'.symm),a9r r _ _ es0 es1 hn h k⟩
   ·rename_i hr
    rw [if_neg hr] at k
    exact a9r r _ _ es es' hn h k
theorem d6u (l:List Mrk) (d:D) (m:Mrk) (h:Hp) (hd:SlOf 3 a1K l d) (hl:l.length≤1000000):∃ d',R b1n [d,.agg (a1K m)] h=some (d',h)∧SlOf 3 a1K (a5n l m) d':=by
 suffices Wp (R b1n [d,.agg (a1K m)] h) (fun p=>p.2=h∧SlOf 3 a1K (a5n l m) p.1) by
  obtain ⟨⟨x,h'⟩,h1,rfl,h2⟩:=this
  exact ⟨x,h1,h2⟩
 have h84:=c9D l d m.h m.f h hd hl
 have hk:kM ⟨m.h,m.f,0⟩ l=kM m l:=b4O ⟨m.h,m.f,0⟩ m rfl rfl l
 have hfk:a6S l ⟨m.h,m.f,0⟩=a6S l m:=by
  have:=d7n l m.h m.f m.o
  unfold a6S at this ⊢
  exact this
 have q0:a0a tab a0Q 0 (.fptr (a1K m))=some (.fptr (a1K m)):=id rfl
 have q1:a0a tab a0Q 1 (.fptr (a1K m))=some (.fptr [.int .i64 m.f,.int .i64 m.o]):=id rfl
 have k0:a0c tab h ty3 (.fptr (a1K m))=some (.int .i64 m.h):=id rfl
 have km:∀ g:Hp,a0c tab g a0Q (.fptr (a1K m))=some (.agg (a1K m)):=fun g=>id rfl
 have hb:a0W tab a0E 1 [0] [.agg (a1K m)]=some (.sl 3 true [a1K m]):=id rfl
 have hkl:=b5K ⟨m.h,m.f,0⟩ l
 rw [hk] at h84 hkl
 rw [hfk] at h84
 obtain ⟨d1,e1,sl1⟩:=c4X hd (k := .i64) (n:=(kM m l:Int)) (by omega) (by omega)
 rw [e0r] at sl1
 rw [d2K]
 simp only [c7o,a0V,bs,q0,q1,k0,ld3,h84,a0I,e0k,e0l,e1,e0h]
 have hlt:=List.length_take_le (kM m l) l
 have hl2:(l.take (kM m l)).length≤1000000:=by omega
 refine b2P (n0:=h.length) (rows:=[]) (Nat.le_refl _) (.nils _ _ _ _) (a2l _ sl1) (by simp only [e0n,e0A];omega) fun x2 g2 o2 l2 k2 _ _=>?_
 rw [List.nil_append] at o2
 simp only [bs,km,hb]
 refine b2P (n0:=h.length) l2 o2 (a1e _ _ _ _) (by simp only [e0n,e0z,e0A];omega) fun x3 g3 o3 l3 k3 _ _=>?_
 simp only [bs]
 have fin:∀ n:Nat,n≤l.length→(l.take (kM m l)++[m]++l.drop n)=a5n l m→Wp ((a0D tab a0E true false false [d,.int .i64 (n:Int)]).bind fun t31=>(a0q tab g3 a0E a0E x3 t31).bind fun p32=>scope h p32.2 (a0f [p32.1])) fun p=>p.2=h∧SlOf 3 a1K (a5n l m) p.1:=by
  intro n hn he
  obtain ⟨d4,e4,sl4⟩:=c4Y hd (k := .i64) (n:=(n:Int)) (by omega) (by omega)
  rw [e0r] at sl4
  simp only [e4,bs]
  have hdl:(l.drop n).length≤1000000:=by simp;omega
  refine b2P (n0:=h.length) (by omega) o3 (a2l _ sl4) (by simp only [e0n,e0m,e0z,e0A];omega) fun x5 g5 o5 l5 k5 _ _=>?_
  have hr:(l.take (kM m l)).map a1K++[a1K m]++(l.drop n).map a1K=(a5n l m).map a1K:=by rw [← he];simp [-bind_some]
  rw [hr] at o5
  have sl:=a1R (n0:=h.length) (n:=3) o5 (Nat.le_refl _) fun a _=>a4X _ g5 _ a
  simp only [bs,a0j]
  rw [a0M (d':=frz h.length g5 4 x5) rfl (a1b sl fun a _=>a6E _ a) (by omega) (fun q hq=>by rw [k5 q hq,k3 q hq,k2 q hq])]
  exact .some ⟨rfl,sl⟩
 by_cases hf:a6S l m=true
 ·have hlt:kM m l<l.length:=by
    unfold a6S at hf
    cases hg:l[kM m l]? with
    | none=>rw [hg] at hf;cases hf
    | some x=>exact (e0y.1 hg).1
  have hw:IntKind.wrap .i64 ((kM m l:Int)+1)=((kM m l+1:Nat):Int):=by rw [wrap_i64 (by omega) (by omega)];omega
  simp only [hf,a0d,if_true,a0r,hw,bs,a0k,a0e]
  refine fin _ (by omega) ?_
  unfold a5n
  rw [if_pos hf,List.set_eq_take_append_cons_drop,if_pos hlt]
  simp [-bind_some]
 ·have hf':a6S l m=false:=by simpa using hf
  simp only [hf',a0d,e0i,if_false,bs,a0k,a0e]
  refine fin _ (by omega) ?_
  unfold a5n
  rw [if_neg hf]
theorem a8Q {e:Ev} {m:Int} (h9:a2y e m≠9) (h4:a2y e m≠4) (h19:a2y e m≠19):e.ls.length≤40∧∃ x r,e.ls=x::r∧x.off=e.a2:=by
 unfold a2y at h9 h4 h19
 by_cases h0:e.ls.length=0
 ·rw [if_pos h0] at h9;exact absurd rfl h9
 rw [if_neg h0] at h4 h19
 by_cases h1:40<e.ls.length
 ·rw [if_pos h1] at h4;exact absurd rfl h4
 rw [if_neg h1] at h19
 refine ⟨by omega,?_⟩
 cases hl:e.ls with
 | nil=>rw [hl] at h0;exact absurd rfl h0
 | cons x r =>
  refine ⟨x,r,rfl,?_⟩
  rw [hl] at h19
  unfold lnE at h19
  split at h19
  ·rename_i hh;exact hh.1
  ·exact absurd rfl h19
theorem itv {i:It} (h:itE i=0):i.e.ls.length≤40∧i.e.fs.length≤32∧∃ x r,i.e.ls=x::r∧x.off=i.e.a2:=by
 unfold itE at h
 by_cases hr:i.r=[]
 ·rw [if_pos hr] at h
  unfold evE at h
  split at h
  ·cases h
  split at h
  ·cases h
  split at h
  ·rename_i hh;exact absurd h hh
  rename_i hl
  have hl:a2y i.e 2000=0:=Decidable.not_not.1 hl
  obtain ⟨a,b⟩:=a8Q (e:=i.e) (m:=2000) (by rw [hl];decide) (by rw [hl];decide) (by rw [hl];decide)
  refine ⟨a,?_,b⟩
  split at h
  ·cases h
  split at h
  ·rename_i hh;exact absurd h hh
  rename_i hs
  by_cases h32:32<i.e.fs.length
  ·have:(a2O i.e.fs).1=4:=by simp only [a2O,h32,if_true]
   exact absurd this (by rw [Decidable.not_not.1 hs];decide)
  ·omega
 ·rw [if_neg hr] at h
  split at h
  ·cases h
  split at h
  ·cases h
  split at h
  ·rename_i hh
   rcases hh with hh | hh | hh <;> rw [hh] at h <;> cases h
  rename_i hl
  obtain ⟨a,b⟩:=a8Q (e:=i.e) (m:=60000) (fun x=>hl (.inl x)) (fun x=>hl (.inr (.inl x))) (fun x=>hl (.inr (.inr x)))
  refine ⟨a,?_,b⟩
  split at h
  ·cases h
  ·rename_i hh
   have:i.e.fs.length=0:=by
    by_cases h0:i.e.fs.length=0
    ·exact h0
    ·exact absurd (.inr (.inr (.inr (.inr (.inl h0))))) hh
   omega
theorem c7s (ts:List Tal) (h:Int) (r:Str):a3g ts h r ((0:Nat):Int)=ts:=by
 unfold a3g
 rw [if_pos (by omega)]
structure RfI (h g:Hp) (ms:List Mrk) (ts:List Tal) (es:List Ev) (dm dt out:D):Prop where
 len:h.length+2≤g.length
 p4:g[h.length]?=some (.row a0n 2 [[.nils,.nils]])
 p8:g[h.length+1]?=some (.row a0n 2 [[dm,dt]])
 m:SlOf 3 a1K ms dm
 t:SlOf 3 a1F ts dt
 ow:Own g (h.length+2) a0y 10 (es.map evr) out
 low:∀ q,q<h.length→g[q]?=h[q]?
theorem RfI.new {h g g':Hp} {ms:List Mrk} {ts:List Tal} {es:List Ev} {dm dt out:D} (S:RfI h g ms ts es dm dt out) (hl:g.length≤g'.length) (hk:∀ q,q<g.length→g'[q]?=g[q]?):RfI h g' ms ts es dm dt out:=by
 have:=S.len
 exact ⟨by omega,by rw [hk _ (by omega)];exact S.p4,by rw [hk _ (by omega)];exact S.p8,S.m,S.t,S.ow.keep fun q _ hin=>hk q (S.ow.lt hin).2,fun q hq=>by rw [hk _ (by omega)];exact S.low q hq⟩
theorem RfI.z {h g g':Hp} {ms:List Mrk} {ts:List Tal} {es:List Ev} {dm dt out:D} (S:RfI h g ms ts es dm dt out) {z:Nat} {row:List D} (hz:g[z]?=some (.row a0z 11 [row])) (hzl:h.length≤z) (s:Same z g g'):RfI h g' ms ts es dm dt out:=by
 have n4:h.length≠z:=a2T S.p4 hz (by decide)
 have n8:h.length+1≠z:=a2T S.p8 hz (by decide)
 have hlen:=S.len
 exact ⟨by rw [s.1];exact hlen,by rw [s.2 _ n4];exact S.p4,by rw [s.2 _ n8];exact S.p8,S.m,S.t,S.ow.keep fun q _ hin=>s.2 q fun hh=>b1D S.ow hz (by decide) (hh▸hin),fun q hq=>by rw [s.2 _ (by omega)];exact S.low q hq⟩
theorem c2v (dm dt v:D) (k:Nat) (hv:v.one=true) (hk:k<2):([[dm,dt]].set 0 (spl [dm,dt] (0+k) (a0B v)))=[[dm,dt].set k v]:=by
 rw [Nat.zero_add,b2K _ _ _ hv (by simp;omega)];rfl
theorem RfI.tal {h g:Hp} {ms:List Mrk} {ts:List Tal} {es:List Ev} {dm dt out:D} (S:RfI h g ms ts es dm dt out) {ts':List Tal} {dt':D} (ht:SlOf 3 a1F ts' dt') {z:Nat} {row:List D} (hz:g[z]?=some (.row a0z 11 [row])) {β:Type} {f:Hp→Option β} {Q:β→Prop}
  (k:∀ g',RfI h g' ms ts' es dm dt' out→g'[z]?=some (.row a0z 11 [row])→g'.length=g.length→Wp (f g') Q):Wp ((a0p tab g a1C (.ptr (h.length+1) 0 (0+1)) dt').bind f) Q:=by
 have o1:=a0X ht
 have hlen:=S.len
 have n8:h.length+1≠z:=a2T S.p8 hz (by decide)
 refine d0e (kk:=0) (off:=0+1) (row:=[dm,dt]) (v:=dt') S.p8 (by rfl) (by rw [(a0O o1).1];rfl) (by simp) (a0O o1).2 fun g' p' s'=>?_
 rw [c2v _ _ _ _ o1 (by omega)] at p'
 exact k g' ⟨by rw [s'.1];exact hlen,by rw [s'.2 _ (by omega)];exact S.p4,p',S.m,ht,S.ow.keep fun q hq _=>s'.2 q (by omega),fun q hq=>by rw [s'.2 _ (by omega)];exact S.low q hq⟩ (by rw [s'.2 _ (Ne.symm n8)];exact hz) s'.1
theorem RfI.mrk {h g:Hp} {ms:List Mrk} {ts:List Tal} {es:List Ev} {dm dt out:D} (S:RfI h g ms ts es dm dt out) {ms':List Mrk} {dm':D} (ht:SlOf 3 a1K ms' dm') {z:Nat} {row:List D} (hz:g[z]?=some (.row a0z 11 [row])) {β:Type} {f:Hp→Option β} {Q:β→Prop}
  (k:∀ g',RfI h g' ms' ts es dm' dt out→g'[z]?=some (.row a0z 11 [row])→g'.length=g.length→Wp (f g') Q):Wp ((a0p tab g a0E (.ptr (h.length+1) 0 (0+0)) dm').bind f) Q:=by
 have o1:=a0X ht
 have hlen:=S.len
 have n8:h.length+1≠z:=a2T S.p8 hz (by decide)
 refine b2R (kk:=0) (off:=0+0) (row:=[dm,dt]) (v:=dm') S.p8 (by rfl) (by rw [(a0O o1).1];rfl) (by simp) (a0O o1).2 fun g' p' s'=>?_
 rw [c2v _ _ _ _ o1 (by omega)] at p'
 exact k g' ⟨by rw [s'.1];exact hlen,by rw [s'.2 _ (by omega)];exact S.p4,p',ht,S.t,S.ow.keep fun q hq _=>s'.2 q (by omega),fun q hq=>by rw [s'.2 _ (by omega)];exact S.low q hq⟩ (by rw [s'.2 _ (Ne.symm n8)];exact hz) s'.1
theorem RfI.l0 {h g:Hp} {ms:List Mrk} {ts:List Tal} {es:List Ev} {dm dt out:D} (S:RfI h g ms ts es dm dt out):a0c tab g a0E (.ptr (h.length+1) 0 (0+0))=some dm:=by rw [b2x,a0F S.p8];rfl
theorem RfI.l1 {h g:Hp} {ms:List Mrk} {ts:List Tal} {es:List Ev} {dm dt out:D} (S:RfI h g ms ts es dm dt out):a0c tab g a1C (.ptr (h.length+1) 0 (0+1))=some dt:=by rw [c8K,a0F S.p8];rfl
theorem RfI.la {h g:Hp} {ms:List Mrk} {ts:List Tal} {es:List Ev} {dm dt out:D} (S:RfI h g ms ts es dm dt out):a0c tab g a0n (.ptr (h.length+1) 0 0)=some (.agg [dm,dt]):=by rw [a4F,a0F S.p8];rfl
structure ItV (g:Hp) (z:Nat) (i:It):Prop where
 a0:a0c tab g ty3 (.ptr z 0 (0+1+0))=some (.int .i64 i.e.a0)
 a1:a0c tab g ty3 (.ptr z 0 (0+1+1))=some (.int .i64 i.e.a1)
 a2:a0c tab g ty3 (.ptr z 0 (0+1+2))=some (.int .i64 i.e.a2)
 a3:a0c tab g ty3 (.ptr z 0 (0+1+3))=some (.int .i64 i.e.a3)
 ls:a0c tab g a1j (.ptr z 0 (0+1+4))=some i.e.ld
 r:a0c tab g ty9 (.ptr z 0 (0+0))=some (.str i.r)
 e:a0c tab g a0y (.ptr z 0 (0+1))=some (.agg (evr i.e))
 i:a0c tab g a0z (.ptr z 0 0)=some (.agg (itr i))
theorem b1t {g:Hp} {z:Nat} {i:It} (hz:g[z]?=some (.row a0z 11 [itr i])):ItV g z i:=by
 have hr:g.row z 0=some (itr i):=by rw [a0F hz];rfl
 exact ⟨by rw [a6D,hr];rfl,by rw [a6D,hr];rfl,by rw [a6D,hr];rfl,by rw [a6D,hr];rfl,by rw [a7b,hr];rfl,by rw [b0x,hr];rfl,by rw [b8j,hr];rfl,by rw [b2y,hr];rfl⟩
theorem c9Q {b:Bat} (h40:b.its.length≤40) (hall:∀ i∈b.its,itE i=0∧i.e.a0=b.hs∧i.r≠[42]) (hck1:∀ g,R b1j [.agg (a3H b)] g=some (.int .i64 0,g)) {ms:List Mrk} {ts:List Tal} {dm0 dt0:D} (h:Hp) (hm:SlOf 3 a1K ms dm0) (ht:SlOf 3 a1F ts dt0) (hml:ms.length≤10000) (htl:ts.length≤10000) :
  ∃ x,R b4H [.agg [dm0,dt0],.agg (a3H b)] h=some (x,h)∧a4w ms ts dm0 dt0 b.its x:=by
 suffices Wp (R b4H [.agg [dm0,dt0],.agg (a3H b)] h) (fun p=>p.2=h∧a4w ms ts dm0 dt0 b.its p.1) by
  obtain ⟨⟨x,h'⟩,h1,rfl,h2⟩:=this
  exact ⟨x,h1,h2⟩
 have hbl:∀ g:Hp,a0c tab g a0u (.fptr (a3H b))=some (.agg (a3H b)):=fun g=>id rfl
 have k2:∀ g:Hp,a0c tab g a0n (.fptr [dm0,dt0])=some (.agg [dm0,dt0]):=fun g=>id rfl
 have hok:∀ {x y:D},x.one=true→y.one=true→(D.agg [x,y]).okv=true:=fun {x y} h1 h2=>by
  cases x <;> first | (cases y <;> first | rfl | (simp [-bind_some, D.one] at h2)) | (simp [-bind_some, D.one] at h1)
 have hp0:(a0C h a0n 2 [[.nils,.nils]])[h.length]?=some (.row a0n 2 [[.nils,.nils]]):=a0Z _ _ _ _
 have hpl:(a0C h a0n 2 [[.nils,.nils]]).length=h.length+1:=by simp [-bind_some, a0C]
 have hpo:∀ q,q<h.length→(a0C h a0n 2 [[.nils,.nils]])[q]?=h[q]?:=fun q hq=>a0H _ _ _ _ hq
 generalize hP4:((D.ptr h.length 0 0,a0C h a0n 2 [[.nils,.nils]]):D × Hp)=p4
 have hp1:p4.1 = .ptr h.length 0 0:=by rw [← hP4]
 have hp2:p4.2=a0C h a0n 2 [[.nils,.nils]]:=by rw [← hP4]
 generalize a0C h a0n 2 [[.nils,.nils]]=g0 at hp0 hpl hpo hp2
 have r1:=hck1 g0
 rw [d2J]
 simp only [c7m,a0V,bs,hP4,hp2,hbl,r1,a0A,ne_eq,not_true,decide_false,a0d,e0i,if_false,k2,hpl,e0h]
 have q8:(a0C g0 a0n 2 [[.nils,.nils]])[h.length+1]?=some (.row a0n 2 [[.nils,.nils]]):=by rw [← hpl];exact a0Z _ _ _ _
 have ho8:∀ q,q<h.length+1→(a0C g0 a0n 2 [[.nils,.nils]])[q]?=g0[q]?:=fun q hq=>a0H _ _ _ _ (by omega)
 have hl8:(a0C g0 a0n 2 [[.nils,.nils]]).length=h.length+2:=by simp [-bind_some, a0C,hpl]
 generalize hP8:((D.ptr (h.length+1) 0 0,a0C g0 a0n 2 [[.nils,.nils]]):D × Hp)=p8
 have hp81:p8.1 = .ptr (h.length+1) 0 0:=by rw [← hP8]
 have hp82:p8.2=a0C g0 a0n 2 [[.nils,.nils]]:=by rw [← hP8]
 generalize a0C g0 a0n 2 [[.nils,.nils]]=g1 at q8 ho8 hl8 hp82
 refine a4k (kk:=0) (off:=0) (row:=[.nils,.nils]) (v := .agg [dm0,dt0]) q8 (by rfl) (by rfl) (by simp) (hok (a0X hm) (a0X ht)) fun g2 u8 s8=>?_
 replace u8:g2[h.length+1]?=some (.row a0n 2 [[dm0,dt0]]):=u8
 have S0:RfI h g2 ms ts [] dm0 dt0 .nils:=⟨by rw [s8.1];omega,by rw [s8.2 _ (by omega),ho8 _ (by omega)];exact hp0,u8,hm,ht,.nils _ _ _ _,fun q hq=>by rw [s8.2 _ (by omega),ho8 _ (by omega),hpo _ hq]⟩
 clear u8 s8 q8 ho8 hl8 hp0 hpl hpo r1
 simp only [hp1]
 refine Wp.loop (fun k ds g=>∃ (n:Nat) (c1 c2 c3 c4 c5 c6 c7 c8 c9 c10 c11:D) (ms':List Mrk) (ts':List Tal) (es:List Ev) (dm dt out:D),ds=[.nils,.int .i64 0,out,.int .i64 n,c1,c2,c3,c4,c5,c6,c7,c8,c9,c10,c11]∧k+n=b.its.length∧RfI h g ms' ts' es dm dt out ∧
   ms'.length≤ms.length+n∧ts'.length≤ts.length+2*n∧es.length≤n∧apS ms ts b.its=apS ms' ts' (b.its.drop n)∧∀ es',apE ms' (b.its.drop n) es'→apE ms b.its (es++es'))
  (fun r=>(r.1 = .ret∧nth 0 r.2.1 = .nils∧nth 1 r.2.1 = .int .i64 23∧apS ms ts b.its=none∧h.length≤r.2.2.length∧(∀ q,q<h.length→r.2.2[q]?=h[q]?)∧r.2.2[h.length]?=some (.row a0n 2 [[dm0,dt0]])) ∨
   (r.1 = .ext 0∧∃ (ms':List Mrk) (ts':List Tal) (es:List Ev) (dm dt out:D),nth 2 r.2.1=out∧RfI h r.2.2 ms' ts' es dm dt out∧apS ms ts b.its=some (ms',ts')∧apE ms b.its es∧es.length≤b.its.length))
  b.its.length ⟨0,_,_,_,_,_,_,_,_,_,_,_,ms,ts,[],dm0,dt0,.nils,rfl,rfl,S0,by omega,by omega,by simp,rfl,fun es' he=>he⟩ ?_ ?_
 ·rintro k ds g ⟨n,c1,c2,c3,c4,c5,c6,c7,c8,c9,c10,c11,ms',ts',es,dm,dt,out,rfl,hk,S,hlm,hlt,hle,hap,hev⟩
  simp only [b3v,hp1,hp81,a0e,a0m,bs,e0h,d0M,bx2,a7W,a4e b.hd,a0o]
  refine Wp.dif ?_ ?_
  ·intro h0
   have h0:n<b.its.length:=dl_ h0
   obtain ⟨i,hi⟩:=gx_ h0
   have hdr:=b6X hi
   obtain ⟨hv0,hv1,hv2⟩:=hall i (e0w hi)
   obtain ⟨hi40,hi32,y,r,hyr,hyo⟩:=itv hv0
   have hwn:=wi_ n (by omega)
   have hix:a0b tab a0S b.d (.int .i64 (n:Int))=some (.fptr (itr i)):=by rw [a6T b.hd];simp [-bind_some, hi]
   have hz74:([.str [],.int .i64 0,.int .i64 0,.int .i64 0,.int .i64 0,.nils,.int .i64 0,.int .i64 0,.str [],.str [],.nils]:List D)=itr it0:=rfl
   have hlen:=S.len
   have a1:(a0C g a0z 11 [itr it0])[g.length]?=some (.row a0z 11 [itr it0]):=a0Z _ _ _ _
   have S1:RfI h (a0C g a0z 11 [itr it0]) ms' ts' es dm dt out:=S.new (by simp [-bind_some, a0C]) fun q hq=>a0H _ _ _ _ hq
   simp only [hix,b2w,bs,hz74]
   generalize a0C g a0z 11 [itr it0]=g3 at a1 S1 ⊢
   refine a6K (kk:=0) (off:=0) (row:=itr it0) (v := .agg (itr i)) a1 (by rfl) (by rfl) (by exact Nat.le_refl _) (b2t _) fun g4 p4' s4=>?_
   have p4':g4[g.length]?=some (.row a0z 11 [itr i]):=p4'
   have S2:=S1.z a1 (by omega) s4
   have V:=b1t p4'
   clear a1 S1 s4
   have e77:=d6g ms' dm dt i.e.a0 i.e.a1 g4 S2.m (by omega)
   simp only [S2.la,a2I,a9I,a9J,a5v,a7O,a2c,V.a0,V.a1,V.ls,V.a3,a2L i.e.hld,e77,bs,a2u]
   rw [hdr,a2X] at hap
   rw [hdr] at hev
   have hEx:∀ es',apE ms' (i::b.its.drop (n+1)) es'=apE ms' (i::b.its.drop (n+1)) es':=fun _=>rfl
   generalize hmk:a1s ms' i.e.a0 i.e.a1=mk at e77 hap
   have fin:∀ (g':Hp),h.length≤g'.length→(∀ q,q<h.length→g'[q]?=h[q]?)→g'[h.length]?=some (.row a0n 2 [[.nils,.nils]])→∀ {f:Hp→Option Out} {Q:Out→Prop},(∀ g'',h.length≤g''.length→(∀ q,q<h.length→g''[q]?=h[q]?)→g''[h.length]?=some (.row a0n 2 [[dm0,dt0]])→Wp (f g'') Q) →
     Wp ((a0p tab g' a0n (.ptr h.length 0 0) (.agg [dm0,dt0])).bind f) Q:=by
    intro g' hl hb hp f Q k
    refine a4k (kk:=0) (off:=0) (row:=[.nils,.nils]) hp (by rfl) (by rfl) (by simp) (hok (a0X hm) (a0X ht)) fun g'' u' s'=>?_
    exact k g'' (by rw [s'.1];exact hl) (fun q hq=>by rw [s'.2 _ (by omega)];exact hb q hq) u'
   have hs0:=bxl b.hs b.nu b.d
   have hbx:=bx0 b.hs b.nu b.d
   have hdup:([42]:Str)=a6z:=rfl
   refine Wp.bind (P:=fun r:Out=>(r.1 = .nrm∧∃ ms2 ts2 es2 dm2 dt2 out2,nth 0 r.2.1 = .nils∧nth 1 r.2.1 = .int .i64 0∧nth 2 r.2.1=out2∧RfI h r.2.2 ms2 ts2 es2 dm2 dt2 out2∧ms2.length≤ms.length+(n+1)∧ts2.length≤ts.length+2*(n+1)∧es2.length≤n+1∧apS ms ts b.its=apS ms2 ts2 (b.its.drop (n+1))∧∀ es',apE ms2 (b.its.drop (n+1)) es'→apE ms b.its (es2++es')) ∨
     (r.1 = .ret∧nth 0 r.2.1 = .nils∧nth 1 r.2.1 = .int .i64 23∧apS ms ts b.its=none∧h.length≤r.2.2.length∧(∀ q,q<h.length→r.2.2[q]?=h[q]?)∧r.2.2[h.length]?=some (.row a0n 2 [[dm0,dt0]]))) ?_ ?_
   ·refine Wp.dif (fun hA=>?_) fun hA=>?_
    ·
     have hA:i.e.a3≤mk:=by simpa using hA
     have hO:tkO mk i=some none:=by unfold tkO;rw [if_pos hA]
     obtain ⟨dt2,e60,sl60⟩:=s60 ts' dt b.hs [42] (i.e.ls.length:Int) g4 S2.t (by omega) (by omega)
     simp only [a6c,S2.l1,hbx,hs0,e60,bs]
     refine S2.tal sl60 p4' fun g5 S3 z5 l5=>?_
     rw [hO] at hap
     simp only [hv1] at hap
     have hal:=a2W ts' b.hs a6z (i.e.ls.length:Int)
     refine .some (.inl ⟨rfl,ms',_,es,dm,dt2,out,rfl,rfl,rfl,S3,by omega,by rw [hdup];omega,by omega,hap,fun es' he=>hev es' ?_⟩)
     unfold apE
     rw [hmk,hO]
     exact he
    have hA:¬ i.e.a3≤mk:=by simpa using hA
    simp only [V.a2,bs,a0o]
    refine Wp.bind (P:=fun r:Out=>(r.1 = .nrm∧nth 0 r.2.1 = .nils∧nth 1 r.2.1 = .int .i64 0∧∃ (x:It) (kk:Nat) (dt1:D),RfI h r.2.2 ms' (a3g ts' i.e.a0 a6z (kk:Nat)) es dm dt1 out∧r.2.2[g.length]?=some (.row a0z 11 [itr x])∧((CutOf i mk kk x∧tkO mk i=some (some kk))∨(x=i∧mk<i.e.a2∧tkO mk i=none))) ∨
      (r.1 = .ret∧nth 0 r.2.1 = .nils∧nth 1 r.2.1 = .int .i64 23∧tkO mk i=none∧h.length≤r.2.2.length∧(∀ q,q<h.length→r.2.2[q]?=h[q]?)∧r.2.2[h.length]?=some (.row a0n 2 [[dm0,dt0]]))) ?_ ?_
    ·refine Wp.dif (fun hB=>?_) fun hB=>?_
     ·have hB:i.e.a2<mk:=by simpa using hB
      have hidx:idx (fun l:Lin=>decide (l.off=mk)) 0 i.e.ls=idx (fun l:Lin=>decide (l.off=mk)) 1 (i.e.ls.drop 1):=by
       rw [hyr]
       have:¬ y.off=mk:=by omega
       simp [-bind_some, idx,this]
      obtain ⟨j,e3,hj⟩:=d5H i mk g4 (by omega)
      rw [← hidx] at e3 hj
      generalize hkk:idx (fun l:Lin=>decide (l.off=mk)) 0 i.e.ls=kk at e3 hj
      simp only [V.i,e3,bs,a0I,e0k,e0l,b0G,a1A]
      by_cases hk1:kk<1
      ·have hO:tkO mk i=none:=by unfold tkO;rw [if_neg hA,if_neg (by omega),if_pos hB,hkk,if_pos hk1]
       simp only [hk1,not_true,decide_false,e0t,a0d,if_true,k2,hp1,bs,e0h]
       refine fin g4 (by have:=S2.len;omega) S2.low S2.p4 fun g5 a5 b5 c5=>?_
       exact .some (.inr ⟨rfl,rfl,rfl,hO,a5,b5,c5⟩)
      ·have hO:tkO mk i=some (some kk.toNat):=by unfold tkO;rw [if_neg hA,if_neg (by omega),if_pos hB,hkk,if_neg hk1]
       rw [if_neg hk1] at hj
       have hjl:j.e.ls.length=i.e.ls.length - kk.toNat:=by rw [hj.ls,e0B]
       have hrg:=a6l (fun l:Lin=>decide (l.off=mk)) i.e.ls 0
       rw [hkk] at hrg
       simp only [hk1,not_false_eq_true,decide_true,e0s,a0d,e0i,if_false,b2w,bs,e0h]
       refine a6K (kk:=0) (off:=0) (row:=itr i) (v := .agg (itr j)) p4' (by rfl) (by rfl) (by exact Nat.le_refl _) (b2t _) fun g5 p5' s5=>?_
       have p5':g5[g.length]?=some (.row a0z 11 [itr j]):=p5'
       have S3:=S2.z p4' (by omega) s5
       have V3:=b1t p5'
       have hwk:IntKind.wrap .i64 ((i.e.ls.length:Int) - (j.e.ls.length:Int))=(kk.toNat:Int):=by rw [wrap_i64 (by omega) (by omega)];omega
       obtain ⟨dt2,e60,sl60⟩:=s60 ts' dt b.hs [42] (kk.toNat:Int) g5 S3.t (by omega) (by omega)
       simp only [a6c,S3.l1,hbx,hs0,a2I,a2c,V3.ls,a2L j.e.hld,a0N,hwk,e60,bs]
       refine S3.tal sl60 p5' fun g6 S4 z6 l6=>?_
       refine .some (.inl ⟨rfl,rfl,rfl,j,kk.toNat,dt2,?_,z6,.inl ⟨hj,hO⟩⟩)
       rw [hv1];exact S4
     ·have hB:¬ i.e.a2<mk:=by simpa using hB
      refine .some (.inl ⟨rfl,rfl,rfl,i,0,dt,by rw [c7s];exact S2,p4',?_⟩)
      by_cases hC:mk<i.e.a2
      ·exact .inr ⟨rfl,hC,by unfold tkO;rw [if_neg hA,if_pos hC]⟩
      ·refine .inl ⟨⟨rfl,rfl,rfl,by omega,rfl,rfl,rfl,rfl,rfl,by simp,rfl⟩,?_⟩
       unfold tkO;rw [if_neg hA,if_neg hC,if_neg hB]
    rintro ⟨ex,dq,g5⟩ (⟨rfl,n0,n1,x,kk,dt1,S3,z3,hx⟩ | ⟨rfl,n0,n1,hO,a5,b5,c5⟩)
    ·simp only at n0 n1 S3 z3
     have V3:=b1t z3
     simp only [a0k,V3.a2,bs,a0x,n0,n1,hp1]
     rcases hx with ⟨hj,hO⟩ | ⟨rfl,hC,hO⟩
     case inr =>
      simp only [gt_iff_lt,hC,decide_true,a0d,if_true,k2,bs,e0h]
      refine fin g5 (by have:=S3.len;omega) S3.low S3.p4 fun g6 a6 b6 c6=>?_
      rw [hO] at hap
      exact .some (.inr ⟨rfl,rfl,rfl,hap,a6,b6,c6⟩)
     have ha2:¬ x.e.a2>mk:=by have:=hj.a2;omega
     obtain ⟨dm2,e10,sl10⟩:=d6u ms' dm ⟨x.e.a0,x.e.a1,x.e.a3⟩ g5 S3.m (by omega)
     have e10:R b1n [dm,.agg [.int .i64 x.e.a0,.int .i64 x.e.a1,.int .i64 x.e.a3]] g5=some (dm2,g5):=e10
     simp only [ha2,decide_false,a0d,e0i,if_false,a7M,S3.l0,V3.a0,V3.a1,V3.a3,b0F,e10,bs,e0h]
     refine S3.mrk sl10 z3 fun g6 S4 z6 l6=>?_
     have V4:=b1t z6
     have hxl:x.e.ls.length=i.e.ls.length - kk:=by rw [hj.ls,e0B]
     have hal:=a2W ts' i.e.a0 a6z (kk:Nat)
     obtain ⟨dt2,e60,sl60⟩:=s60 (a3g ts' i.e.a0 a6z (kk:Nat)) dt1 b.hs x.r (x.e.ls.length:Int) g6 S4.t (by omega) (by omega)
     simp only [a6c,S4.l1,hbx,hs0,a9K,V4.r,V4.ls,a2L x.e.hld,e60,bs]
     refine S4.tal sl60 z6 fun g7 S5 z7 l7=>?_
     have V5:=b1t z7
     have hal2:=a2W (a3g ts' i.e.a0 a6z (kk:Nat)) b.hs x.r (x.e.ls.length:Int)
     have hsl:=a7v ms' ⟨x.e.a0,x.e.a1,x.e.a3⟩
     rw [hO] at hap
     simp only at hap
     rw [← hxl,← hj.r,← hj.a1,← hj.a3] at hap
     have ha0:i.e.a0=x.e.a0:=hj.a0.symm
     have hxh:b.hs=i.e.a0:=hv1.symm
     have hap2:apS ms ts b.its=apS (a5n ms' ⟨x.e.a0,x.e.a1,x.e.a3⟩) (a3g (a3g ts' i.e.a0 a6z (kk:Nat)) b.hs x.r (x.e.ls.length:Int)) (b.its.drop (n+1)):=by
      rw [hap,hxh,ha0]
     simp only [V5.r,a1E,bs]
     by_cases hr:x.r=[]
     ·have hr':(x.r==([]:Str))=true:=by simpa using hr
      have hbs:a0W tab a3f 1 [0] [.agg (evr x.e)]=some (.sl 10 true [evr x.e]):=id rfl
      have hlen5:=S5.len
      simp only [hr',a0d,if_true,V5.e,hbs,bs,e0h]
      refine c5n (n0:=h.length+2) (by omega) S5.ow (a1e _ _ _ _) (by simp only [e0n,e0z,e0A];omega) fun x9 g9 o9 l9 k9 k9' i9=>?_
      have ho9:es.map evr++[evr x.e]=(es++[x.e]).map evr:=by rw [e0o];rfl
      rw [ho9] at o9
      simp only [bs,a1u,a0e,a0m]
      refine .some (.inl ⟨rfl,_,_,es++[x.e],dm2,dt2,x9,rfl,rfl,rfl,⟨by show h.length+2≤g9.length;omega,by rw [k9 _ (by omega)];exact S5.p4,by rw [k9 _ (by omega)];exact S5.p8,S5.m,S5.t,o9,fun q hq=>by rw [k9 _ (by omega)];exact S5.low q hq⟩,by omega,by omega,by simp;omega,hap2,fun es' he=>?_⟩)
      rw [List.append_assoc]
      refine hev _ ?_
      unfold apE
      rw [hmk,hO]
      refine ⟨x,hj,?_⟩
      rw [if_pos (by rw [← hj.r];exact hr),← hj.a1,← hj.a3,ha0]
      exact ⟨x.e,es',rfl,⟨rfl,rfl,rfl,rfl,rfl,rfl,rfl,rfl,rfl,rfl⟩,he⟩
     ·have hr':(x.r==([]:Str))=false:=by simpa using hr
      simp only [hr',a0d,e0i,if_false,bs,a1u,a0e,a0m]
      refine .some (.inl ⟨rfl,_,_,es,dm2,dt2,out,rfl,rfl,rfl,S5,by omega,by omega,by omega,hap2,fun es' he=>hev _ ?_⟩)
      unfold apE
      rw [hmk,hO]
      refine ⟨x,hj,?_⟩
      rw [if_neg (by rw [← hj.r];exact hr),← hj.a1,← hj.a3,ha0]
      exact he
    ·simp only at n0 n1 a5 b5 c5
     rw [hO] at hap
     simp only [a2m,a2t,n0,n1]
     exact .some (.inr ⟨rfl,rfl,rfl,hap,a5,b5,c5⟩)
   rintro ⟨ex,dq,g5⟩ (⟨rfl,ms2,ts2,es2,dm2,dt2,out2,n0,n1,n2,S5,h1,h2,h3,h4,h5⟩ | ⟨rfl,n0,n1,hO,a5,b5,c5⟩)
   ·simp only at n0 n1 n2 S5
    simp only [a0k,a0r,hwn,bs,n0,n1,n2]
    exact .some (.inl ⟨rfl,k - 1,by omega,n+1,_,_,_,_,_,_,_,_,_,_,_,ms2,ts2,es2,dm2,dt2,out2,rfl,by omega,S5,h1,h2,h3,h4,h5⟩)
   ·simp only at n0 n1 a5 b5 c5
    simp only [a2m,n0,n1]
    exact .some (.inr ⟨by simp,.inl ⟨rfl,rfl,rfl,hO,a5,b5,c5⟩⟩)
  ·intro h0
   have h0:n=b.its.length:=by
    have:¬ (n:Int)<b.its.length:=by simpa using h0
    omega
   subst h0
   rw [List.drop_length] at hap hev
   refine .some (.inr ⟨by simp,.inr ⟨rfl,ms',ts',es,dm,dt,out,rfl,S,hap,?_,by omega⟩⟩)
   have:=hev [] rfl
   rwa [List.append_nil] at this
 ·rintro ⟨ex,dq,g⟩ (⟨rfl,n0,n1,hO,a5,b5,c5⟩ | ⟨rfl,ms',ts',es,dm,dt,out,n2,S,hap,hev,hle⟩)
  ·simp only at n0 n1 a5 b5 c5
   have lq:a0c tab g a0n (.ptr h.length 0 0)=some (.agg [dm0,dt0]):=by rw [a4F,a0F c5];rfl
   simp only [a2t,a2m,a2H,a0e,a0m,bs,hp1,lq,n0,n1,a8a]
   have hfz:frz h.length g 4 (.tup [.agg [dm0,dt0],.nils,.int .i64 23]) = .tup [.agg [dm0,dt0],.nils,.int .i64 23]:=by
    have z1:=a1P (n0:=h.length) (h:=g) (n:=1) hm (fun a _=>a4X _ g _ a)
    have z2:=a1P (n0:=h.length) (h:=g) (n:=1) ht (fun a _=>a2P _ g _ a)
    simp only [a6A,a5x,e0p,e0q,z1,z2,a9Q,a4B]
   rw [a0M hfz (.tup _ fun d hd=>by
    simp at hd
    rcases hd with rfl | rfl | rfl
    ·refine .agg _ fun d hd=>?_
     simp at hd
     rcases hd with rfl | rfl
     ·exact a1b hm fun a _=>a6E _ a
     ·exact a1b ht fun a _=>a3t _ a
    ·constructor
    ·constructor) a5 b5]
   refine .some ⟨rfl,?_⟩
   unfold a4w
   rw [hO]
  ·simp only at n2 S
   have hlen:=S.len
   simp only [a0l,a0k,a0e,a0m,bs,hp1,S.la,n2,e0h]
   refine a4k (kk:=0) (off:=0) (row:=[.nils,.nils]) (v := .agg [dm,dt]) S.p4 (by rfl) (by rfl) (by simp) (hok (a0X S.m) (a0X S.t)) fun g4 q4 s4=>?_
   replace q4:g4[h.length]?=some (.row a0n 2 [[dm,dt]]):=q4
   have lq:a0c tab g4 a0n (.ptr h.length 0 0)=some (.agg [dm,dt]):=by rw [a4F,a0F q4];rfl
   simp only [lq,bs,a8a]
   have ow:=S.ow.keep (h':=g4) fun q hq _=>s4.2 q (by omega)
   have sl:=a1R (n0:=h.length) (n:=2) ow (by omega) fun a _=>b2g h.length g4 1 a
   have z1:=a1P (n0:=h.length) (h:=g4) (n:=1) S.m (fun a _=>a4X _ g4 _ a)
   have z2:=a1P (n0:=h.length) (h:=g4) (n:=1) S.t (fun a _=>a2P _ g4 _ a)
   have hfz:frz h.length g4 4 (.tup [.agg [dm,dt],out,.int .i64 0]) = .tup [.agg [dm,dt],frz h.length g4 3 out,.int .i64 0]:=by
    simp only [a6A,a5x,e0p,e0q,a4B,z1,z2]
   rw [a0M hfz (.tup _ fun d hd=>by
    simp at hd
    rcases hd with rfl | rfl | rfl
    ·refine .agg _ fun d hd=>?_
     simp at hd
     rcases hd with rfl | rfl
     ·exact a1b S.m fun a _=>a6E _ a
     ·exact a1b S.t fun a _=>a3t _ a
    ·exact a1b sl fun a _=>b3S _ a
    ·constructor) (by have:=s4.1;omega) (fun q hq=>by rw [s4.2 _ (by omega)];exact S.low q hq)]
   refine .some ⟨rfl,?_⟩
   unfold a4w
   rw [hap]
   exact ⟨_,_,_,es,rfl,S.m,S.t,sl,hev,hle⟩
def tS (x y:Ev × Nat):Prop:=a2S x.1 y.1=true∨(a2S y.1 x.1=false∧x.2<y.2)
theorem c1m (a b:Ev):a2S a b=false↔¬ (a.a5<b.a5∨(a.a5=b.a5∧(a.a0<b.a0∨(a.a0=b.a0∧(a.a1<b.a1∨(a.a1=b.a1∧a.a2<b.a2)))))):=by
 rw [← a7X]
 cases a2S a b <;> simp [-bind_some]
theorem d6z (x y z:Ev × Nat) (h:tS x y) (k:tS y z):tS x z:=by
 unfold tS at *
 rw [a7X,c1m] at *
 omega
def cE (x y:Ev × Nat):Int:=if a2S x.1 y.1=true then -1 else if a2S y.1 x.1=true then 1 else 0
theorem c7G (x y:Ev × Nat):cE x y<0↔a2S x.1 y.1=true:=by
 unfold cE
 split
 ·simp [-bind_some, *]
 ·split
  ·simp [-bind_some, *]
  ·simp [-bind_some, *]
theorem d6y:SOrd cE tS (fun x y=>x.2<y.2) where
 tr:=d6z
 lt:=fun x y _ h => .inl ((c7G y x).1 h)
 ge:=fun x y h k=>by
  rw [c7G] at k
  exact .inr ⟨by simpa using k,h⟩
theorem c3k:∀ (es:List Ev) (n:Nat),(es.zipIdx n).Pairwise (fun x y=>x.2<y.2)∧∀ x∈es.zipIdx n,n≤x.2
 | [],n=>by simp
 | e::r,n=>by
  obtain ⟨h1,h2⟩:=c3k r (n+1)
  rw [List.zipIdx_cons]
  refine ⟨List.pairwise_cons.2 ⟨fun x hx=>by have:=h2 x hx;simp only;omega,h1⟩,fun x hx=>?_⟩
  rcases e0D.1 hx with rfl | hx
  ·simp [-bind_some]
  ·have:=h2 x hx;omega
theorem EvsE.mk:∀ {l r:List Ev},l.length=r.length→(∀ (i:Nat) a b,l[i]?=some a→r[i]?=some b→EvQ a b)→EvsE l r
 | [],[],_,_=>trivial
 | a::l,b::r,h,k=>⟨k 0 a b rfl rfl,EvsE.mk (by simpa using h) fun i x y hx hy=>k (i+1) x y (by simpa using hx) (by simpa using hy)⟩
 | [],_::_,h,_=>by simp at h
 | _::_,[],h,_=>by simp at h
theorem EvsE.take:∀ {l r:List Ev},EvsE l r→∀ n,EvsE (l.take n) (r.take n)
 | _,_,_,0=>by simp only [List.take_zero];trivial
 | [],[],_,n+1=>trivial
 | _::_,_::_,h,n+1=>⟨h.1,h.2.take n⟩
 | [],_::_,h,_+1=>h.elim
 | _::_,[],h,_+1=>h.elim
theorem EvsE.drop:∀ {l r:List Ev},EvsE l r→∀ n,EvsE (l.drop n) (r.drop n)
 | _,_,h,0=>h
 | [],[],_,n+1=>trivial
 | _::_,_::_,h,n+1=>h.2.drop n
 | [],_::_,h,_+1=>h.elim
 | _::_,[],h,_+1=>h.elim
abbrev TE:=Ev × Nat
def evt (p:TE):List D:=evr p.1
theorem b7c (p:TE):(D.agg (evt p)).okv=true:=by
 obtain ⟨e,n⟩:=p
 have h1:=a0X e.hld
 have h2:=a0X e.hfd
 have h3:(D.agg (evt (e,n))) = .agg [.int .i64 e.a0,.int .i64 e.a1,.int .i64 e.a2,.int .i64 e.a3,e.ld,.int .i64 e.a5,.int .i64 e.a6,.str e.s7,.str e.s8,e.fd]:=rfl
 rw [h3]
 generalize e.ld=a at h1
 generalize e.fd=b at h2
 simp [-bind_some, D.okv,h1,h2,D.one]
theorem c2A {h:Hp} {q k T z:Nat} {rows:List (List D)} {p:TE} (hq:h[q]?=some (.row T z rows)) (hk:rows[k]?=some (evt p)):a0c tab h a0y (.ptr q k 0)=some (.agg (evt p)):=by
 rw [b8j,a0F hq,hk]
 rfl
theorem d5x (c:TE→TE→Int) (cmp:D) (hc:∀ x y g,a3o R cmp [.agg (evt x),.agg (evt y)] g=some (.int .i64 (c x y),g)) (ob N a:Nat) (hN:N≤1000000000) {β:Type} {K:Out→Option β} {Q:β→Prop}
  (l:List TE) (hl:l.length=N) (j:Nat) (hj:j<N) (h:Hp) (ho:h[ob]?=some (.row a0y 10 (l.map evt))) (b:D)
  (k:∀ x y h',h'[ob]?=some (.row a0y 10 ((dn c a j l).map evt))→Same ob h h'→Wp (K (.ext 2,[x,y],h')) Q) :
  Wp ((a0J (a9p (.msl 10 ob 0 N) (.int .i64 a) cmp) [.int .i64 j,b] h).bind K) Q:=by
 generalize hV:dn c a j l=V at k
 refine Wp.loop (fun n ds g=>∃ b,∃ j:Nat,∃ l':List TE,n=j∧ds=[.int .i64 j,b]∧l'.length=N∧j<N∧g[ob]?=some (.row a0y 10 (l'.map evt))∧Same ob h g∧dn c a j l'=V)
  (fun r=>r.1 = .ext 2∧(∃ x y,r.2.1=[x,y])∧r.2.2[ob]?=some (.row a0y 10 (V.map evt))∧Same ob h r.2.2) j ⟨b,j,l,rfl,rfl,hl,hj,ho,.refl _ _,hV⟩ ?_ ?_
 ·clear ho hl hj hV l j
  rintro n ds g ⟨b,j,l,rfl,rfl,hl,hj,ho,sm,hV⟩
  simp only [a9p,a0e,a0m,bs,e0h,a0x]
  cases n with
  | zero =>
   have hq:¬ (a:Int)<((0:Nat):Int):=by omega
   have hV:l=V:=hV
   subst hV
   simp only [hq,decide_false,a0v,a0Y,e0i,if_false,reduceCtorEq,bs,a0g,a0d]
   exact .some (.inr ⟨by simp,rfl,⟨_,_,rfl⟩,ho,sm⟩)
  | succ j =>
   have g1:l[j+1]?=some l[j+1]:=e0x (by omega)
   have g0:l[j]?=some l[j]:=e0x (by omega)
   unfold dn at hV
   rw [g1,g0] at hV
   simp only at hV
   generalize l[j+1]=x at g1 hV
   generalize l[j]=y at g0 hV
   by_cases ha:a<j+1
   ·have ha':(a:Int)<((j+1:Nat):Int):=by omega
    have hw:IntKind.wrap .i64 (((j+1:Nat):Int) - 1)=(j:Int):=by
     rw [wrap_i64 (by omega) (by omega)];omega
    have i1:(0:Int)≤((j+1:Nat):Int)∧((j+1:Nat):Int)<(N:Int):=by omega
    have i0:(0:Int)≤(j:Int)∧(j:Int)<(N:Int):=by omega
    have m1:(l.map evt)[j+1]?=some (evt x):=by rw [e0v,g1];rfl
    have m0:(l.map evt)[j]?=some (evt y):=by rw [e0v,g0];rfl
    simp only [ha',decide_true,a0v,a0Y,if_true,d5l,i1,i0,and_self,Nat.zero_add,e0r,a0N,hw,bs,c2A ho m1,c2A ho m0,hc,a0o,a0g]
    by_cases hlt:c x y<0
    ·rw [if_pos ⟨ha,hlt⟩] at hV
     simp only [hlt,decide_true,a0d,if_true]
     refine c1L ho m1 (by rfl) (by simp [-bind_some, evt,evr]) (b7c _) fun g2 p2 s2=>?_
     rw [show spl (evt x) 0 (a0B (.agg (evt y)))=evt y from id rfl,a4j] at p2
     have m2:((l.set (j+1) y).map evt)[j]?=some (evt y):=by
      rw [e0v,e0I (by omega),g0];rfl
     try simp only [bs,i0,and_self,if_true,Nat.zero_add,e0r]
     refine c1L p2 m2 (by rfl) (by simp [-bind_some, evt,evr]) (b7c _) fun g3 p3 s3=>?_
     rw [show spl (evt y) 0 (a0B (.agg (evt x)))=evt x from id rfl,a4j] at p3
     try simp only [bs]
     exact .some (.inl ⟨rfl,j,by omega,_,j,_,rfl,rfl,by simpa using hl,by omega,p3,(sm.trans s2).trans s3,hV⟩)
    ·rw [if_neg (fun hh=>hlt hh.2)] at hV
     subst hV
     simp only [hlt,decide_false,a0d,e0i,if_false]
     exact .some (.inr ⟨by simp,rfl,⟨_,_,rfl⟩,ho,sm⟩)
   ·rw [if_neg (fun hh=>ha hh.1)] at hV
    subst hV
    have ha':¬ (a:Int)<((j+1:Nat):Int):=by omega
    simp only [ha',decide_false,a0v,a0Y,e0i,if_false,reduceCtorEq,bs,a0g,a0d]
    exact .some (.inr ⟨by simp,rfl,⟨_,_,rfl⟩,ho,sm⟩)
 ·rintro ⟨x,ds,g⟩ ⟨rfl,⟨u,v,rfl⟩,h1,h2⟩
  exact k u v g h1 h2
theorem d6w (c:TE→TE→Int) (cmp:D) (hc:∀ x y g,a3o R cmp [.agg (evt x),.agg (evt y)] g=some (.int .i64 (c x y),g)) (ob N a b:Nat) (hN:N≤1000000000) (hab:a<b∨(a=b∧b≤N)) (hb:b≤N)
  (l:List TE) (hl:l.length=N) (h:Hp) (ho:h[ob]?=some (.row a0y 10 (l.map evt))) :
  ∃ d h',R a8L [.msl 10 ob 0 N,.int .i64 a,.int .i64 b,cmp] h=some (d,h')∧h'[ob]?=some (.row a0y 10 ((isr c a (a+1) (b - (a+1)) l).map evt))∧Same ob h h':=by
 suffices Wp (R a8L [.msl 10 ob 0 N,.int .i64 a,.int .i64 b,cmp] h) (fun p=>p.2[ob]?=some (.row a0y 10 ((isr c a (a+1) (b - (a+1)) l).map evt))∧Same ob h p.2) by
  obtain ⟨⟨x,h'⟩,h1,h2⟩:=this
  exact ⟨x,h',h1,h2⟩
 rw [c7X]
 have hw:=wi_ a (by omega)
 simp only [c3z,bs,e0h,a0r,hw]
 generalize hV:isr c a (a+1) (b - (a+1)) l=V
 refine Wp.loop (fun n ds g=>∃ u v w,∃ i:Nat,∃ l':List TE,ds=[.int .i64 i,u,v,w]∧n=b - i∧l'.length=N∧g[ob]?=some (.row a0y 10 (l'.map evt))∧Same ob h g∧isr c a i (b - i) l'=V)
  (fun r=>r.1 = .ext 0∧r.2.2[ob]?=some (.row a0y 10 (V.map evt))∧Same ob h r.2.2) (b - (a+1)) ⟨_,_,_,a+1,l,rfl,rfl,hl,ho,.refl _ _,hV⟩ ?_ ?_
 ·rintro n ds g ⟨u,v,w,i,l',rfl,rfl,hl',ho',sm,hV⟩
  simp only [a9o,a0e,a0m,bs,e0h,a0o]
  refine Wp.dif ?_ ?_
  ·intro h0
   have h0:i<b:=by
    have:(i:Int)<(b:Int):=by simpa using h0
    omega
   have hb1:b - i=(b - (i+1))+1:=by omega
   rw [hb1] at hV
   unfold isr at hV
   have hw2:=wi_ i (by omega)
   refine d5x c cmp hc ob N a hN l' hl' i (by omega) g ho' _ fun x y g2 p2 s2=>?_
   simp only [a0l,a1u,a0k,bs,a0e,a0r,hw2]
   exact .some (.inl ⟨rfl,b - (i+1),by omega,_,_,_,i+1,_,rfl,rfl,by rw [b3P];exact hl',p2,sm.trans s2,hV⟩)
  ·intro h0
   have h0:¬ i<b:=by
    have:¬ (i:Int)<(b:Int):=by simpa using h0
    omega
   rw [show b - i=0 by omega] at hV
   have hV:l'=V:=hV
   subst hV
   exact .some (.inr ⟨by simp,rfl,ho',sm⟩)
 ·rintro ⟨x,ds,g⟩ ⟨rfl,h1,h2⟩
  simp only [a0l,a2k,bs]
  exact .some ⟨h1,h2⟩
def c3l (cmp:D) (c:TE→TE→Int):Prop:=∀ x y g,a3o R cmp [.agg (evt x),.agg (evt y)] g=some (.int .i64 (c x y),g)
theorem c4f {c:TE→TE→Int} {S Pre:TE→TE→Prop} (od:SOrd c S Pre) {cmp:D} (hcmp:c3l cmp c) {o N:Nat} (hN:N≤1000000000) {g:Hp} {P A Q:List TE} (hlen:(P++A++Q).length=N) (hA:A.Pairwise Pre)
  (ho:g[o]?=some (.row a0y 10 ((P++A++Q).map evt))) (a b:Int) (ha:a=P.length) (hb:b=(P.length+A.length:Nat)) :
  Wp (R a8L [.msl 10 o 0 N,.int .i64 a,.int .i64 b,cmp] g) fun p=>∃ C:List TE,C.Perm A∧C.Pairwise S∧p.2[o]?=some (.row a0y 10 ((P++C++Q).map evt))∧Same o g p.2:=by
 subst ha hb
 have hl:=hlen
 simp only [e0m] at hl
 obtain ⟨d,h',e,p1,s1⟩:=d6w c cmp hcmp o N P.length (P.length+A.length) hN (by omega) (by omega) _ hlen g ho
 refine ⟨(d,h'),e,?_⟩
 cases A with
 | nil =>
  refine ⟨[],by simp,List.Pairwise.nil,?_,s1⟩
  rw [p1]
  simp [-bind_some, isr]
 | cons x A =>
  obtain ⟨C,q1,q2,q3⟩:=c2x od P Q A [x] (by simp) (fun u hu v hv=>by simp at hu;subst hu;exact (List.pairwise_cons.1 hA).1 v hv) (List.pairwise_cons.1 hA).2
  refine ⟨C,q2,q3,?_,s1⟩
  rw [p1]
  have e1:P.length+(x::A).length - (P.length+1)=A.length:=by simp;omega
  rw [e1]
  have e2:P++x::A++Q=P++[x]++A++Q:=by simp
  rw [e2]
  exact congrArg (fun z:List TE=>some (Ob.row a0y 10 (z.map evt))) q1
theorem d6W {cmp:D} (hcmp:c3l cmp cE) {o N:Nat} (hN:N<20) {g:Hp} {l:List TE} (hl:l.length=N) (hpre:l.Pairwise fun x y=>x.2<y.2) (ho:g[o]?=some (.row a0y 10 (l.map evt))) :
  Wp (R b4J [.msl 10 o 0 N,cmp] g) fun p=>∃ C:List TE,C.Perm l∧C.Pairwise tS∧p.2[o]?=some (.row a0y 10 (C.map evt))∧Same o g p.2:=by
 have hin:=c4f d6y hcmp (o:=o) (N:=N) (by omega) (g:=g) (P:=[]) (A:=l) (Q:=[]) (by simpa using hl) hpre (by simpa using ho) 0 N (by simp) (by simp;omega)
 rw [c7V]
 simp only [c3x,bs,c8M,c7W,c3y,e0h]
 have c1:decide ((20:Int)≤(N:Int))=false:=decide_eq_false (by omega)
 have c2:decide ((20:Int)<(N:Int))=false:=decide_eq_false (by omega)
 refine Wp.loop (fun _ ds g'=>g'=g∧∃ u,ds=[.int .i64 0,.int .i64 20,u]) (fun r=>r.1 = .ext 0∧r.2.2=g∧∃ u v,r.2.1=[.int .i64 0,u,v]) 0 ⟨rfl,_,rfl⟩ ?_ ?_
 ·rintro n ds g' ⟨rfl,u,rfl⟩
  simp only [a9m,a0e,a0m,bs,a2u,c1,a0d,e0i,if_false]
  exact .some (.inr ⟨by simp,rfl,rfl,_,_,rfl⟩)
 rintro ⟨ex,ds,g'⟩ ⟨r1,r2,u,v,r3⟩
 simp only at r1 r2 r3
 subst r1;subst r2;subst r3
 simp only [a0l,a0k,bs,a0e,a0m,e0h]
 refine Wp.bind hin ?_
 rintro ⟨d,g2⟩ ⟨C,h1,h2,h3,h4⟩
 simp only [bs,e0h]
 refine Wp.loop (fun _ ds g'=>g'=g2∧nth 0 ds = .int .i64 20) (fun r=>r.1 = .ext 2∧r.2.2=g2) 0 ⟨rfl,rfl⟩ ?_ ?_
 ·rintro n ds g' ⟨rfl,h0⟩
  simp only [a9n,h0,bs,a0o,c2,a0d,e0i,if_false]
  exact .some (.inr ⟨by simp,rfl,rfl⟩)
 rintro ⟨ex,ds,g'⟩ ⟨r1,r2⟩
 simp only at r1 r2
 subst r1;subst r2
 simp only [a0l,a0k,a2k,bs]
 exact .some ⟨C,h1,h2,by simpa using h3,h4⟩
theorem c9Z (cmp:D) (g:Hp):Wp (R b4J [.nils,cmp] g) fun p=>p.2=g:=by
 rw [c7V]
 simp only [c3x,bs,c8Q,c7W,c3y,e0h]
 refine Wp.loop (fun _ ds g'=>g'=g∧∃ u,ds=[.int .i64 0,.int .i64 20,u]) (fun r=>r.1 = .ext 0∧r.2.2=g∧∃ u v,r.2.1=[.int .i64 0,u,v]) 0 ⟨rfl,_,rfl⟩ ?_ ?_
 ·rintro n ds g' ⟨rfl,u,rfl⟩
  simp only [a9m,a0e,a0m,bs,a2u,show decide ((20:Int)≤0)=false by decide,a0d,e0i,if_false]
  exact .some (.inr ⟨by simp,rfl,rfl,_,_,rfl⟩)
 rintro ⟨ex,ds,g'⟩ ⟨r1,r2,u,v,r3⟩
 simp only at r1 r2 r3
 subst r1;subst r2;subst r3
 simp only [a0l,a0k,bs,a0e,a0m,e0h,c7X,c3z,a0r,show IntKind.wrap .i64 ((0:Int)+1)=1 from rfl]
 refine Wp.loop (fun _ ds g2=>g2=g'∧nth 0 ds = .int .i64 1) (fun r=>r.1 = .ext 0∧r.2.2=g') 0 ⟨rfl,rfl⟩ ?_ ?_
 ·rintro n ds g2 ⟨rfl,h0⟩
  simp only [a9o,h0,bs,a0o,show decide ((1:Int)<0)=false by decide,a0d,e0i,if_false]
  exact .some (.inr ⟨by simp,rfl,rfl⟩)
 rintro ⟨ex,ds,g2⟩ ⟨r1,r2⟩
 simp only at r1 r2
 subst r1;subst r2
 simp only [a0l,a0k,a2k,bs,e0h]
 refine Wp.loop (fun _ ds g'=>g'=g2∧nth 0 ds = .int .i64 20) (fun r=>r.1 = .ext 2∧r.2.2=g2) 0 ⟨rfl,rfl⟩ ?_ ?_
 ·rintro n ds g' ⟨rfl,h0⟩
  simp only [a9n,h0,bs,a0o,show decide ((20:Int)<0)=false by decide,a0d,e0i,if_false]
  exact .some (.inr ⟨by simp,rfl,rfl⟩)
 rintro ⟨ex,ds,g'⟩ ⟨r1,r2⟩
 simp only at r1 r2
 subst r1;subst r2
 simp only [a0l,a0k,a2k,bs]
 exact .some rfl
theorem d0Q:c3l (.fn (.func b4K) [] []) cE:=fun x y g=>by
 rw [a2V]
 show R b4K [.agg (evr x.1),.agg (evr y.1)] g=_
 rw [d2N]
 unfold cE
 cases h1:a2S x.1 y.1
 ·cases h2:a2S y.1 x.1
  ·simp only [b9X,a0V,bs,evL,c4P,h1,h2,a0d,e0i,if_false,a0j]
  ·simp only [b9X,a0V,bs,evL,c4P,h1,h2,a0d,e0i,if_false,if_true,a0j]
 ·simp only [b9X,a0V,bs,evL,c4P,h1,a0d,if_true,a0j]
theorem c3f {i j:It} (h:a4v i=a4v j) (m:Int):tkO m i=tkO m j:=by
 have e2:i.e.a2=j.e.a2:=congrArg RI.a2 h
 have e3:i.e.a3=j.e.a3:=congrArg RI.a3 h
 have el:i.e.ls=j.e.ls:=congrArg RI.ls h
 unfold tkO
 rw [e2,e3,el]
theorem b6g:∀ {a b:List It},a.map a4v=b.map a4v→∀ ms ts,apS ms ts a=apS ms ts b
 | [],[],_,_,_=>rfl
 | [],_::_,h,_,_=>by simp at h
 | _::_,[],h,_,_=>by simp at h
 | i::a,j::b,h,ms,ts=>by
  rw [e0p,e0p] at h
  injection h with h1 h2
  have e0:i.e.a0=j.e.a0:=congrArg RI.a0 h1
  have e1:i.e.a1=j.e.a1:=congrArg RI.a1 h1
  have e3:i.e.a3=j.e.a3:=congrArg RI.a3 h1
  have el:i.e.ls=j.e.ls:=congrArg RI.ls h1
  have er:i.r=j.r:=congrArg RI.r h1
  rw [a2X,a2X,c3f h1,e0,e1,e3,el,er]
  split
  ·rfl
  ·exact b6g h2 _ _
  ·exact b6g h2 _ _
theorem b3A:∀ {a b:List It},a.map a4v=b.map a4v→∀ ms es,apE ms a es→apE ms b es
 | [],[],_,_,_,k=>k
 | [],_::_,h,_,_,_=>by simp at h
 | _::_,[],h,_,_,_=>by simp at h
 | i::a,j::b,h,ms,es,k=>by
  rw [e0p,e0p] at h
  injection h with h1 h2
  have e0:i.e.a0=j.e.a0:=congrArg RI.a0 h1
  have e1:i.e.a1=j.e.a1:=congrArg RI.a1 h1
  have e3:i.e.a3=j.e.a3:=congrArg RI.a3 h1
  have el:i.e.ls=j.e.ls:=congrArg RI.ls h1
  have er:i.r=j.r:=congrArg RI.r h1
  unfold apE at k ⊢
  rw [c3f h1,e0,e1] at k
  split at k
  ·trivial
  ·exact b3A h2 _ _ k
  ·rename_i n ho
   obtain ⟨c,hc,k⟩:=k
   refine ⟨c,⟨hc.r.trans er,hc.a0.trans e0,hc.a1.trans e1,hc.a2,hc.a3.trans e3,hc.a5.trans (congrArg RI.a5 h1),hc.a6.trans (congrArg RI.a6 h1),hc.s7.trans (congrArg RI.t7 h1),hc.s8.trans (congrArg RI.t8 h1),hc.ls.trans (by rw [el]),hc.fs.trans (congrArg RI.fs h1)⟩,?_⟩
   rw [e3,er] at k
   split
   ·rename_i hr
    rw [if_pos hr] at k
    obtain ⟨e,es',q1,q2,q3⟩:=k
    exact ⟨e,es',q1,q2,b3A h2 _ _ q3⟩
   ·rename_i hr
    rw [if_neg hr] at k
    exact b3A h2 _ _ k
theorem a7j:∀ (its:List It) (ms:List Mrk) (ts:List Tal) (es:List Ev),apS ms ts its≠none→apE ms its es→∀ e∈es,∃ i∈its,e.a1=i.e.a1∧e.a3=i.e.a3
 | [],_,_,es,_,h,e,he=>by
  have h:es=[]:=h
  subst h;cases he
 | i::r,ms,ts,es,hn,h,e,he=>by
  rw [a2X] at hn
  unfold apE at h
  split at h
  ·rename_i ho;rw [ho] at hn;exact absurd rfl hn
  ·rename_i ho
   rw [ho] at hn
   obtain ⟨x,hx,hh⟩:=a7j r ms _ es hn h e he
   exact ⟨x,by simp [-bind_some, hx],hh⟩
  ·rename_i n ho
   rw [ho] at hn
   obtain ⟨c,hc,h⟩:=h
   split at h
   ·obtain ⟨e1,es',rfl,q2,q3⟩:=h
    rcases e0D.1 he with rfl | he
    ·exact ⟨i,by simp,q2.a1.trans hc.a1,q2.a3.trans hc.a3⟩
    ·obtain ⟨x,hx,hh⟩:=a7j r _ _ es' hn q3 e he
     exact ⟨x,by simp [-bind_some, hx],hh⟩
   ·obtain ⟨x,hx,hh⟩:=a7j r _ _ es hn h e he
    exact ⟨x,by simp [-bind_some, hx],hh⟩
def Acc (Bs:List Bat):Nat→List Mrk × List Tal→List Ev→Prop
 | 0,s,es=>s=([],[])∧es=[]
 | n+1,s',es'=>∃ s es b e,Acc Bs n s es∧Bs[n]?=some b∧apS s.1 s.2 b.its=some s'∧apE s.1 b.its e∧es'=es++e
theorem b6e {Bs:List Bat} (b:Bat):∀ {n:Nat} {s:List Mrk × List Tal} {es:List Ev},Acc Bs n s es→Acc (Bs++[b]) n s es
 | 0,_,_,h=>h
 | n+1,s',es',h=>by
  obtain ⟨s,es,c,e,h1,h2,h3⟩:=h
  exact ⟨s,es,c,e,b6e b h1,by rw [e0H (e0y.1 h2).1];exact h2,h3⟩
theorem b1T {Bs:List Bat}:∀ {n:Nat} {s s':List Mrk × List Tal} {es es':List Ev},Acc Bs n s es→Acc Bs n s' es'→s=s'∧es.length=es'.length
 | 0,_,_,_,_,h,k=>by
  obtain ⟨rfl,rfl⟩:=h
  obtain ⟨rfl,rfl⟩:=k
  exact ⟨rfl,rfl⟩
 | n+1,_,_,_,_,h,k=>by
  obtain ⟨s,es,b,e,h1,h2,h3,h4,rfl⟩:=h
  obtain ⟨t,fs,c,f,k1,k2,k3,k4,rfl⟩:=k
  obtain ⟨rfl,hl⟩:=b1T h1 k1
  rw [h2] at k2
  injection k2 with k2
  subst k2
  rw [h3] at k3
  injection k3 with k3
  have:=(a9r b.its s.1 s.2 e f (by rw [h3];simp [-bind_some]) h4 k4).len
  exact ⟨k3,by simp;omega⟩
theorem a7J (lo hi:Int→Int):∀ (l:List Ev) (nx:Int→Int),c3m lo hi nx l→(∀ e∈l,nx e.a1≤e.a2∧e.a2<e.a3∧e.a3≤nxE nx l e.a1)∧l.Pairwise (fun x y=>x.a1=y.a1→x.a3≤y.a2)∧∀ f,nx f≤nxE nx l f
 | [],nx,_=>⟨by simp,List.Pairwise.nil,fun f=>Int.le_refl _⟩
 | e::r,nx,h=>by
  obtain ⟨hg,f5,f7,c1,c2,c3,hr⟩:=h
  obtain ⟨h1,h2,h3⟩:=a7J lo hi r _ hr
  have hlt:e.a2<e.a3:=by have:=a2C _ _ _ hg.ch;have:=hg.l1;omega
  have hnx:nxE nx (e::r)=nxE (fun f=>if f=e.a1 then e.a3 else nx f) r:=rfl
  have hup:∀ f,nx f≤(fun f=>if f=e.a1 then e.a3 else nx f) f:=fun f=>by
   simp only
   split
   ·rename_i hf;subst hf;omega
   ·exact Int.le_refl _
  refine ⟨fun x hx=>?_,List.pairwise_cons.2 ⟨fun y hy hxy=>?_,h2⟩,fun f=>?_⟩
  ·rcases e0D.1 hx with rfl | hx
   ·refine ⟨c1,hlt,?_⟩
    rw [hnx]
    have:=h3 x.a1
    simpa using this
   ·obtain ⟨q1,q2,q3⟩:=h1 x hx
    exact ⟨Int.le_trans (hup _) q1,q2,by rw [hnx];exact q3⟩
  ·have:=(h1 y hy).1
   rw [if_pos hxy.symm] at this
   exact this
  ·rw [hnx]
   exact Int.le_trans (hup f) (h3 f)
structure AccF (S:List (Int × Int)) (n:Nat) (s:List Mrk × List Tal) (es:List Ev):Prop where
 gs:GS n s
 nx:∃ nx:Int→Int,(∀ f,nx f≤a1s s.1 1 f)∧∀ e∈es,e.a3≤nx e.a1
 pw:es.Pairwise fun x y=>x.a1=y.a1→x.a3≤y.a2
 lt:∀ e∈es,e.a2<e.a3
 sub:∀ e∈es,(e.a1,e.a3)∈S
theorem c1V (S:List (Int × Int)):AccF S 0 ([],[]) []:=⟨c8m,⟨fun f=>a1s ([]:List Mrk) 1 f,fun f=>Int.le_refl _,by simp⟩,List.Pairwise.nil,by simp,by simp⟩
theorem b0C {S:List (Int × Int)} {n:Nat} {s s':List Mrk × List Tal} {es e:List Ev} {b:Bat} (h:AccF S n s es) (hb:BatOK 1 b) (hS:∀ i∈b.its,(i.e.a1,i.e.a3)∈S) (h1:apS s.1 s.2 b.its=some s') (h2:apE s.1 b.its e):AccF S (n+1) s' (es++e):=by
 have hg:=d0H h.gs (.inl rfl) hb
 have eap:ap s b=s':=by unfold ap;rw [h1];rfl
 rw [eap] at hg
 obtain ⟨nx,hn1,hn2⟩:=h.nx
 obtain ⟨hseq,hnx'⟩:=a9s 1 (a1s s.1 1) (a1s s'.1 1) b.its s.1 s.2 s' e nx hb.it h.gs.ma h1 h2 hn1 (fun f=>Int.le_refl _) (fun f=>Int.le_refl _)
 obtain ⟨q1,q2,q3⟩:=a7J _ _ e nx hseq
 refine ⟨hg,⟨nxE nx e,hnx',fun x hx=>?_⟩,List.pairwise_append.2 ⟨h.pw,q2,fun x hx y hy hxy=>?_⟩,fun x hx=>?_,fun x hx=>?_⟩
 ·rcases e0E.1 hx with hx | hx
  ·exact Int.le_trans (hn2 x hx) (q3 _)
  ·exact (q1 x hx).2.2
 ·have h3:=hn2 x hx
  have h4:=(q1 y hy).1
  rw [← hxy] at h4
  omega
 ·rcases e0E.1 hx with hx | hx
  ·exact h.lt x hx
  ·exact (q1 x hx).2.1
 ·rcases e0E.1 hx with hx | hx
  ·exact h.sub x hx
  ·obtain ⟨i,hi,e1,e3⟩:=a7j b.its s.1 s.2 e (by rw [h1];simp [-bind_some]) h2 x hx
   rw [e1,e3];exact hS i hi
theorem b1B {α:Type} [DecidableEq α]:∀ (l S:List α),l.Nodup→(∀ x∈l,x∈S)→l.length≤S.length
 | [],_,_,_=>Nat.zero_le _
 | x::l,S,hn,hs=>by
  rw [List.nodup_cons] at hn
  have hx:=hs x (by simp)
  have:=b1B l (S.erase x) hn.2 fun y hy=>(List.mem_erase_of_ne (fun hh:y=x=>hn.1 (by rw [← hh];exact hy))).2 (hs y (by simp [-bind_some, hy]))
  rw [List.length_erase_of_mem hx] at this
  have:0<S.length:=List.length_pos_of_mem hx
  simp only [e0z]
  omega
theorem AccF.few {S:List (Int × Int)} {n:Nat} {s:List Mrk × List Tal} {es:List Ev} (h:AccF S n s es):es.length≤S.length:=by
 have hnd:(es.map fun e=>(e.a1,e.a3)).Nodup:=by
  unfold List.Nodup
  rw [List.pairwise_map]
  refine h.pw.imp_of_mem fun {x y} hx hy hxy hh=>?_
  injection hh with h1 h3
  have:=hxy h1
  have:=h.lt y hy
  omega
 have:=b1B _ S hnd fun x hx=>by
  obtain ⟨e,he,rfl⟩:=e0F.1 hx
  exact h.sub e he
 simpa using this
theorem AccF.less {S:List (Int × Int)} {n:Nat} {s:List Mrk × List Tal} {es:List Ev} (h:AccF S n s es) {C:List TE} (hp:C.Perm (es.zipIdx 0)) (hs:C.Pairwise tS):(C.map (·.1)).Pairwise fun x y=>a2S x y=true:=by
 rw [List.pairwise_map]
 refine hs.imp_of_mem fun {x y} hx hy hxy=>?_
 rcases hxy with hxy | ⟨h1,h2⟩
 ·exact hxy
 ·cases h3:a2S x.1 y.1
  ·exfalso
   obtain ⟨_,_,q1,q2⟩:=b8p _ _ h3 h1
   have hx:=List.mem_zipIdx_iff_getElem?.1 (hp.mem_iff.1 hx)
   have hy:=List.mem_zipIdx_iff_getElem?.1 (hp.mem_iff.1 hy)
   obtain ⟨x1,x2⟩:=e0y.1 hx
   obtain ⟨y1,y2⟩:=e0y.1 hy
   have:=List.pairwise_iff_getElem.1 h.pw x.2 y.2 x1 y1 h2
   rw [x2,y2] at this
   have h4:=this q1
   have h5:=h.lt x.1 (e0w hx)
   omega
  ·rfl
theorem b6f {Bs:List Bat}:∀ {m:Nat} {s:List Mrk × List Tal} {es:List Ev},Acc Bs m s es→∀ n,n≤m→∃ s' es',Acc Bs n s' es'
 | 0,s,es,h,n,hn=>by
  have:n=0:=by omega
  subst this;exact ⟨s,es,h⟩
 | m+1,s,es,h,n,hn=>by
  by_cases hm:n=m+1
  ·subst hm;exact ⟨s,es,h⟩
  ·obtain ⟨s1,e1,_,_,h1,_⟩:=h
   exact b6f h1 n (by omega)
theorem d7f (a b:D):a5U 2 (.agg [a,b])=some (.fptr [a,b]):=a3y 2 _ rfl
theorem b9P:∀ (es:List Ev) (n:Nat),(es.zipIdx n).map evt=es.map evr
 | [],_=>rfl
 | e::r,n=>by rw [List.zipIdx_cons,e0p,e0p,b9P r (n+1)];rfl
end Go.Proofs.YthaajlepgblimaaGreatDoor

/- Laws, on plain data, about functions that the statement reaches. -/
import Derived.Test.YtjmndhbabkjebaaDoorL3
set_option linter.unusedSimpArgs false
set_option linter.unusedVariables false
set_option linter.unnecessarySimpa false
set_option maxRecDepth 100000
namespace Go.Proofs.YtjmndhbabkjebaaDoor
open Go.Eng Go.Pi
open Option (bind_some)
theorem b9W {i:It} (h:OkI i) (r:List Int):itS (a3d i++r,false)=(a2c i,(r,false)):=by
 unfold itS
 rw [b6V h r]
 rw [if_neg (by simp)]
 simp only [d0K]
 rw [List.drop_left' rfl]
theorem b2b:∀ (ms:List FM),(∀ m∈ms,I64 m.1∧I64 m.2)→∀ r,a5m ms.length ((ms.map mkB).flatten++r,false)=(ms,(r,false))
 | [],_,r=>rfl
 | m::t,h,r=>by
  obtain ⟨h1,h2⟩:=h m (by simp)
  have e:((m::t).map mkB).flatten++r=pI m.1++(pI m.2++((t.map mkB).flatten++r)):=by simp [-bind_some, mkB]
  rw [e,d0S]
  unfold a5m
  rw [if_neg (by simp),a1x h1,a1x h2,b2b t (fun x hx=>h x (List.mem_cons_of_mem _ hx)) r]
theorem b5O:∀ (its:List It),(∀ i∈its,OkI i)→∀ r,qsS its.length ((its.map a3d).flatten++r,false)=(its.map a2c,(r,false))
 | [],_,r=>rfl
 | i::t,h,r=>by
  have e:((i::t).map a3d).flatten++r=a3d i++((t.map a3d).flatten++r):=by simp
  rw [e,d0S]
  unfold qsS
  rw [if_neg (by simp),b9W (h i (by simp)),b5O t (fun x hx=>h x (List.mem_cons_of_mem _ hx)) r]
  rfl
abbrev SvD:=Int × List FM × List It
def a2O (s:SvD):List Int:=b2D s.1 s.2.1 s.2.2
structure OkS (s:SvD):Prop where
 n:I64 s.1
 m:∀ m∈s.2.1,I64 m.1∧I64 m.2
 q:∀ i∈s.2.2,OkI i
 c:stC s.1 s.2.1 s.2.2.length=0
 b:(a1l s.1 s.2.1 s.2.2).length<4294967000
theorem b5a:∀ {its:List It},(∀ i∈its,OkI i)→a9o its=0
 | [],_=>rfl
 | i::t,h=>by
  unfold a9o
  rw [if_pos (h i (by simp)).e]
  exact b5a fun x hx=>h x (List.mem_cons_of_mem _ hx)
theorem OkS.e {s:SvD} (h:OkS s):stE s.1 s.2.1 s.2.2=0:=by
 unfold stE
 rw [if_pos h.c]
 exact b5a h.q
theorem OkS.le {s:SvD} (h:OkS s):s.2.1.length≤1000∧s.2.2.length≤1000:=by
 have:=h.c
 unfold stC at this
 by_cases h1:s.1<0
 ·rw [if_pos h1] at this;cases this
 by_cases h2:a9X s.2.1=false
 ·rw [if_neg h1,if_pos h2] at this;cases this
 by_cases h3:a9U s.2.1=true
 ·rw [if_neg h1,if_neg h2,if_pos h3] at this;cases this
 by_cases h4:1000<s.2.1.length∨1000<s.2.2.length
 ·rw [if_neg h1,if_neg h2,if_neg h3,if_pos h4] at this;cases this
 omega
theorem a4i (s:SvD) (r:List Int):(a2O s++r).length=12+(a1l s.1 s.2.1 s.2.2).length+r.length∧(a2O s++r).take 4=magS∧((a2O s++r).drop 4).take 4=pN (a1l s.1 s.2.1 s.2.2).length∧(a2O s++r).take (8+(a1l s.1 s.2.1 s.2.2).length)=a3j (a1l s.1 s.2.1 s.2.2)∧((a2O s++r).drop (8+(a1l s.1 s.2.1 s.2.2).length)).take 4=a4o 4 (a2T (a3j (a1l s.1 s.2.1 s.2.2))):=by
 obtain ⟨B,hB⟩:∃ B,B=a1l s.1 s.2.1 s.2.2:=⟨_,rfl⟩
 have e1:a2O s++r=magS++(pN B.length++(B++(a4o 4 (a2T (a3j B))++r))):=by rw [hB];simp [-bind_some, a2O,b2D,a3j]
 have e2:a2O s++r=a3j B++(a4o 4 (a2T (a3j B))++r):=by rw [hB];simp [-bind_some, a2O,b2D]
 rw [← hB]
 have hl:=a5i B
 refine ⟨?_,?_,?_,?_,?_⟩
 ·rw [e2,d0G,d0G,hl,a1Z];omega
 ·rw [e1];exact List.take_left' rfl
 ·rw [e1,List.drop_left' (show magS.length=4 from rfl)];exact List.take_left' (a2L _)
 ·rw [e2];exact List.take_left' hl
 ·rw [e2,List.drop_left' hl];exact List.take_left' (a1Z _ _)
theorem b6X {s:SvD} (h:OkS s) (r:List Int):a2P (a2O s++r)=(0,((a2O s).length:Int),s.1,s.2.1,s.2.2.map a2c):=by
 obtain ⟨p1,p2,p3,p4,p5⟩:=a4i s r
 obtain ⟨hm,hq⟩:=h.le
 have hB:=h.b
 have hc:=a3m (a3j (a1l s.1 s.2.1 s.2.2))
 have hN:dN (a2O s++r)=(a1l s.1 s.2.1 s.2.2).length:=by unfold dN;rw [p3,b5C (by omega)];rfl
 have hlen:(a2O s).length=12+(a1l s.1 s.2.1 s.2.2).length:=by
  have:=(a4i s []).1
  simpa using this
 have hS0:dS0 (a2O s++r)=(a1l s.1 s.2.1 s.2.2,false):=by
  unfold dS0
  rw [hN,p4]
  unfold a3j
  rw [List.drop_left' (by simp [-bind_some, magS,a2L])]
 have hbody:a1l s.1 s.2.1 s.2.2=pI s.1++(pN s.2.1.length++((s.2.1.map mkB).flatten++(pN s.2.2.length++((s.2.2.map a3d).flatten++[])))):=by simp [-bind_some, a1l]
 have hA:dA (a2O s++r)=(s.1,(pN s.2.1.length++((s.2.1.map mkB).flatten++(pN s.2.2.length++((s.2.2.map a3d).flatten++[]))),false)):=by
  unfold dA
  rw [hS0,hbody,a1x h.n]
 have hM:dM (a2O s++r)=(s.2.1,(pN s.2.2.length++((s.2.2.map a3d).flatten++[]),false)):=by
  unfold dM
  rw [hA]
  simp only
  rw [a6i (by omega)]
  simp only [d0K]
  exact b2b _ h.m _
 have hQ:dQ (a2O s++r)=(s.2.2.map a2c,([],false)):=by
  unfold dQ
  rw [hM]
  simp only
  rw [a6i (by omega)]
  simp only [d0K]
  exact b5O _ h.q _
 have hbad:¬ b3N (a2O s++r):=by
  unfold b3N
  rw [hQ,hA,hM]
  simp only [d0H,h.c]
  simp [-bind_some]
 unfold a2P
 rw [if_neg (by omega),if_neg (by rw [p2];simp [-bind_some]),hN,if_neg (by omega),p4,p5,if_neg (by rw [a4n 4 _ hc.1,a6P];omega),if_neg hbad,hA,hM,hQ,hlen]
theorem b6W {s:SvD} (hB:(a1l s.1 s.2.1 s.2.2).length<4294967000) {k:Nat} (hk:k<(a2O s).length):a2P ((a2O s).take k)=(14,0,0,[],[]):=by
 obtain ⟨p1,p2,p3,_,_⟩:=a4i s []
 rw [List.append_nil] at p1 p2 p3
 have hl:((a2O s).take k).length=k:=by rw [d0V];omega
 unfold a2P
 by_cases h8:k<8
 ·rw [if_pos (by omega)]
 have t4:((a2O s).take k).take 4=magS:=by rw [List.take_take,Nat.min_eq_left (by omega)];exact p2
 have d4:(((a2O s).take k).drop 4).take 4=pN (a1l s.1 s.2.1 s.2.2).length:=by
  rw [List.drop_take,List.take_take,Nat.min_eq_left (by omega)];exact p3
 have hN:dN ((a2O s).take k)=(a1l s.1 s.2.1 s.2.2).length:=by unfold dN;rw [d4,b5C (by omega)];rfl
 rw [if_neg (by omega),if_neg (by rw [t4];simp [-bind_some]),hN,if_pos (by simp at p1;omega)]
theorem a7Z:a2P []=(14,0,0,[],[]):=rfl
theorem b3T {l:List Int} (h:(a2P l).1=0):12≤(a2P l).2.1∧(a2P l).2.1≤l.length:=by
 unfold a2P at h ⊢
 by_cases h1:l.length<8
 ·rw [if_pos h1] at h;cases h
 by_cases h2:l.take 4≠magS
 ·rw [if_neg h1,if_pos h2] at h;cases h
 by_cases h3:l.length<12+dN l
 ·rw [if_neg h1,if_neg h2,if_pos h3] at h;cases h
 by_cases h4:a2T (l.take (8+dN l))≠num ((l.drop (8+dN l)).take 4)
 ·rw [if_neg h1,if_neg h2,if_neg h3,if_pos h4] at h;cases h
 by_cases h5:b3N l
 ·rw [if_neg h1,if_neg h2,if_neg h3,if_neg h4,if_pos h5] at h;cases h
 rw [if_neg h1,if_neg h2,if_neg h3,if_neg h4,if_neg h5]
 simp only
 omega
noncomputable def b8I:Nat→List Int→Int→List ((Int × List FM × List RI) × Int)
 | 0,_,_=>[]
 | f+1,l,a=>if (a2P l).1=0 then ((a2P l).2.2,a+(a2P l).2.1)::b8I f (l.drop (a2P l).2.1.toNat) (a+(a2P l).2.1) else []
def c4I (r:List D × Int) (x:(Int × List FM × List RI) × Int):Prop:=∃ dm dq its,r=(svr x.1.1 dm dq,x.2)∧SlOf 2 mkr x.1.2.1 dm∧SlOf 11 itr its dq∧its.map a2c=x.1.2.2
inductive RecsOf:List (List D × Int)→List ((Int × List FM × List RI) × Int)→Prop
 | nil:RecsOf [] []
 | cons {r x rs xs}:c4I r x→RecsOf rs xs→RecsOf (r::rs) (x::xs)
theorem b2o {z:Nat} {α:Type} {f:α→List D} {l:List α} {d:D} (h:SlOf z f l d):slD d=true:=by
 rcases h with ⟨rfl,_⟩ | ⟨b,rfl⟩ <;> rfl
theorem b9v {l:List Int} {d:D} (h:SlOf 1 byr l d) (a:Int) (h0:0≤a):SlOf 1 byr (l.drop a.toNat) (c2A d a):=by
 rcases h with ⟨rfl,rfl⟩ | ⟨b,rfl⟩
 ·exact .inl ⟨rfl,by simp⟩
 ·refine .inr ⟨false,?_⟩
  show D.sl 1 false ((l.map byr).drop a.toNat)=_
  rw [List.map_drop]
theorem b2k {l:List Int} {d:D} (hd:SlOf 1 byr l d) (hl:l.length≤1000000000) (hu:∀ z∈l,U8 z):∀ (f:Nat) (a:Int),0≤a→a≤l.length→(l.length:Int) - a<f→∃ rs,a5V R a5h d l.length f a=some rs∧RecsOf rs (b8I f (l.drop a.toNat) a)
 | 0,a,h0,h1,h2=>by omega
 | f+1,a,h0,h1,h2=>by
  have hu2:∀ z∈l.drop a.toNat,U8 z:=fun z hz=>hu z (List.mem_of_mem_drop hz)
  have hl2:(l.drop a.toNat).length=l.length - a.toNat:=by simp
  obtain ⟨dm,dq,its,e,o1,o2,o3⟩:=c7j (l.drop a.toNat) (c2A d a) [] (b9v hd a h0) (by omega) hu2
  unfold a5V b8I
  rw [e]
  simp only [svr,b2o o1,b2o o2,and_self,if_true]
  by_cases hz:(a2P (l.drop a.toNat)).1=0
  ·obtain ⟨z1,z2⟩:=b3T hz
   rw [if_pos hz,if_pos hz,if_pos ⟨by omega,by omega⟩]
   obtain ⟨rs,er,hr⟩:=b2k hd hl hu f (a+(a2P (l.drop a.toNat)).2.1) (by omega) (by omega) (by omega)
   rw [er]
   refine ⟨_,rfl,.cons ⟨dm,dq,its,rfl,o1,o2,o3⟩ ?_⟩
   rw [List.drop_drop]
   have:a.toNat+(a2P (l.drop a.toNat)).2.1.toNat=(a+(a2P (l.drop a.toNat)).2.1).toNat:=by omega
   rw [this]
   exact hr
  ·rw [if_neg hz,if_neg hz]
   exact ⟨[],rfl,.nil⟩
theorem c2I {l:List Int} {d:D} (h:SlOf 1 byr l d):b0e d=some l.length:=by
 rcases h with ⟨rfl,rfl⟩ | ⟨b,rfl⟩
 ·rfl
 ·simp only [b0e,a6x,d0H]
theorem b1r {l:List Int} {d:D} (hd:SlOf 1 byr l d) (hl:l.length≤1000000000) (hu:∀ z∈l,U8 z):∃ rs,b2x R a5h [d]=some rs∧RecsOf rs (b8I (l.length+1) l 0):=by
 obtain ⟨rs,e,h⟩:=b2k hd hl hu (l.length+1) 0 (by omega) (by omega) (by omega)
 refine ⟨rs,?_,by simpa using h⟩
 simp only [b2x,c2I hd]
 rw [if_pos (by omega),e]
theorem c7h (l:List FM) (da db:D) (h:Hp) (ha:SlOf 2 mkr l da) (hb:SlOf 2 mkr l db) (hl:l.length≤9000000000000000000):R b4J [da,db] h=some (.bool true,h):=by
 apply Wp.val
 rw [c5R]
 simp only [c2d,bs,a0x,ne_eq,not_true,decide_false,d0C,if_false,a3g ha,a3g hb,a0c,d0B]
 refine Wp.loop (fun n ds g=>g=h∧∃ x y z,∃ i:Nat,ds=[x,.int .i64 i,y,z]∧n+i=l.length)
  (fun r=>r.1 = .ext 0∧r.2.2=h) l.length ⟨rfl,_,_,_,0,rfl,rfl⟩ ?_ ?_
 ·rintro n ds g ⟨rfl,x,y,z,i,rfl,hi⟩
  simp only [b0X,a0f,a0j,bs,d0B,a3g ha,a0o]
  refine Wp.dif ?_ ?_
  ·intro h0
   have h0:i<l.length:=dl_ h0
   have hg:l[i]?=some l[i]:=d0Q h0
   generalize l[i]=u at hg
   have ia:a0b tab a0N da (.int .i64 i)=some (.fptr (mkr u)):=by rw [a6K ha];simp [-bind_some, hg]
   have ib:a0b tab a0N db (.int .i64 i)=some (.fptr (mkr u)):=by rw [a6K hb];simp [-bind_some, hg]
   have lu:a0d tab g a1f (.fptr (mkr u))=some (.agg (mkr u)):=id rfl
   have hw:=wi_ i (by omega)
   have hn:a0l tab .neq a1f (.agg (mkr u)) (.agg (mkr u))=some (.bool false):=by
    have:=b6F u.1 u.1 u.2 u.2
    simpa [-bind_some, mkr] using this
   simp only [ia,ib,lu,hn,bs,a0c,d0C,if_false,a0r,hw]
   exact .some (.inl ⟨rfl,n - 1,by omega,rfl,_,_,_,i+1,rfl,by omega⟩)
  ·intro _
   exact .some (.inr ⟨by simp,rfl,rfl⟩)
 ·rintro ⟨ex,ds,g⟩ ⟨q1,q2⟩
  simp only at q1 q2
  subst q1;subst q2
  simp only [a0p,a0n,bs,a0h]
  exact .some rfl
theorem c7i (l m:List It) (da db:D) (h:Hp) (ha:SlOf 11 itr l da) (hb:SlOf 11 itr m db) (hlm:l.map a2c=m.map a2c) (hl:l.length≤9000000000000000000):R b4K [da,db] h=some (.bool true,h):=by
 apply Wp.val
 have hlen:m.length=l.length:=by have:=congrArg List.length hlm;simpa using this.symm
 rw [c5S]
 simp only [c2e,bs,a0x,ne_eq,not_true,decide_false,d0C,if_false,a6M ha,a6M hb,hlen,a0c,d0B]
 refine Wp.loop (fun n ds g=>g=h∧∃ x y z,∃ i:Nat,ds=[x,.int .i64 i,y,z]∧n+i=l.length)
  (fun r=>r.1 = .ext 0∧r.2.2=h) l.length ⟨rfl,_,_,_,0,rfl,rfl⟩ ?_ ?_
 ·rintro n ds g ⟨rfl,x,y,z,i,rfl,hi⟩
  simp only [b0Y,a0f,a0j,bs,d0B,a6M ha,a0o]
  refine Wp.dif ?_ ?_
  ·intro h0
   have h0:i<l.length:=dl_ h0
   have hg:l[i]?=some l[i]:=d0Q h0
   have hg2:m[i]?=some m[i]:=d0Q (by omega)
   have hri:a2c l[i]=a2c m[i]:=by
    have e1:(l.map a2c)[i]?=some (a2c l[i]):=by rw [d0O,hg];rfl
    have e2:(m.map a2c)[i]?=some (a2c m[i]):=by rw [d0O,hg2];rfl
    rw [hlm,e2] at e1
    injection e1 with e1
    exact e1.symm
   generalize l[i]=u at hg hri
   generalize m[i]=v at hg2 hri
   have ia:a0b tab a1N da (.int .i64 i)=some (.fptr (itr u)):=by rw [b5b ha];simp [-bind_some, hg]
   have ib:a0b tab a1N db (.int .i64 i)=some (.fptr (itr v)):=by rw [b5b hb];simp [-bind_some, hg2]
   have lu:∀ u:It,a0d tab g a0P (.fptr (itr u))=some (.agg (itr u)):=fun u=>id rfl
   have hw:=wi_ i (by omega)
   have hs:=s82 u v g
   rw [(b5U hri).2.2.2] at hs
   simp only [ia,ib,lu,hs,bs,a1D,d0L,a0c,d0C,if_false,a0r,hw]
   exact .some (.inl ⟨rfl,n - 1,by omega,rfl,_,_,_,i+1,rfl,by omega⟩)
  ·intro _
   exact .some (.inr ⟨by simp,rfl,rfl⟩)
 ·rintro ⟨ex,ds,g⟩ ⟨q1,q2⟩
  simp only at q1 q2
  subst q1;subst q2
  simp only [a0p,a0n,bs,a0h]
  exact .some rfl
theorem c3V (n:Int) (ms:List FM) (l m:List It) (da db dx dy:D) (h:Hp) (hm:SlOf 2 mkr ms da) (hm2:SlOf 2 mkr ms db) (hx:SlOf 11 itr l dx) (hy:SlOf 11 itr m dy) (hlm:l.map a2c=m.map a2c) (hml:ms.length≤9000000000000000000) (hl:l.length≤9000000000000000000):R a7s [.agg (svr n da dx),.agg (svr n db dy)] h=some (.bool true,h):=by
 have e1:=c7h ms da db h hm hm2 hml
 have e2:=c7i l m dx dy h hx hy hlm hl
 rw [c5M]
 simp only [c1Y,bs,a2h,sv0,sv1,sv2,c4D,a6L,c0f,a0L,decide_true,a0s,a0Y,if_true,e1,e2,a0g,d0B,a0h]
theorem a9x (k:Int):∀ (ls:List Lin) (a b:Int),mch a ls b→mch (a+k) (ls.map fun l=>⟨l.off+k,l.len,l.txt⟩) (b+k)
 | [],a,b,h=>by show a+k=b+k;rw [show a=b from h]
 | l::r,a,b,h=>by
  obtain ⟨h1,h2,h3,h4,h5⟩:=h
  refine ⟨by show l.off+k=a+k;rw [h1],h2,h3,h4,?_⟩
  have:=a9x k r _ b h5
  show mch (a+k+l.len) _ _
  rw [show a+k+l.len=a+l.len+k by omega]
  exact this
def mvI (x:RI) (f k:Int):RI:=⟨x.r,x.a0,f,x.a2+k,x.a3+k,x.ls.map fun l=>⟨l.off+k,l.len,l.txt⟩,x.a5,x.a6,x.t7,x.t8,x.fs⟩
theorem c6I {i j:It} (hi:ItK i) {f k:Int} (hf:0≤f) (hf2:f≤2) (h0:0≤i.e.a2+k) (h9:i.e.a3+k≤50000) (hj:a2c j=mvI (a2c i) f k):OkI j:=by
 obtain ⟨jr,⟨b0,b1,b2,b3,bl,dl,b5,b6,b7,b8,bf,df,w1,w2,w3,w4⟩⟩:=j
 simp only [a2c,mvI,RI.mk.injEq] at hj
 obtain ⟨q0,q1,q2,q3,q4,q5,q6,q7,q8,q9,q10⟩:=hj
 have l3:=hi.l3
 have f4:=hi.fs
 obtain ⟨ch,a0,a9,l1⟩:=hi.ch
 have chj:=a9x k _ _ _ ch
 rw [← q3,← q4,← q5] at chj
 have bl3:bl.length=i.e.ls.length:=by rw [q5];simp [-bind_some]
 have hle:=a5l _ _ _ chj
 have tx:=b5t _ _ _ chj (by omega) (by omega)
 have hh:jr.length≤32∧b7.length≤32∧b8.length≤32∧I64 b0∧I64 b1∧I64 b5∧I64 b6∧∀ p∈bf,p.1.length≤1000∧p.2.length≤1000:=by
  rw [q0,q1,q2,q6,q7,q8,q9,q10]
  rcases hi with ⟨hr,g⟩ | g
  ·have h1:=g.h0;have h2:=g.h2;have h5:=g.t0;have h6:=g.t9
   have hw:=(show ∀ s∈lt82_14,(-10000:Int)≤s∧s≤10000 by decide) _ g.wt
   refine ⟨by rw [hr];simp [-bind_some],(show ∀ s∈lt98_15,s.length≤32 by decide) _ g.tr,(show ∀ s∈lt98_16,s.length≤32 by decide) _ g.st,by unfold I64;omega,by unfold I64;omega,by unfold I64;omega,by unfold I64;omega,fun p hp=>⟨?_,(show ∀ s∈lt98_18,s.length≤1000 by decide) _ (g.fs.2 p hp)⟩⟩
   exact (show ∀ s∈lt98_17,s.length≤1000 by decide) _ (g.fs.1.subset (d0Y.2 ⟨p,hp,rfl⟩))
  ·have h1:=g.h0;have h2:=g.h2;have h5:=g.t0;have h6:=g.w0
   exact ⟨(show ∀ s∈lt98_35,s.length≤32 by decide) _ g.r,by rw [g.tr];simp [-bind_some],by rw [g.st];simp [-bind_some],by unfold I64;omega,by unfold I64;omega,by unfold I64;omega,by unfold I64;omega,fun p hp=>by rw [g.fs] at hp;cases hp⟩
 obtain ⟨r1,r2,r3,r4,r5,r6,r7,r8⟩:=hh
 have bf4:bf.length≤4:=by rw [q10];exact f4
 refine ⟨⟨by show jr.length<_;omega,r4,r5,by unfold I64;show _≤b2∧b2<_;omega,by unfold I64;show _≤b3∧b3<_;omega,by show bl.length<_;omega,fun l hl=>(tx l hl).1,r6,r7,by show b7.length<_;omega,by show b8.length<_;omega,by show bf.length<_;omega,fun p hp=>by have:=r8 p hp;omega⟩,?_,?_⟩
 ·have h1:=a4j lnB 220 bl (fun l hl=>by
    have:=(tx l hl).2
    simp only [lnB,d0G,a1X,a3b];omega)
  have h2:(bf.map fdB).flatten.length≤bf.length*2008:=a4j fdB 2008 bf (fun p hp=>by
   have:=r8 p hp
   simp only [fdB,d0G,a3b];omega)
  have h8:(bf.length*2008:Nat)≤4*2008:=Nat.mul_le_mul_right _ bf4
  have h9:(bl.length*220:Nat)≤3*220:=Nat.mul_le_mul_right _ (by omega)
  simp only [a1r,a6t,a4B,d0G,a1X,a3b,a2L]
  omega
 ·have hl:∀ m:Int,200≤m→a2N (⟨b0,b1,b2,b3,bl,dl,b5,b6,b7,b8,bf,df,w1,w2,w3,w4⟩:Ev) m=0:=fun m hm=>b5m m hm (by show 0≤b2;omega) (by show b3≤60000;omega) (by show 1≤bl.length;omega) (by show bl.length≤40;omega) chj
  rcases hi with ⟨hr,h⟩ | h
  ·have h1:=h.h0;have h2:=h.h2;have h8:=h.t0;have h9:=h.t9
   have hw:=(show ∀ s∈lt82_14,¬ s<1∧Int.tmod 5040 s=0 by decide) _ h.wt
   have htr:=(show ∀ s∈lt98_15,¬ 32<s.length by decide) _ h.tr
   have hst:=(show ∀ s∈lt98_16,¬ 32<s.length by decide) _ h.st
   have hs:=c0n h.fs
   have hv:(bf.any fun p=>decide (2000<p.2.length))=false:=by
    rw [List.any_eq_false]
    intro p hp
    have:=(r8 p hp).2
    simp [-bind_some];omega
   rw [← q7] at hw
   rw [← q8] at htr
   rw [← q9] at hst
   rw [← q10] at hs
   have hrj:jr=[]:=by rw [q0];exact hr
   have ht:(decide (0≤b5)&&decide (b5≤253402300799999))=true:=by simp;omega
   have hp:plB (⟨b0,b1,b2,b3,bl,dl,b5,b6,b7,b8,bf,df,w1,w2,w3,w4⟩:Ev)=true:=by
    simp [-bind_some, plB]
    omega
   simp [-bind_some, itE,hrj,evE,hp,ht,hw.1,hw.2,hl 2000 (by omega),htr,hst,hs,hv]
  ·have hr:=(show ∀ s∈lt98_35,s≠[]∧¬ 32<s.length by decide) _ h.r
   rw [← q0] at hr
   have h1:=h.h0;have h2:=h.h2
   obtain rfl:b5=0:=q6.trans h.t0
   obtain rfl:b6=0:=q7.trans h.w0
   obtain rfl:b7=[]:=q8.trans h.tr
   obtain rfl:b8=[]:=q9.trans h.st
   obtain rfl:bf=[]:=q10.trans h.fs
   have hp:plB (⟨b0,b1,b2,b3,bl,dl,0,0,[],[],[],df,w1,w2,w3,w4⟩:Ev)=true:=by
    simp [-bind_some, plB]
    omega
   have htx:∀ p∈bl,p.txt=[]:=fun p hp=>by
    rw [q5] at hp
    obtain ⟨l0,hl0,rfl⟩:=d0Y.1 hp
    exact h.tx l0 hl0
   have ha:(bl.any fun p => !(p.txt==[]))=false:=by
    rw [List.any_eq_false]
    intro p hp
    simp [-bind_some, htx p hp]
   simp [-bind_some, itE,hr.1,hr.2,hp,hl 60000 (by omega)]
   exact htx
inductive MkA:Int→List FM→Prop
 | nil (n):MkA n []
 | cons {n:Int} {m:FM} {r}:n≤m.1→m.1≤3→0≤m.2→m.2≤1000→MkA (m.1+1) r→MkA n (m::r)
theorem MkA.mem:∀ {l:List FM} {n:Int},MkA n l→∀ m∈l,n≤m.1∧m.1≤3∧0≤m.2∧m.2≤1000
 | x::r,n,h,m,hm=>by
  cases h with
  | cons h1 h2 h3 h4 h5 =>
   rcases d0W.1 hm with rfl | hm
   ·exact ⟨h1,h2,h3,h4⟩
   ·have:=h5.mem m hm
    omega
theorem MkA.asc:∀ {l:List FM} {n:Int},MkA n l→a9X l=true
 | [],n,h=>rfl
 | [x],n,h=>rfl
 | x::y::r,n,h=>by
  cases h with
  | cons h1 h2 h3 h4 h5 =>
   have:=h5.asc
   cases h5 with
   | cons g1 g2 g3 g4 g5 =>
    unfold a9X
    rw [this]
    simp [-bind_some];omega
theorem MkA.neg {l:List FM} {n:Int} (h:MkA n l) (hn:0≤n):a9U l=false:=by
 unfold a9U
 rw [List.any_eq_false]
 intro m hm
 have:=h.mem m hm
 simp [-bind_some];omega
theorem MkA.app {k:Int}:∀ {l:List FM} {n:Int} {m:FM},MkA n l→(∀ x∈l,x.1<m.1)→n≤m.1→m.1≤3→0≤m.2→m.2≤1000→MkA n (l++[m])
 | [],n,m,h,hx,h1,h2,h3,h4 => .cons h1 h2 h3 h4 (.nil _)
 | x::r,n,m,h,hx,h1,h2,h3,h4=>by
  cases h with
  | cons g1 g2 g3 g4 g5 =>
   have:=hx x (by simp)
   exact .cons g1 g2 g3 g4 (MkA.app (k:=k) g5 (fun y hy=>hx y (List.mem_cons_of_mem _ hy)) (by omega) h2 h3 h4)
theorem c6G {h:Hp} {o:Nat} (hc:CM h o):∃ ms d h',R b1L [.ptr o 0 0] h=some (d,h')∧SlOf 2 mkr ms d∧MkA 0 ms∧CM h' o∧Same o h h':=by
 suffices Wp (R b1L [.ptr o 0 0] h) (fun p=>∃ ms,SlOf 2 mkr ms p.1∧MkA 0 ms∧CM p.2 o∧Same o h p.2) by
  obtain ⟨⟨x,h'⟩,h1,ms,h2⟩:=this
  exact ⟨ms,x,h',h1,h2⟩
 have ho:=hc.lt
 rw [c5O]
 simp only [c2a,bs,d0B]
 refine Wp.loop (fun n ds g=>∃ d,∃ i:Nat,∃ x y,∃ l:List FM,ds=[d,.int .i64 i,x,y]∧n+i=4∧Sm h o g∧Own g h.length a1f 2 (l.map mkr) d∧MkA 0 l∧(∀ m∈l,m.1<i)∧l.length≤i)
  (fun r=>r.1 = .ext 0∧∃ d,∃ l:List FM,nth 0 r.2.1=d∧Sm h o r.2.2∧Own r.2.2 h.length a1f 2 (l.map mkr) d∧MkA 0 l) 4 ⟨.nils,0,.any,.any,[],rfl,rfl,.refl hc,.nils _ _ _ _,.nil _,by simp,by simp⟩ ?_ ?_
 ·rintro n ds g ⟨d,i,x,y,l,rfl,hi,S,ow,hl,hlt,hll⟩
  simp only [b0U,a0f,a0j,bs,d0B,a0o]
  refine Wp.dif ?_ ?_
  ·intro h0
   have h0:i<4:=dl_ h0
   have hw:=wi_ i (by omega)
   obtain ⟨v,g1,e1,c1,s1,v0,v1⟩:=m39 S.cd 2 (by omega) (by omega)
   have S1:=S.next c1 s1
   have ow1:=ow.same s1 ho
   simp only [e1,bs,a0L]
   by_cases hv:v=1
   ·simp only [hv,decide_true,a0c,if_true]
    obtain ⟨w,g2,e2,c2,s2,w0,w1⟩:=m39 S1.cd 120 (by omega) (by omega)
    have S2:=S1.next c2 s2
    have ow2:=ow1.same s2 ho
    simp only [e2,bs,a7i,b1f,d0B]
    refine b6p (ys:=[mkr ((i:Int),w)]) (n0:=h.length) S2.le ow2 (a1e _ _ _ _) (by simp;omega) fun d' g3 ow3 l3 k3 _ _=>?_
    have S3:=S2.app l3 fun q hq=>k3 q hq
    simp only [bs,a0n,a1A,a0f,a0r,hw]
    have e:l.map mkr++[mkr ((i:Int),w)]=(l++[((i:Int),w)]).map mkr:=by simp
    rw [e] at ow3
    refine .some (.inl ⟨rfl,n - 1,by omega,_,i+1,_,_,_,rfl,by omega,S3,ow3,MkA.app (k:=0) hl (fun m hm=>hlt m hm) (by show (0:Int)≤i;omega) (by show (i:Int)≤3;omega) w0 (by show w≤1000;omega),fun m hm=>?_,by simp;omega⟩)
    rcases d0X.1 hm with hm | hm
    ·have:=hlt m hm;omega
    ·simp at hm;rw [hm];show (i:Int)<_;omega
   ·simp only [hv,decide_false,a0c,d0C,if_false]
    simp only [bs,a0n,a1A,a0f,a0r,hw]
    exact .some (.inl ⟨rfl,n - 1,by omega,_,i+1,_,_,l,rfl,by omega,S1,ow1,hl,fun m hm=>by have:=hlt m hm;omega,by omega⟩)
  ·intro _
   exact .some (.inr ⟨by simp,rfl,d,l,rfl,S,ow,hl⟩)
 ·rintro ⟨ex,ds,g⟩ ⟨rfl,d,l,hd,S,ow,hl⟩
  simp only at hd S ow
  simp only [a0p,a0n,bs,a0f,hd,a0h]
  have fM:=a3h (n0:=h.length) (n:=3) ow (Nat.le_refl _) (fun a _=>b0y _ g 3 a)
  obtain ⟨h',e,c',s'⟩:=S.scope (d:=d) rfl (a1Q fM fun a _=>b5y _ a)
  rw [e]
  exact .some ⟨l,fM,hl,c',s'⟩
def mvL (k:Int) (l:Lin):Lin:=⟨l.off+k,l.len,l.txt⟩
theorem c0C (s:Int) (ls:List Lin) (i:Nat) (hi:i<ls.length):(((ls.take i).map (mvL s)++ls.drop i).map a1t).set i (a1t (mvL s ls[i]))=((ls.take (i+1)).map (mvL s)++ls.drop (i+1)).map a1t:=by
 have hg:ls[i]?=some ls[i]:=d0Q hi
 rw [List.drop_eq_getElem_cons hi,d0N,hg]
 generalize ls[i]=l
 rw [d0I,d0J,a4J _ _ _ _ i (by simp;omega)]
 simp [-bind_some]
theorem c3K {s:Int} {ls:List Lin} {x:D} {n0:Nat} {g:Hp} (ow:Own g n0 a1z 3 (ls.map a1t) x) (hl:ls.length≤1000) (hw:∀ l∈ls, -9223372036854775808≤l.off+s∧l.off+s<9223372036854775808) (a b:D) {β:Type} {K:Out→Option β} {Q:β→Prop}
  (k:∀ g' a' b' c',g'.length=g.length→(∀ q,¬ x.inOb q→g'[q]?=g[q]?)→Own g' n0 a1z 3 ((ls.map (mvL s)).map a1t) x→Wp (K (.ext 2,[a',b',c'],g')) Q) :
  Wp ((a0K (a7Q (.int .i64 s) x (.int .i64 ls.length)) [a,.int .i64 0,b] g).bind K) Q:=by
 refine Wp.loop (fun r ds g'=>∃ y z,∃ i:Nat,ds=[y,.int .i64 i,z]∧r+i=ls.length∧g'.length=g.length∧(∀ q,¬ x.inOb q→g'[q]?=g[q]?)∧Own g' n0 a1z 3 (((ls.take i).map (mvL s)++ls.drop i).map a1t) x)
  (fun r=>r.1 = .ext 2∧∃ a' b' c',r.2.1=[a',b',c']∧r.2.2.length=g.length∧(∀ q,¬ x.inOb q→r.2.2[q]?=g[q]?)∧Own r.2.2 n0 a1z 3 ((ls.map (mvL s)).map a1t) x) ls.length ⟨_,_,0,rfl,by omega,rfl,fun _ _=>rfl,by simpa using ow⟩ ?_ ?_
 ·rintro r ds g' ⟨y,z,i,rfl,hi,lg,sg,ow'⟩
  simp only [a7Q,a0f,a0j,bs,d0B,a0o]
  refine Wp.dif ?_ ?_
  ·intro h0
   have h0:i<ls.length:=dl_ h0
   have hg:ls[i]?=some ls[i]:=d0Q h0
   have hset:=c0C s ls i h0
   have hmem:ls[i]∈ls:=List.getElem_mem h0
   have hrow:(((ls.take i).map (mvL s)++ls.drop i).map a1t)[i]?=some (a1t ls[i]):=by
    rw [d0O,List.getElem?_append_right (by simp;omega)]
    have:i - ((ls.take i).map (mvL s)).length=0:=by simp;omega
    rw [this,List.getElem?_drop]
    simp [-bind_some, hg]
   have hL:(((ls.take i).map (mvL s)++ls.drop i).map a1t).length=ls.length:=by simp;omega
   obtain ⟨w0,w1⟩:=hw _ hmem
   generalize ls[i]=l at *
   have hws:IntKind.wrap .i64 (l.off+s)=l.off+s:=wrap_i64 w0 (by omega)
   have hw1:=wi_ i (by omega)
   rcases ow' with ⟨_,hn⟩ | ⟨o,hno,rfl,ho⟩
   ·rw [hn] at hrow;cases hrow
   rw [hL]
   have hlt:(0:Int)≤i∧(i:Int)<ls.length:=⟨by omega,by omega⟩
   have ld:a0d tab g' ty3 (.ptr o i 0)=some (.int .i64 l.off):=by rw [a6h,a0I ho,hrow];rfl
   rw [hL] at sg
   simp only [c3c,hlt,and_self,if_true,bs,Nat.zero_add,d0K,a2V,Nat.add_zero,ld,a0r,hws]
   refine c1a (kk:=i) (off:=0) (row:=a1t l) ho hrow (by rfl) (by simp [-bind_some, a1t]) (by rfl) fun g3 p3 s3=>?_
   have hspl:spl (a1t l) 0 (a0u (.int .i64 (l.off+s)))=a1t (mvL s l):=id rfl
   rw [hspl,hset] at p3
   simp only [bs,hw1]
   refine .some (.inl ⟨rfl,r - 1,by omega,_,_,i+1,rfl,by omega,s3.1.trans lg,fun q hq=>?_,?_⟩)
   ·rw [s3.2 q fun hh=>hq ⟨3,ls.length,by rw [hh]⟩];exact sg q hq
   ·refine .inr ⟨o,hno,?_,p3⟩
    have:(((ls.take (i+1)).map (mvL s)++ls.drop (i+1)).map a1t).length=ls.length:=by simp;omega
    rw [this]
  ·intro h0
   have h0:i=ls.length:=by
    have:¬ (i:Int)<ls.length:=by simpa using h0
    omega
   subst h0
   rw [d0Z,List.drop_length,List.append_nil] at ow'
   exact .some (.inr ⟨by simp,rfl,_,_,_,rfl,lg,sg,ow'⟩)
 ·rintro ⟨ex,ds,g'⟩ ⟨rfl,a',b',c',rfl,lg,sg,ow'⟩
  exact k g' a' b' c' lg sg ow'
def RowQ (g:Hp) (n0:Nat) (x:RI) (row:List D):Prop:=∃ ld fd,row=x.row ld fd∧Own g n0 a1z 3 (x.ls.map a1t) ld∧SlOf 2 fld x.fs fd∧x.ls.length≤1000∧x.fs.length≤1000
inductive RowsQ (g:Hp) (n0:Nat):List RI→List (List D)→Prop
 | nil:RowsQ g n0 [] []
 | cons {x row xs rows}:RowQ g n0 x row→RowsQ g n0 xs rows→RowsQ g n0 (x::xs) (row::rows)
theorem RowsQ.snoc {g:Hp} {n0:Nat} {x:RI} {row:List D}:∀ {xs:List RI} {rows:List (List D)},RowsQ g n0 xs rows→RowQ g n0 x row→RowsQ g n0 (xs++[x]) (rows++[row])
 | _,_,.nil,h => .cons h .nil
 | _,_,.cons a b,h => .cons a (b.snoc h)
theorem RowsQ.len {g:Hp} {n0:Nat}:∀ {xs:List RI} {rows:List (List D)},RowsQ g n0 xs rows→rows.length=xs.length
 | _,_,.nil=>rfl
 | _,_,.cons a b=>by simp [-bind_some, b.len]
theorem RowQ.keep {g g':Hp} {n0:Nat} {x:RI} {row:List D} (h:RowQ g n0 x row) (hk:∀ q rs,n0≤q→q<g.length→g[q]?=some (.row a1z 3 rs)→g'[q]?=g[q]?):RowQ g' n0 x row:=by
 obtain ⟨ld,fd,h1,h2,h3⟩:=h
 exact ⟨ld,fd,h1,h2.keep fun q hq hin=>hk q _ hq (h2.lt hin).2 (a1o h2 hin),h3⟩
theorem RowsQ.keep {g g':Hp} {n0:Nat} (hk:∀ q rs,n0≤q→q<g.length→g[q]?=some (.row a1z 3 rs)→g'[q]?=g[q]?):∀ {xs:List RI} {rows:List (List D)},RowsQ g n0 xs rows→RowsQ g' n0 xs rows
 | _,_,.nil => .nil
 | _,_,.cons a b => .cons (a.keep hk) (b.keep hk)
theorem RowQ.fz {g:Hp} {n0 m:Nat} (hm:m≤n0) {x:RI} {row:List D} (h:RowQ g n0 x row):∃ j:It,a2c j=x∧row.map (Pi.frz m g 2)=itr j:=by
 obtain ⟨ld,fd,rfl,h2,h3,h4,h5⟩:=h
 have hsl:=a3h (n0:=m) (n:=1) h2 hm (fun a _=>a5j _ g _ a)
 have hfd:Pi.frz m g 2 fd=fd:=a5o (n:=1) h3 fun p _ d hd=>by
  simp only [fld,d0W,List.not_mem_nil,or_false] at hd
  rcases hd with rfl | rfl <;> rfl
 refine ⟨c3z x (Pi.frz m g 2 ld) fd hsl h3 (by omega) (by omega),b5u _ _ _ _ _ _ _,?_⟩
 show [_,_,_,_,_,Pi.frz m g 2 ld,_,_,_,_,Pi.frz m g 2 fd]=_
 rw [hfd]
 rfl
theorem RowsQ.fz {g:Hp} {n0 m:Nat} (hm:m≤n0):∀ {xs:List RI} {rows:List (List D)},RowsQ g n0 xs rows→∃ its:List It,its.map a2c=xs∧rows.map (fun row=>row.map (Pi.frz m g 2))=its.map itr
 | _,_,.nil=>⟨[],rfl,rfl⟩
 | _,_,.cons a b=>by
  obtain ⟨j,h1,h2⟩:=a.fz hm
  obtain ⟨its,h3,h4⟩:=b.fz hm
  exact ⟨j::its,by simp [-bind_some, h1,h3],by simp [-bind_some, h2,h4]⟩
theorem c0r {g:Hp} {n1 m e z n:Nat} {rows:List (List D)} {d:D} (hd:Own g n1 e z rows d) (hn:m≤n1):(rows=[]∧frz m g (n+1) d = .nils)∨frz m g (n+1) d = .sl z false (rows.map fun row=>row.map (frz m g n)):=by
 rcases hd with ⟨rfl,hr⟩ | ⟨o,ho,rfl,hg⟩
 ·exact .inl ⟨hr,rfl⟩
 ·right
  have:Nat.ble m o=true:=by rw [Nat.ble_eq];omega
  simp only [Pi.frz,this,hg,List.drop_zero,d0Z]
theorem b8t (o k:Nat) (f:Int) (h0:0≤f) (h3:f<3):a0b tab a2n (.ptr o k 0) (.int .i64 f)=some (.ptr o k f.toNat):=by
 have h1:a8P tab a2n=some (ti3,some 3):=id rfl
 have h2:ti3.sz=1:=id rfl
 have h4:f<((3:Nat):Int):=h3
 simp only [a0b,h1,h2,h0,h4,and_self,if_true,Nat.zero_lt_one]
 simp [-bind_some]
def enr (es:List Int):List D:=es.map (.int .i64 ·)
structure QA (h g k:Hp) (o:Nat) (es:List Int) (row:List D):Prop where
 s:Sm h o k
 e:k[h.length]?=some (.row a2n 3 [enr es])
 i:k[g.length]?=some (.row a0P 11 [row])
 a:∀ q,q<g.length→q≠o→q≠h.length→k[q]?=g[q]?
 hg:h.length<g.length
theorem QA.l {h g k:Hp} {o:Nat} {es:List Int} {row:List D} (A:QA h g k o es row):g.length<k.length:=(d0R.1 A.i).1
theorem QA.next {h g k k':Hp} {o:Nat} {es:List Int} {row:List D} (A:QA h g k o es row) (c:CM k' o) (s:Same o k k'):QA h g k' o es row :=
 have ho:=A.s.lt
 have hg:=A.hg
 ⟨A.s.next c s,by rw [s.2 _ (by omega)];exact A.e,by rw [s.2 _ (by omega)];exact A.i,fun q h1 h2 h3=>by rw [s.2 q h2];exact A.a q h1 h2 h3,A.hg⟩
theorem QA.put {h g k k':Hp} {o:Nat} {es:List Int} {row row':List D} (A:QA h g k o es row) (p:k'[g.length]?=some (.row a0P 11 [row'])) (s:Same g.length k k'):QA h g k' o es row' :=
 have ho:=A.s.lt
 have hg:=A.hg
 ⟨A.s.app (Nat.le_of_eq s.1.symm) fun q hq=>s.2 q (by omega),by rw [s.2 _ (by omega)];exact A.e,p,fun q h1 h2 h3=>by rw [s.2 q (by omega)];exact A.a q h1 h2 h3,A.hg⟩
theorem QA.ends {h g k k':Hp} {o:Nat} {es es':List Int} {row:List D} (A:QA h g k o es row) (p:k'[h.length]?=some (.row a2n 3 [enr es'])) (s:Same h.length k k'):QA h g k' o es' row :=
 have ho:=A.s.lt
 have hg:=A.hg
 ⟨A.s.app (Nat.le_of_eq s.1.symm) fun q hq=>s.2 q (by omega),p,by rw [s.2 _ (by omega)];exact A.i,fun q h1 h2 h3=>by rw [s.2 q h3];exact A.a q h1 h2 h3,A.hg⟩
theorem QA.grow {h g k k':Hp} {o:Nat} {es:List Int} {row:List D} (A:QA h g k o es row) (l:k.length≤k'.length) (s:∀ q,q<g.length+1→k'[q]?=k[q]?):QA h g k' o es row :=
 have ho:=A.s.lt
 have hg:=A.hg
 ⟨A.s.app l fun q hq=>s q (by omega),by rw [s _ (by omega)];exact A.e,by rw [s _ (by omega)];exact A.i,fun q h1 h2 h3=>by rw [s q (by omega)];exact A.a q h1 h2 h3,A.hg⟩
theorem c2O (es:List Int) (f v:Int) (h3:es.length=3) (h0:0≤f) (hf:f<3):spl (enr es) f.toNat (a0u (.int .i64 v))=enr (es.set f.toNat v):=by
 match es,h3 with
 | [a,b,c],_ =>
  have:f=0∨f=1∨f=2:=by omega
  rcases this with rfl | rfl | rfl <;> rfl
theorem c2N (es:List Int) (f:Int) (h3:es.length=3) (h0:0≤f) (hf:f<3):∃ e,es[f.toNat]?=some e∧((enr es).drop f.toNat).head?=some (.int .i64 e)∧e∈es:=by
 match es,h3 with
 | [a,b,c],_ =>
  have:f=0∨f=1∨f=2:=by omega
  rcases this with rfl | rfl | rfl
  ·exact ⟨a,rfl,rfl,by simp⟩
  ·exact ⟨b,rfl,rfl,by simp⟩
  ·exact ⟨c,rfl,rfl,by simp⟩
def rkr (r:Int):List D:=[.int .i64 r]
structure QP (h g:Hp) (o:Nat) (es:List Int) (xs:List RI) (rows:List (List D)) (rs:List Int) (x y:D):Prop where
 s:Sm h o g
 e:g[h.length]?=some (.row a2n 3 [enr es])
 e3:es.length=3
 eb:∀ e∈es,0≤e∧e≤40+1000*xs.length
 q:RowsQ g (h.length+1) xs rows
 x:Own g (h.length+1) a0P 11 rows x
 y:Own g (h.length+1) ty3 1 (rs.map rkr) y
 ok:∀ z∈xs,∀ j:It,a2c j=z→OkI j
 rl:rs.length=xs.length
theorem QP.hg {h g:Hp} {o:Nat} {es:List Int} {xs:List RI} {rows:List (List D)} {rs:List Int} {x y:D} (P:QP h g o es xs rows rs x y):h.length<g.length:=(d0R.1 P.e).1
theorem c6M {h g:Hp} {o:Nat} {es:List Int} {xs:List RI} {rows:List (List D)} {rs:List Int} {x y:D} (P:QP h g o es xs rows rs x y) (hx:xs.length≤40) {n:Int} (hn:0<n) (hn2:n≤1000) {p8:D × Hp} (hp:p8.1 = .ptr h.length 0 0) (d3 d4 d5 d6 d7 d8 d9 d10 d11:D) {Q:Out→Prop}
  (k:∀ g' es' z rows' r x' y' e3 e4 e5 e6 e7 e8 e9 e10 e11,QP h g' o es' (xs++[z]) rows' (rs++[r]) x' y'→Q (.nrm,[x',y',.int .i64 (n - 1),e3,e4,e5,e6,e7,e8,e9,e10,e11],g')) :
  Wp (a6a (.ptr o 0 0) p8 [x,y,.int .i64 n,d3,d4,d5,d6,d7,d8,d9,d10,d11] g) Q:=by
 have hgt:decide (n>0)=true:=decide_eq_true hn
 have ho:=P.s.lt
 have hg:=P.hg
 simp only [a6a,a0f,a0j,bs,d0B,a0v,hgt,a0c,if_true]
 obtain ⟨i,g1,e1,c1,s1,hi⟩:=c6E P.s.cd
 obtain ⟨hch,a20,a31,l1⟩:=hi.ch
 have hle:=a5l _ _ _ hch
 have l3:=hi.l3
 have f4:=hi.fs
 simp only [e1,bs]
 have l1g:g1.length=g.length:=s1.1
 have n0:(a0J g1 a0P 11 [[.str [],.int .i64 0,.int .i64 0,.int .i64 0,.int .i64 0,.nils,.int .i64 0,.int .i64 0,.str [],.str [],.nils]])[g.length]?=some (.row a0P 11 [itr zit]):=by rw [← l1g];exact a1I _ _ _ _
 have nk:∀ q,q<g.length→(a0J g1 a0P 11 [[.str [],.int .i64 0,.int .i64 0,.int .i64 0,.int .i64 0,.nils,.int .i64 0,.int .i64 0,.str [],.str [],.nils]])[q]?=g1[q]?:=fun q hq=>a1c _ _ _ _ (by omega)
 have nl:(a0J g1 a0P 11 [[.str [],.int .i64 0,.int .i64 0,.int .i64 0,.int .i64 0,.nils,.int .i64 0,.int .i64 0,.str [],.str [],.nils]]).length=g.length+1:=by rw [← l1g];exact a2u _ _ _ _
 rw [l1g]
 generalize a0J g1 a0P 11 [[.str [],.int .i64 0,.int .i64 0,.int .i64 0,.int .i64 0,.nils,.int .i64 0,.int .i64 0,.str [],.str [],.nils]]=g2 at *
 have A2:QA h g g2 o es (itr zit):=⟨(P.s.next c1 s1).app (by omega) fun q hq=>nk q (by omega),by rw [nk _ hg,s1.2 _ (by omega)];exact P.e,n0,fun q h1 h2 h3=>by rw [nk q h1,s1.2 q h2],hg⟩
 clear n0 nk nl
 refine b3o (kk:=0) (off:=0) (row:=itr zit) (v := .agg (itr i)) A2.i (by rfl) (by rfl) (by exact Nat.le_refl _) (b4Z _) fun g3 p3 s3=>?_
 have A3:QA h g g3 o es (itc i.r i.e.a0 i.e.a1 i.e.a2 i.e.a3 i.e.ld i.e.a5 i.e.a6 i.e.s7 i.e.s8 i.e.fd):=A2.put p3 s3
 clear p3 s3 A2 e1
 obtain ⟨f,g4,e4,c4,s4,f0,f3⟩:=m39 A3.s.cd 3 (by omega) (by omega)
 have A4:=A3.next c4 s4
 clear A3 s4 c4
 simp only [e4,bs,a3L,b0f]
 refine c1a (kk:=0) (off:=0+1+1) (v := .int .i64 f) A4.i (by rfl) (by rfl) (by simp [-bind_some, itc]) (by rfl) fun g5 p5 s5=>?_
 have A5:QA h g g5 o es (itc i.r i.e.a0 f i.e.a2 i.e.a3 i.e.ld i.e.a5 i.e.a6 i.e.s7 i.e.s8 i.e.fd):=A4.put p5 s5
 clear p5 s5 A4 e4
 obtain ⟨ef,he,hed,hem⟩:=c2N es f P.e3 f0 f3
 obtain ⟨eb0,eb1⟩:=P.eb ef hem
 have lde:a0d tab g5 ty3 (.ptr h.length 0 f.toNat)=some (.int .i64 ef):=by rw [a6h,a0I A5.e];exact hed
 have ldf:a0d tab g5 ty3 (.ptr g.length 0 (0+1+2))=some (.int .i64 i.e.a2):=by rw [a6h,a0I A5.i];rfl
 have ldl:a0d tab g5 a1P (.ptr g.length 0 (0+1+4))=some i.e.ld:=by rw [b5h,a0I A5.i];rfl
 have hsh:IntKind.wrap .i64 (ef - i.e.a2)=ef - i.e.a2:=wrap_i64 (by omega) (by omega)
 simp only [bs,hp,b8t _ _ f f0 f3,lde,a3L,a4D,a3x,ldf,ldl,a0z,hsh]
 refine b7T (n0:=g5.length) (rows:=[]) (Nat.le_refl _) (.nils _ _ _ _) (a5p _ i.e.hld) (by simp;omega) fun x6 g6 o6 l6 k6 _ _=>?_
 rw [List.nil_append] at o6
 have l5:=A5.l
 have A6:=A5.grow l6 fun q hq=>k6 q (by omega)
 have lx6:a0y tab a1P x6=some (.int .i64 i.e.ls.length):=by rw [b8z o6];simp [-bind_some]
 have hoff:∀ l∈i.e.ls,0≤l.off∧l.off≤1000:=by
  have key:∀ (ls:List Lin) (a b:Int),mch a ls b→∀ y∈ls,a≤y.off∧y.off≤b:=by
   intro ls
   induction ls with
   | nil=>intro a b _ y hy;simp at hy
   | cons z r ih =>
    intro a b h y hy
    have h5:=a5l _ _ _ h.2.2.2.2
    rcases d0W.1 hy with rfl | hy
    ·have:=h.1;have:=h.2.1;omega
    ·have:=ih _ b h.2.2.2.2 y hy
     have:=h.2.1
     omega
  intro l hl
  have:=key _ _ _ hch l hl
  omega
 simp only [bs,lx6,d0B]
 refine c3K (s:=ef - i.e.a2) o6 (by omega) (fun l hl=>by have:=hoff l hl;omega) _ _ fun g7 z7 z10 z11 l7 k7 o7=>?_
 have A7:QA h g g7 o es _:=A6.grow (by omega) fun q hq=>k7 q fun hin=>by have:=(o6.lt hin).1;omega
 clear k7 A6 k6
 have ldf7:a0d tab g7 ty3 (.ptr g.length 0 (0+1+2))=some (.int .i64 i.e.a2):=by rw [a6h,a0I A7.i];rfl
 have ldt7:a0d tab g7 ty3 (.ptr g.length 0 (0+1+3))=some (.int .i64 i.e.a3):=by rw [a6h,a0I A7.i];rfl
 have hs2:IntKind.wrap .i64 (i.e.a2+(ef - i.e.a2))=i.e.a2+(ef - i.e.a2):=wrap_i64 (by omega) (by omega)
 have hs3:IntKind.wrap .i64 (i.e.a3+(ef - i.e.a2))=i.e.a3+(ef - i.e.a2):=wrap_i64 (by omega) (by omega)
 simp only [bs,a0p,a0n,a0f,a0j,a3L,a4D,a4E,a3x,ldf7,ldt7,a0r,hs2,hs3,d0B]
 have ox:=a0E (a2w o7)
 refine b7U (kk:=0) (off:=0+1+4) A7.i (by rfl) (by rw [ox.1];rfl) (by simp [-bind_some, itc]) ox.2 fun g8 p8' s8=>?_
 rw [ox.1] at p8'
 have A8:QA h g g8 o es (itc i.r i.e.a0 f i.e.a2 i.e.a3 x6 i.e.a5 i.e.a6 i.e.s7 i.e.s8 i.e.fd):=A7.put p8' s8
 have o8:=o7.same s8 (by omega)
 clear p8' s8 A7 ldf7 ldt7
 try simp only [bs,a3L,a4D,a4E]
 refine c1a (kk:=0) (off:=0+1+2) (v := .int .i64 (i.e.a2+(ef - i.e.a2))) A8.i (by rfl) (by rfl) (by simp [-bind_some, itc]) (by rfl) fun g9 p9 s9=>?_
 have A9:QA h g g9 o es (itc i.r i.e.a0 f (i.e.a2+(ef - i.e.a2)) i.e.a3 x6 i.e.a5 i.e.a6 i.e.s7 i.e.s8 i.e.fd):=A8.put p9 s9
 have o9:=o8.same s9 (by omega)
 clear p9 s9 A8 o8
 try simp only [bs,a3L,a4D,a4E]
 refine c1a (kk:=0) (off:=0+1+3) (v := .int .i64 (i.e.a3+(ef - i.e.a2))) A9.i (by rfl) (by rfl) (by simp [-bind_some, itc]) (by rfl) fun ga pa sa=>?_
 have Aa:QA h g ga o es (itc i.r i.e.a0 f (i.e.a2+(ef - i.e.a2)) (i.e.a3+(ef - i.e.a2)) x6 i.e.a5 i.e.a6 i.e.s7 i.e.s8 i.e.fd):=A9.put pa sa
 have oa:=o9.same sa (by omega)
 clear pa sa A9 o9
 have ldta:a0d tab ga ty3 (.ptr g.length 0 (0+1+3))=some (.int .i64 (i.e.a3+(ef - i.e.a2))):=by rw [a6h,a0I Aa.i];rfl
 simp only [bs,a3L,a4E,ldta,hp,b8t _ _ f f0 f3]
 refine c1a (kk:=0) (off:=f.toNat) (v := .int .i64 (i.e.a3+(ef - i.e.a2))) Aa.e (by rfl) (by rfl) (by simp only [enr,d0H,P.e3];omega) (by rfl) fun gb pb sb=>?_
 rw [c2O es f _ P.e3 f0 f3] at pb
 have Ab:QA h g gb o (es.set f.toNat (i.e.a3+(ef - i.e.a2))) _:=Aa.ends pb sb
 have ob:=oa.same sb (by omega)
 clear pb sb Aa oa ldta
 have ldi:a0d tab gb a0P (.ptr g.length 0 0)=some (.agg (itc i.r i.e.a0 f (i.e.a2+(ef - i.e.a2)) (i.e.a3+(ef - i.e.a2)) x6 i.e.a5 i.e.a6 i.e.s7 i.e.s8 i.e.fd)):=b5g Ab.i rfl
 have hlit:a0H tab a1N 1 [0] [.agg (itc i.r i.e.a0 f (i.e.a2+(ef - i.e.a2)) (i.e.a3+(ef - i.e.a2)) x6 i.e.a5 i.e.a6 i.e.s7 i.e.s8 i.e.fd)]=some (.sl 11 true [itc i.r i.e.a0 f (i.e.a2+(ef - i.e.a2)) (i.e.a3+(ef - i.e.a2)) x6 i.e.a5 i.e.a6 i.e.s7 i.e.s8 i.e.fd]):=id rfl
 simp only [bs,ldi,hlit]
 have hin:∀ {e z:Nat} {rw:List (List D)} {d:D},Own g (h.length+1) e z rw d→Own gb (h.length+1) e z rw d:=fun w=>w.keep fun q hq hi=>Ab.a q (w.lt hi).2 (by omega) (by omega)
 have xb:=hin P.x
 have yb:=hin P.y
 have qb:=P.q.keep (g':=gb) fun q _ hq hq2 _=>Ab.a q hq2 (by omega) (by omega)
 have hlr:rows.length≤40:=by rw [P.q.len];exact hx
 have lb:=Ab.l
 refine b9b (n0:=h.length+1) (by omega) xb (a1e _ _ _ _) (by simp;omega) fun x' gc oc lc kc kc' _=>?_
 have Sc:=Ab.s.app lc fun q hq=>kc q (by omega)
 have nox:∀ {e z:Nat} {rw:List (List D)} {d:D} {m:Nat},Own gb m e z rw d→e≠a0P→Own gc m e z rw d:=fun w hne=>w.keep fun q hq hi=>kc' q (w.lt hi).2 fun hx=>by
  have h1:=a1o w hi
  rw [a1o xb hx] at h1
  injection h1 with h1
  injection h1 with h1
  exact hne h1.symm
 have yc:=nox yb (by decide)
 have ol:=nox ob (by decide)
 have qc:=qb.keep (g':=gc) fun q rs _ hq h1=>kc' q hq fun hx=>by
  rw [a1o xb hx] at h1
  injection h1 with h1
  injection h1 with h1
  exact absurd h1 (by decide)
 have ec:gc[h.length]?=some (.row a2n 3 [enr (es.set f.toNat (i.e.a3+(ef - i.e.a2)))]):=by rw [kc _ (by omega)];exact Ab.e
 obtain ⟨r,gd,ed,cd,sd,r0,r4⟩:=m39 Sc.cd 4 (by omega) (by omega)
 have Sd:=Sc.next cd sd
 simp only [bs,ed,b8h]
 have xd:=oc.same sd (by omega)
 have yd:=yc.same sd (by omega)
 have old:=ol.same sd (by omega)
 have qd:=qc.keep (g':=gd) fun q rs hq _ _=>sd.2 q (by omega)
 have hld:gd.length=gc.length:=sd.1
 have hrl:rs.length≤40:=by rw [P.rl];exact hx
 refine c7D (ys:=[rkr r]) (n0:=h.length+1) (by omega) yd (a1e _ _ _ _) (by simp;omega) fun y' ge oe le ke ke' _=>?_
 have noy:∀ {e z:Nat} {rw:List (List D)} {d:D} {m:Nat},Own gd m e z rw d→e≠ty3→Own ge m e z rw d:=fun w hne=>w.keep fun q hq hi=>ke' q (w.lt hi).2 fun hx=>by
  have h1:=a1o w hi
  rw [a1o yd hx] at h1
  injection h1 with h1
  injection h1 with h1
  exact hne h1.symm
 have hn1:IntKind.wrap .i64 (n - 1)=n - 1:=wrap_i64 (by omega) (by omega)
 simp only [bs,a0z,hn1]
 have qe:=qd.keep (g':=ge) fun q rs _ hq h1=>ke' q hq fun hx=>by
  rw [a1o yd hx] at h1
  injection h1 with h1
  injection h1 with h1
  exact absurd h1 (by decide)
 have hrow:RowQ ge (h.length+1) (mvI (a2c i) f (ef - i.e.a2)) (itc i.r i.e.a0 f (i.e.a2+(ef - i.e.a2)) (i.e.a3+(ef - i.e.a2)) x6 i.e.a5 i.e.a6 i.e.s7 i.e.s8 i.e.fd) :=
  ⟨x6,i.e.fd,rfl,(noy old (by decide)).from (by omega),i.e.hfd,by simp only [mvI,a2c,d0H];omega,by show i.e.fs.length≤1000;omega⟩
 refine .some (k ge _ (mvI (a2c i) f (ef - i.e.a2)) _ r x' y' _ _ _ _ _ _ _ _ _ ⟨Sd.app le fun q hq=>ke q (by omega),by rw [ke _ (by omega),sd.2 _ (by omega)];exact ec,by simpa using P.e3,fun e he=>?_,qe.snoc hrow,noy xd (by decide),by rw [d0I];exact oe,fun z hz j hj=>?_,by simp [-bind_some, P.rl]⟩)
 ·rcases List.mem_or_eq_of_mem_set he with he | rfl
  ·have:=P.eb e he
   simp only [d0G,d0S,d0T]
   omega
  ·simp only [d0G,d0S,d0T]
   omega
 ·rcases d0X.1 hz with hz | hz
  ·exact P.ok z hz j hj
  ·simp only [List.mem_singleton] at hz
   subst hz
   exact c6I hi f0 (by omega) (by omega) (by omega) hj
theorem c0y (n0:Nat) (h:Hp) (n:Nat) (r:Int):∀ d∈rkr r,frz n0 h n d=d:=by
 intro d hd
 simp only [rkr,List.mem_singleton] at hd
 subst hd
 exact b4O _ _ _ _ _
theorem c6H {h:Hp} {o:Nat} (hc:CM h o) (m:Nat) (hm:m≤40):∃ (its:List It) (rs:List Int) (dq dr:D) (h':Hp),R a9h [.ptr o 0 0,.int .i64 m] h=some (.tup [dq,dr],h')∧SlOf 11 itr its dq∧SlOf 1 rkr rs dr∧(∀ i∈its,OkI i)∧its.length≤m∧rs.length=its.length∧CM h' o∧Same o h h':=by
 suffices Wp (R a9h [.ptr o 0 0,.int .i64 m] h) (fun p=>∃ (its:List It) (rs:List Int) (dq dr:D),p.1 = .tup [dq,dr]∧SlOf 11 itr its dq∧SlOf 1 rkr rs dr∧(∀ i∈its,OkI i)∧its.length≤m∧rs.length=its.length∧CM p.2 o∧Same o h p.2) by
  obtain ⟨⟨x,h'⟩,h1,its,rs,dq,dr,rfl,h2⟩:=this
  exact ⟨its,rs,dq,dr,h',h1,h2⟩
 have ho:=hc.lt
 have hmul:∀ v:Int,0≤v→v<4→IntKind.wrap .i64 (10*v)=10*v:=fun v h0 h1=>wrap_i64 (by omega) (by omega)
 rw [c5P]
 simp only [c2b,bs,d0B]
 obtain ⟨v1,g1,e1,c1,s1,a1,b1⟩:=m39 hc 4 (by omega) (by omega)
 simp only [e1,bs,a2o,hmul v1 a1 b1]
 obtain ⟨v2,g2,e2,c2,s2,a2,b2⟩:=m39 c1 4 (by omega) (by omega)
 simp only [e2,bs,a2o,hmul v2 a2 b2]
 obtain ⟨v3,g3,e3,c3,s3,a3,b3⟩:=m39 c2 4 (by omega) (by omega)
 have hb:a0D tab a2n [0,1,2] [.int .i64 (10*v1),.int .i64 (10*v2),.int .i64 (10*v3)]=some (.agg (enr [10*v1,10*v2,10*v3])):=id rfl
 simp only [e3,bs,a2o,hmul v3 a3 b3,hb,d0B]
 have l3:g3.length=h.length:=by have:=s1.1;have:=s2.1;have:=s3.1;omega
 have S3:=(((Sm.refl hc).next c1 s1).next c2 s2).next c3 s3
 have n0:(a0J g3 a2n 3 [[.int .i64 0,.int .i64 0,.int .i64 0]])[h.length]?=some (.row a2n 3 [enr [0,0,0]]):=by rw [← l3];exact a1I _ _ _ _
 have nk:∀ q,q<h.length→(a0J g3 a2n 3 [[.int .i64 0,.int .i64 0,.int .i64 0]])[q]?=g3[q]?:=fun q hq=>a1c _ _ _ _ (by omega)
 have nl:(a0J g3 a2n 3 [[.int .i64 0,.int .i64 0,.int .i64 0]]).length=h.length+1:=by rw [← l3];exact a2u _ _ _ _
 rw [l3]
 generalize a0J g3 a2n 3 [[.int .i64 0,.int .i64 0,.int .i64 0]]=g4 at *
 have S4:=S3.app (g':=g4) (by omega) fun q hq=>nk q hq
 refine c0Y (kk:=0) (off:=0) (row:=enr [0,0,0]) (v := .agg (enr [10*v1,10*v2,10*v3])) n0 (by rfl) (by rfl) (by exact Nat.le_refl _) (by rfl) fun g5 p5 s5=>?_
 have p5:g5[h.length]?=some (.row a2n 3 [enr [10*v1,10*v2,10*v3]]):=p5
 have S5:=S4.app (Nat.le_of_eq s5.1.symm) fun q hq=>s5.2 q (by omega)
 have hm1:IntKind.wrap .i64 ((m:Int)+1)=(m:Int)+1:=wrap_i64 (by omega) (by omega)
 simp only [bs,a0r,hm1]
 obtain ⟨n,g6,e6,c6,s6,a6,b6⟩:=m39 S5.cd ((m:Int)+1) (by omega) (by omega)
 have S6:=S5.next c6 s6
 simp only [bs,e6]
 obtain ⟨N,rfl⟩:∃ N:Nat,n=N:=⟨n.toNat,by omega⟩
 have hN:N≤m:=by omega
 refine Wp.loop (fun r ds g=>∃ x y d3 d4 d5 d6 d7 d8 d9 d10 d11,∃ es xs rows rs,ds=[x,y,.int .i64 (r:Nat),d3,d4,d5,d6,d7,d8,d9,d10,d11]∧r+xs.length=N∧QP h g o es xs rows rs x y)
  (fun q=>q.1 = .ext 0∧∃ x y es xs rows rs,nth 0 q.2.1=x∧nth 1 q.2.1=y∧xs.length=N∧QP h q.2.2 o es xs rows rs x y) N ⟨.nils,.nils,_,_,_,_,_,_,_,_,_,[10*v1,10*v2,10*v3],[],[],[],rfl,by simp,⟨S6,by rw [s6.2 _ (by omega)];exact p5,rfl,fun e he=>?_,.nil,.nils _ _ _ _,.nils _ _ _ _,fun z hz=>by simp at hz,rfl⟩⟩ ?_ ?_
 ·simp only [d0W,List.not_mem_nil,or_false] at he
  simp only [d0T]
  rcases he with rfl | rfl | rfl <;> omega
 ·rintro r ds g ⟨x,y,d3,d4,d5,d6,d7,d8,d9,d10,d11,es,xs,rows,rs,rfl,hr,P⟩
  by_cases h0:r=0
  ·subst h0
   simp only [a6a,a0f,a0j,bs,d0B,a0v,show decide (((0:Nat):Int)>0)=false by decide,a0c,d0C,if_false]
   exact .some (.inr ⟨by simp,rfl,x,y,es,xs,rows,rs,rfl,rfl,by omega,P⟩)
  ·refine c6M P (by omega) (n:=(r:Int)) (by omega) (by omega) rfl _ _ _ _ _ _ _ _ _ fun g' es' z rows' r' x' y' e3 e4 e5 e6 e7 e8 e9 e10 e11 P'=>?_
   have hr1:(r:Int) - 1=((r - 1:Nat):Int):=by omega
   rw [hr1]
   exact .inl ⟨rfl,r - 1,by omega,_,_,_,_,_,_,_,_,_,_,_,_,_,_,_,rfl,by simp only [d0G,d0S,d0T];omega,P'⟩
 ·rintro ⟨ex,ds,g⟩ ⟨rfl,x,y,es,xs,rows,rs,hx,hy,hxs,P⟩
  simp only at hx hy P
  simp only [a0p,a0n,bs,a0f,a0j,hx,hy,a2g]
  obtain ⟨its,q1,q2⟩:=P.q.fz (m:=h.length) (by omega)
  have hsx:SlOf 11 itr its (frz h.length g 3 x):=by
   rcases c0r (m:=h.length) (n:=2) P.x (by omega) with ⟨w1,w2⟩ | w
   ·rw [w2]
    have:its=[]:=by rw [w1] at q2;simpa using q2.symm
    rw [this]
    exact .nils _ _
   ·rw [w,q2];exact .mk _ _ _ _
  have hsy:=a3h (n0:=h.length) (n:=2) P.y (by omega) (fun a _=>c0y _ g 2 a)
  have hil:its.length=N:=by rw [← hxs,← q1];simp [-bind_some]
  obtain ⟨h',e,c',s'⟩:=P.s.scope (d := .tup [x,y]) (d' := .tup [frz h.length g 3 x,frz h.length g 3 y]) (by rfl) (.tup _ fun d hd=>by
   simp at hd
   rcases hd with rfl | rfl
   ·exact a1Q hsx fun a _=>b0n _ a
   ·exact a1Q hsy fun a _ d hd=>by
      simp only [rkr,List.mem_singleton] at hd
      subst hd
      exact .int _ _)
  rw [e]
  refine .some ⟨its,rs,_,_,rfl,hsx,hsy,fun i hi=>P.ok (a2c i) ?_ i rfl,by omega,by rw [P.rl,hxs,hil],c',s'⟩
  rw [← q1]
  exact d0Y.2 ⟨i,hi,rfl⟩
theorem c6F {h:Hp} {o:Nat} (hc:CM h o):∃ (n:Int) (ms:List FM) (its:List It) (dm dq:D) (h':Hp),R a6H [.ptr o 0 0] h=some (.agg (svr n dm dq),h')∧SlOf 2 mkr ms dm∧SlOf 11 itr its dq∧0≤n∧n<200∧MkA 0 ms∧(∀ i∈its,OkI i)∧its.length≤3∧CM h' o∧Same o h h':=by
 suffices Wp (R a6H [.ptr o 0 0] h) (fun p=>∃ (n:Int) (ms:List FM) (its:List It) (dm dq:D),p.1 = .agg (svr n dm dq)∧SlOf 2 mkr ms dm∧SlOf 11 itr its dq∧0≤n∧n<200∧MkA 0 ms∧(∀ i∈its,OkI i)∧its.length≤3∧CM p.2 o∧Same o h p.2) by
  obtain ⟨⟨x,h'⟩,h1,n,ms,its,dm,dq,rfl,h2⟩:=this
  exact ⟨n,ms,its,dm,dq,h',h1,h2⟩
 have ho:=hc.lt
 have r0:(a0J h a0m 3 [[.int .i64 0,.nils,.nils]])[h.length]?=some (.row a0m 3 [svr 0 .nils .nils]):=a1I _ _ _ _
 have l0:(a0J h a0m 3 [[.int .i64 0,.nils,.nils]]).length=h.length+1:=a2u _ _ _ _
 have k0:∀ q,q<h.length→(a0J h a0m 3 [[.int .i64 0,.nils,.nils]])[q]?=h[q]?:=fun q hq=>a1c _ _ _ _ hq
 rw [c5K]
 simp only [c1W,bs,d0B]
 generalize a0J h a0m 3 [[.int .i64 0,.nils,.nils]]=g0 at *
 have S0:=(Sm.refl hc).app (g':=g0) (by omega) k0
 obtain ⟨n,g1,e1,c1,s1,n0,n1⟩:=m39 S0.cd 200 (by omega) (by omega)
 have S1:=S0.next c1 s1
 obtain ⟨ms,dm,g2,e2,hm,ha,c2,s2⟩:=c6G c1
 have S2:=S1.next c2 s2
 have l2:g2.length=h.length+1:=by have:=s1.1;have:=s2.1;omega
 have r2:g2[h.length]?=some (.row a0m 3 [svr 0 .nils .nils]):=by rw [s2.2 _ (by omega),s1.2 _ (by omega)];exact r0
 simp only [e1,e2,bs,b2t n dm (a2k hm),l2,d0B]
 have r3:(a0J g2 a0m 3 [[.int .i64 0,.nils,.nils]])[h.length+1]?=some (.row a0m 3 [svr 0 .nils .nils]):=by rw [← l2];exact a1I _ _ _ _
 have k3:∀ q,q<h.length+1→(a0J g2 a0m 3 [[.int .i64 0,.nils,.nils]])[q]?=g2[q]?:=fun q hq=>a1c _ _ _ _ (by omega)
 have l3:(a0J g2 a0m 3 [[.int .i64 0,.nils,.nils]]).length=h.length+2:=by rw [a2u,l2]
 generalize a0J g2 a0m 3 [[.int .i64 0,.nils,.nils]]=g3 at *
 have S3:=S2.app (g':=g3) (by omega) fun q hq=>k3 q (by omega)
 refine a6Y (kk:=0) (off:=0) (row:=svr 0 .nils .nils) (v := .agg [.int .i64 n,dm,.nils]) r3 (by rfl) (by rfl) (by exact Nat.le_refl _) (by rcases hm with ⟨rfl,_⟩ | ⟨b,rfl⟩ <;> rfl) fun g4 p4 s4=>?_
 have p4:g4[h.length+1]?=some (.row a0m 3 [svr n dm .nils]):=p4
 have S4:=S3.app (g':=g4) (Nat.le_of_eq s4.1.symm) fun q hq=>s4.2 q (by omega)
 obtain ⟨its,rs,dq,dr,g5,e5,hq,_,hok,hil,_,c5,s5⟩:=c6H S4.cd 3 (by omega)
 have e5:R a9h [.ptr o 0 0,.int .i64 3] g4=some (.tup [dq,dr],g5):=e5
 have S5:=S4.next c5 s5
 simp only [bs,e5,a1G,d0E,d0F,a8X]
 have p5:g5[h.length+1]?=some (.row a0m 3 [svr n dm .nils]):=by rw [s5.2 _ (by omega)];exact p4
 have oq:=a0E (a2k hq)
 refine b9c (kk:=0) (off:=0+2) (row:=svr n dm .nils) p5 (by rfl) (by rw [oq.1];rfl) (by exact Nat.le_refl _) oq.2 fun g6 p6 s6=>?_
 rw [oq.1] at p6
 have p6:g6[h.length+1]?=some (.row a0m 3 [svr n dm dq]):=p6
 have S6:=S5.app (g':=g6) (Nat.le_of_eq s6.1.symm) fun q hq=>s6.2 q (by omega)
 have ld6:a0d tab g6 a0m (.ptr (h.length+1) 0 0)=some (.agg (svr n dm dq)):=by rw [a5C,a0I p6];rfl
 have r6:g6[h.length]?=some (.row a0m 3 [svr 0 .nils .nils]):=by rw [s6.2 _ (by omega),s5.2 _ (by omega),s4.2 _ (by omega),k3 _ (by omega)];exact r2
 have okv:(D.agg (svr n dm dq)).okv=true:=by
  rcases hm with ⟨rfl,_⟩ | ⟨_,rfl⟩ <;> rcases hq with ⟨rfl,_⟩ | ⟨_,rfl⟩ <;> rfl
 simp only [bs,ld6]
 refine a6Y (kk:=0) (off:=0) (row:=svr 0 .nils .nils) (v := .agg (svr n dm dq)) r6 (by rfl) (by rfl) (by exact Nat.le_refl _) okv fun g7 p7 s7=>?_
 have p7:g7[h.length]?=some (.row a0m 3 [svr n dm dq]):=p7
 have S7:=S6.app (g':=g7) (Nat.le_of_eq s7.1.symm) fun q hq=>s7.2 q (by omega)
 have ld7:a0d tab g7 a0m (.ptr h.length 0 0)=some (.agg (svr n dm dq)):=by rw [a5C,a0I p7];rfl
 simp only [bs,ld7,a0h]
 have fM:frz h.length g7 3 dm=dm:=a5o hm fun a _=>b0y _ g7 2 a
 have fQ:frz h.length g7 3 dq=dq:=a5o hq fun a _=>a6J _ g7 1 a
 obtain ⟨h',e,c',s'⟩:=S7.scope (d := .agg (svr n dm dq)) (d' := .agg (svr n dm dq)) (by
  show D.agg [frz h.length g7 3 (.int .i64 n),frz h.length g7 3 dm,frz h.length g7 3 dq]=_
  rw [fM,fQ];rfl) (.agg _ fun d hd=>by
  simp [-bind_some, svr] at hd
  rcases hd with rfl | rfl | rfl
  ·exact .int _ _
  ·exact a1Q hm fun a _=>b5y _ a
  ·exact a1Q hq fun a _=>b0n _ a)
 rw [e]
 exact .some ⟨n,ms,its,dm,dq,rfl,hm,hq,n0,n1,ha,hok,hil,c',s'⟩
def a0B (ss:List SvD):List Int:=(ss.map a2O).flatten
theorem a2Q (s:SvD) (t:List SvD):a0B (s::t)=a2O s++a0B t:=by simp [-bind_some, a0B]
theorem a3M (s t:List SvD):a0B (s++t)=a0B s++a0B t:=by simp [-bind_some, a0B]
theorem a8g (ss:List SvD):∀ z∈a0B ss,U8 z:=b0h a2O ss fun s=>b9I _ _ _
theorem b1t (s:SvD):12≤(a2O s).length:=by have:=(a4i s []).1;simp at this;omega
theorem a8f (ss:List SvD):ss.length≤(a0B ss).length:=by
 induction ss with
 | nil=>exact Nat.le_refl _
 | cons s t ih=>have:=b1t s;rw [a2Q,d0G,d0S];omega
def c4C:Int→List SvD→List ((Int × List FM × List RI) × Int)
 | _,[]=>[]
 | a,s::t=>((s.1,s.2.1,s.2.2.map a2c),a+(a2O s).length)::c4C (a+(a2O s).length) t
theorem a8x:∀ (ss:List SvD),(∀ s∈ss,OkS s)→∀ r,(a2P r).1≠0→∀ f a,ss.length<f→b8I f (a0B ss++r) a=c4C a ss
 | [],_,r,hr,0,a,hf=>by simp at hf
 | [],_,r,hr,f+1,a,hf=>by
  show b8I (f+1) r a=[]
  unfold b8I
  rw [if_neg hr]
 | s::t,h,r,hr,0,a,hf=>by simp at hf
 | s::t,h,r,hr,f+1,a,hf=>by
  have e:a0B (s::t)++r=a2O s++(a0B t++r):=by rw [a2Q];simp [-bind_some]
  rw [e]
  unfold b8I
  rw [b6X (h s (by simp)),if_pos rfl]
  simp only [d0K]
  rw [List.drop_left' rfl,a8x t (fun x hx=>h x (List.mem_cons_of_mem _ hx)) r hr f _ (by simp at hf;omega)]
  rfl
def a2a (ss:List SvD):SvD:=ss.getLast?.getD (0,[],[])
theorem a9G:∀ {ss:List SvD} {a:Int} {rs:List (List D × Int)},RecsOf rs (c4C a ss)→(ss=[]∧rs=[])∨(ss≠[]∧∃ dm dq its,rs.getLast?=some (svr (a2a ss).1 dm dq,a+(a0B ss).length)∧SlOf 2 mkr (a2a ss).2.1 dm∧SlOf 11 itr its dq∧its.map a2c=(a2a ss).2.2.map a2c)
 | [],a,rs,h=>by
  cases h
  exact .inl ⟨rfl,rfl⟩
 | s::t,a,rs,h=>by
  cases h with
  | cons h1 h2 =>
   rename_i r rs
   right
   refine ⟨by simp,?_⟩
   rcases a9G h2 with ⟨rfl,rfl⟩ | ⟨hne,dm,dq,its,q1,q2⟩
   ·obtain ⟨dm,dq,its,rfl,w⟩:=h1
    refine ⟨dm,dq,its,?_,w⟩
    simp [-bind_some, a2a,a0B]
   ·have hl:a2a (s::t)=a2a t:=by
      cases t with
      | nil=>exact absurd rfl hne
      | cons y u=>simp [-bind_some, a2a,List.getLast?_cons_cons]
    rw [hl]
    refine ⟨dm,dq,its,?_,q2⟩
    cases rs with
    | nil=>simp at q1
    | cons y u =>
     rw [List.getLast?_cons_cons,q1,a2Q,d0G]
     have:a+(a2O s).length+(a0B t).length=a+((a2O s).length+(a0B t).length:Nat):=by omega
     rw [this]
def a4C:Int→List SvD→List Int
 | _,[]=>[]
 | a,s::t=>(a+(a2O s).length)::a4C (a+(a2O s).length) t
theorem a9F:∀ {ss:List SvD} {a:Int} {rs:List (List D × Int)},RecsOf rs (c4C a ss)→rs.map (fun r=>[D.int .i64 r.2])=(a4C a ss).map rkr
 | [],a,rs,h=>by
  cases h
  rfl
 | s::t,a,rs,h=>by
  cases h with
  | cons h1 h2 =>
   obtain ⟨dm,dq,its,rfl,w⟩:=h1
   simp only [d0J,a4C,a9F h2]
   rfl
theorem a5a:∀ (ss:List SvD) (a:Int),(a4C a ss).length=ss.length
 | [],a=>rfl
 | s::t,a=>by simp [-bind_some, a4C,a5a t]
theorem a4Z:∀ (ss:List SvD) (a:Int) (k:Nat),k<ss.length→(a4C a ss)[k]?=some (a+(a0B (ss.take (k+1))).length)
 | [],a,k,h=>by simp at h
 | s::t,a,0,h=>by simp [-bind_some, a4C,a0B]
 | s::t,a,k+1,h=>by
  have:=a4Z t (a+(a2O s).length) k (by simpa using h)
  simp only [a4C,d0F,this,List.take_succ_cons,a2Q,d0G]
  congr 1
  omega
theorem a8q {ss:List SvD} (hs:∀ s∈ss,OkS s) {r l:List Int} (hr:(a2P r).1≠0) (hl:l=a0B ss++r) (hu:∀ z∈r,U8 z) (hlen:l.length≤1000000000) {d:D} (hd:SlOf 1 byr l d) (h:Hp) :
  ∃ dm dq its,R1 a5M [d] h=some (.tup [.agg (svr (a2a ss).1 dm dq),.int .i64 ((a0B ss).length:Int)],h)∧SlOf 2 mkr (a2a ss).2.1 dm∧SlOf 11 itr its dq∧its.map a2c=(a2a ss).2.2.map a2c:=by
 have hul:∀ z∈l,U8 z:=fun z hz=>by
  rw [hl] at hz
  rcases d0X.1 hz with hz | hz
  ·exact a8g ss z hz
  ·exact hu z hz
 obtain ⟨rs,e,hrs⟩:=b1r hd hlen hul
 have hg:=a8f ss
 rw [hl,a8x ss hs r hr _ 0 (by simp;omega)] at hrs
 rw [c7H,b6U,e]
 simp only [bs]
 rcases a9G hrs with ⟨rfl,rfl⟩ | ⟨hne,dm,dq,its,q1,q2⟩
 ·exact ⟨.nils,.nils,[],rfl,.nils _ _,.nils _ _,rfl⟩
 ·refine ⟨dm,dq,its,?_,q2⟩
  unfold b0p
  rw [q1]
  simp [-bind_some]
theorem b7j {ss:List SvD} (hs:∀ s∈ss,OkS s) {r l:List Int} (hr:(a2P r).1≠0) (hl:l=a0B ss++r) (hu:∀ z∈r,U8 z) (hlen:l.length≤1000000000) {d:D} (hd:SlOf 1 byr l d) (h:Hp) :
  ∃ x,R1 a7t [d] h=some (x,h)∧SlOf 1 rkr (a4C 0 ss) x:=by
 have hul:∀ z∈l,U8 z:=fun z hz=>by
  rw [hl] at hz
  rcases d0X.1 hz with hz | hz
  ·exact a8g ss z hz
  ·exact hu z hz
 obtain ⟨rs,e,hrs⟩:=b1r hd hlen hul
 have hg:=a8f ss
 rw [hl,a8x ss hs r hr _ 0 (by simp;omega)] at hrs
 rw [c7G,b6T,e]
 simp only [bs]
 refine ⟨_,rfl,?_⟩
 have:=a9F hrs
 by_cases hz:rs=[]
 ·rw [if_pos hz]
  rw [hz] at this
  have h0:a4C 0 ss=[]:=by simpa using this.symm
  rw [h0]
  exact .nils _ _
 ·rw [if_neg hz,this]
  exact .mk _ _ _ _
theorem b5V (n:Int) (h:Hp):a0d tab h ty3 (.fptr (rkr n))=some (.int .i64 n):=id rfl
theorem c7f {ss:List SvD} (hs:∀ s∈ss,OkS s) {r l:List Int} (hr:(a2P r).1≠0) (hl:l=a0B ss++r) (hu:∀ z∈r,U8 z) (hlen:l.length≤1000000000) {d:D} (hd:SlOf 1 byr l d) (K:Nat) (hK:1≤K) (hK2:K≤1000000) (h:Hp) :
  ∃ d',R1 b1K [d,.int .i64 K] h=some (d',h)∧SlOf 1 byr (a0B (ss.drop (ss.length - K))) d':=by
 suffices Wp (R1 b1K [d,.int .i64 K] h) (fun p=>p.2=h∧SlOf 1 byr (a0B (ss.drop (ss.length - K))) p.1) by
  obtain ⟨⟨x,h'⟩,h1,rfl,h2⟩:=this
  exact ⟨x,h1,h2⟩
 obtain ⟨x,ex,hx⟩:=b7j hs hr hl hu hlen hd h
 have hel:=a5a ss 0
 have hge:=a8f ss
 have hll:l.length=(a0B ss).length+r.length:=by rw [hl];simp [-bind_some]
 have h1:decide ((K:Int)<1)=false:=decide_eq_false (by omega)
 rw [c5N]
 simp only [c1Z,ex,bs,a0o,h1,a0s,c3s hx,hel,a0L,a0g,d0C,if_false,if_true,d0B]
 refine Wp.dif ?_ ?_
 ·intro h0
  have h0:ss=[]:=by
   apply List.eq_nil_of_length_eq_zero
   have:((ss.length:Nat):Int)=0:=by simpa using h0
   omega
  subst h0
  simp only [a0h]
  rw [a1y (d' := .nils) rfl .nils (Nat.le_refl _) fun _ _=>rfl]
  exact .some ⟨rfl,by rw [List.drop_nil];exact .nils _ _⟩
 intro h0
 have h0:0<ss.length:=by
  have:¬ ((ss.length:Nat):Int)=0:=by simpa using h0
  omega
 -- the end
 have fin:∀ (F:Int) (b:List D),F=((a0B (ss.take (ss.length - K))).length:Int)→nth 0 b = .int .i64 F →
   Wp ((a0l tab .sub ty3 (.int .i64 ss.length) (.int .i64 1)).bind fun t34=>(a0b tab a4d x t34).bind fun t35=>(a0d tab h ty3 t35).bind fun t36=>(a0w tab a0G true true false [d,nth 0 b,t36]).bind fun t37=>(a0A tab h a0G a0G .nils t37).bind fun p38=>scope h p38.2 (a0i [p38.1])) (fun p=>p.2=h∧SlOf 1 byr (a0B (ss.drop (ss.length - K))) p.1):=by
  intro F b hF hb
  have hw:IntKind.wrap .i64 ((ss.length:Int) - 1)=((ss.length - 1:Nat):Int):=by rw [wrap_i64 (by omega) (by omega)];omega
  have hg:=a4Z ss 0 (ss.length - 1) (by omega)
  have ht:ss.take (ss.length - 1+1)=ss:=List.take_of_length_le (by omega)
  rw [ht] at hg
  have hi:a0b tab a4d x (.int .i64 ((ss.length - 1:Nat):Int))=some (.fptr (rkr (0+(a0B ss).length))):=by
   rw [c3d hx,d0K,hg,if_pos (by omega)];rfl
  have hsp:a0B ss=a0B (ss.take (ss.length - K))++a0B (ss.drop (ss.length - K)):=by rw [← a3M,List.take_append_drop]
  have hfl:(a0B ss).length=(a0B (ss.take (ss.length - K))).length+(a0B (ss.drop (ss.length - K))).length:=by
   conv=>lhs;rw [hsp,d0G]
  obtain ⟨d2,e2,s2⟩:=a5z hd (a0B (ss.take (ss.length - K))).length (a0B ss).length (by omega) (by omega)
  have hcut:(l.take (a0B ss).length).drop (a0B (ss.take (ss.length - K))).length=a0B (ss.drop (ss.length - K)):=by
   rw [hl,List.take_left' rfl]
   conv=>lhs;rw [hsp]
   exact List.drop_left' rfl
  rw [hcut] at s2
  have hz:(0:Int)+((a0B ss).length:Int)=((a0B ss).length:Int):=by omega
  rw [hz] at hi
  simp only [a0z,hw,bs,hi,b5V,hb,hF,e2]
  refine b7S (n0:=h.length) (rows:=[]) (Nat.le_refl _) (.nils _ _ _ _) (a5p _ s2) (by simp only [d0H,d0T];omega) fun x4 g4 o4 l4 k4 _ _=>?_
  rw [List.nil_append] at o4
  simp only [bs,a0h]
  have hso:=a3h (n0:=h.length) (n:=3) o4 (Nat.le_refl _) (fun a _=>a7T _ g4 3 a)
  rw [a1y (d':=frz h.length g4 4 x4) rfl (a1Q hso fun a _=>a8K _ a) l4 fun q hq=>k4 q hq]
  exact .some ⟨rfl,hso⟩
 by_cases hc:(K:Int)<ss.length
 ·have w1:IntKind.wrap .i64 ((ss.length:Int) - K)=((ss.length - K:Nat):Int):=by rw [wrap_i64 (by omega) (by omega)];omega
  have w2:IntKind.wrap .i64 (((ss.length - K:Nat):Int) - 1)=((ss.length - K - 1:Nat):Int):=by rw [wrap_i64 (by omega) (by omega)];omega
  have hg:=a4Z ss 0 (ss.length - K - 1) (by omega)
  have ht:ss.length - K - 1+1=ss.length - K:=by omega
  rw [ht] at hg
  have hi:a0b tab a4d x (.int .i64 ((ss.length - K - 1:Nat):Int))=some (.fptr (rkr (0+(a0B (ss.take (ss.length - K))).length))):=by
   rw [c3d hx,d0K,hg,if_pos (by omega)];rfl
  have hz:(0:Int)+((a0B (ss.take (ss.length - K))).length:Int)=((a0B (ss.take (ss.length - K))).length:Int):=by omega
  rw [hz] at hi
  simp only [hc,decide_true,a0c,if_true,a0z,w1,w2,bs,hi,b5V,a0n]
  exact fin _ _ rfl rfl
 ·simp only [hc,decide_false,a0c,d0C,if_false,bs,a0n]
  refine fin 0 _ ?_ rfl
  have:ss.length - K=0:=by omega
  rw [this];rfl
theorem MkA.len:∀ {l:List FM} {n:Int},MkA n l→l=[]∨n+l.length≤4
 | [],n,h => .inl rfl
 | x::r,n,h=>by
  cases h with
  | cons h1 h2 h3 h4 h5 =>
   right
   rcases h5.len with rfl | h6
   ·simp [-bind_some];omega
   ·simp only [d0S];omega
theorem b4Y {its:List It} (h:∀ i∈its,OkI i):(its.map a3d).flatten.length≤its.length*20008:=a4j a3d 20008 its fun i hi=>by
 have:=(h i hi).b
 rw [a4X];omega
theorem a8e {n:Int} {ms:List FM} {its:List It} (n0:0≤n) (n1:n<200) (hm:MkA 0 ms) (hi:∀ i∈its,OkI i) (hl:its.length≤3):OkS (n,ms,its)∧(a2O (n,ms,its)).length≤61000:=by
 have h4:ms.length≤4:=by
  rcases hm.len with rfl | h
  ·simp [-bind_some]
  ·omega
 have hil:=b4Y hi
 have h9:(its.length*20008:Nat)≤3*20008:=Nat.mul_le_mul_right _ hl
 refine ⟨⟨by unfold I64;show _≤n∧n<_;omega,fun m hmm=>?_,hi,?_,?_⟩,?_⟩
 ·have:=hm.mem m hmm
  unfold I64;omega
 ·show stC n ms its.length=0
  unfold stC
  rw [if_neg (by omega),if_neg (by rw [hm.asc];simp [-bind_some]),if_neg (by rw [hm.neg (Int.le_refl 0)];simp [-bind_some]),if_neg (by omega)]
 ·show (a1l n ms its).length<_
  rw [a6u];omega
 ·show (b2D n ms its).length≤_
  rw [a4Y];omega
theorem a8z {s:SvD} (hs:OkS s) (he:(a2O s).length≤700000000) {j:List Int} {dj dm dq:D} (h:Hp) (hj:SlOf 1 byr j dj) (hjl:j.length≤1000000000) (hm:SlOf 2 mkr s.2.1 dm) (hq:SlOf 11 itr s.2.2 dq):∃ d',R1 a5g [dj,.agg (svr s.1 dm dq)] h=some (.tup [d',.int .i64 0],h)∧SlOf 1 byr (j++a2O s) d':=by
 have hl:=hs.le
 have hT:(s.2.2.map a3d).flatten.length≤700000000:=by
  have:(a2O s).length=_:=a4Y s.1 s.2.1 s.2.2
  omega
 obtain ⟨d',e,o⟩:=c7e j s.1 s.2.1 s.2.2 dj dm dq h hj hjl hm hq (by omega) hT (fun i hi=>by have:=(hs.q i hi).b;omega) (fun i _ g=>b8Q i g)
 rw [hs.e] at e o
 exact ⟨d',by rw [c0w];exact e,o⟩
theorem c7d (h:Hp):R1 b4I [] h=some (.bool true,h):=by
 have b1:a0D tab a0m [0] [.int .i64 1]=some (.agg (svr 1 .nils .nils)):=id rfl
 have b2:a0D tab a1f [0,1] [.int .i64 3,.int .i64 4]=some (.agg (mkr (3,4))):=id rfl
 have b3:a0H tab a0N 1 [0] [.agg (mkr (3,4))]=some (.sl 2 true [mkr (3,4)]):=id rfl
 have b4:a0D tab a0m [0,1] [.int .i64 2,.sl 2 true [mkr (3,4)]]=some (.agg (svr 2 (.sl 2 true [mkr (3,4)]) .nils)):=id rfl
 have hm2:SlOf 2 mkr [((3,4):FM)] (.sl 2 true [mkr (3,4)]) := .mk _ _ [((3,4):FM)] true
 have ok1:OkS (1,[],[]):=(a8e (n:=1) (ms:=[]) (its:=[]) (by omega) (by omega) (.nil _) (fun i hi=>by simp at hi) (by simp)).1
 have ok2:OkS (2,[(3,4)],[]):=(a8e (n:=2) (ms:=[(3,4)]) (its:=[]) (by omega) (by omega) (.cons (by decide) (by decide) (by decide) (by decide) (.nil _)) (fun i hi=>by simp at hi) (by simp)).1
 have l1:(a2O (1,[],[])).length=28:=by have:(a2O (1,[],[])).length=_:=a4Y 1 [] [];simpa using this
 have l2:(a2O (2,[(3,4)],[])).length=44:=by have:(a2O (2,[(3,4)],[])).length=_:=a4Y 2 [(3,4)] [];simpa using this
 obtain ⟨d1,e1,o1⟩:=a8z ok1 (by omega) h (SlOf.nils 1 byr) (by simp) (SlOf.nils 2 mkr) (SlOf.nils 11 itr)
 obtain ⟨d2,e2,o2⟩:=a8z ok2 (by omega) h o1 (by simp [-bind_some, l1]) hm2 (SlOf.nils 11 itr)
 have hall:∀ s∈[((1,[],[]):SvD),(2,[(3,4)],[])],OkS s:=fun s hs=>by
  simp only [d0W,List.not_mem_nil,or_false] at hs
  rcases hs with rfl | rfl
  ·exact ok1
  ·exact ok2
 have hlen:(a0B [((1,[],[]):SvD),(2,[(3,4)],[])]).length=72:=by simp [-bind_some, a0B,l1,l2]
 obtain ⟨dm,dq,its,e3,o3,_,_⟩:=a8q hall (r:=[]) (l:=[]++a2O (1,[],[])++a2O (2,[(3,4)],[])) (by rw [a7Z];decide) (by simp [-bind_some, a0B]) (by simp) (by simp [-bind_some, l1,l2]) o2 h
 have hla:a2a [((1,[],[]):SvD),(2,[(3,4)],[])]=(2,[(3,4)],[]):=rfl
 rw [hla] at e3 o3
 have hdl:a0y tab a0G d2=some (.int .i64 72):=by
  rw [a1H o2];simp [-bind_some, l1,l2]
 have bx:a5x 3 (.agg (svr 2 dm dq))=some (.fptr (svr 2 dm dq)):=a2E 3 _ rfl
 rw [hlen] at e3
 rw [c5J]
 simp only [c1V,b1,b2,b3,b4,e1,e2,e3,bs,a1G,d0E,d0F,bx,a0L,decide_true,a0s,if_true,a0g,hdl]
 simp only [show ((72:Nat):Int)=72 from rfl,decide_true,a0s,if_true,a0g,bs,sv0,sv1,c4D,a6L,a0L,a3g o3,d0S,d0T,a0h]
 rfl
def LtO (g:Hp) (n0 e z:Nat) (rows:List (List D)) (x:D):Prop:=x = .sl z true rows∨Own g n0 e z rows x
theorem LtO.keep {g g':Hp} {n0 e z:Nat} {rows:List (List D)} {x:D} (h:LtO g n0 e z rows x) (hk:∀ q,n0≤q→x.inOb q→g'[q]?=g[q]?):LtO g' n0 e z rows x:=h.elim .inl fun w => .inr (w.keep hk)
theorem c7V {t e:Nat} {i j:TI} (ht:tab t=some i) (hi:i.td = .sl e) (he:tab e=some j) (hz:0<j.sz) {h:Hp} {n0:Nat} (hn0:n0≤h.length) {rows ys:List (List D)} {x y:D} (hx:LtO h n0 e j.sz rows x) (hy:a1h h j.sz y=some ys) (hl:lim (rows.length+ys.length) j.by_=true) (hne:ys≠[]) {β:Type} {f:D × Hp→Option β} {Q:β→Prop}
  (k:∀ x' h',Own h' n0 e j.sz (rows++ys) x'→h.length≤h'.length→(∀ q,q<n0→h'[q]?=h[q]?)→(∀ q,q<h.length→¬ x.inOb q→h'[q]?=h[q]?)→Wp (f (x',h')) Q):Wp ((a0A tab h t t x y).bind f) Q:=by
 rcases hx with rfl | hx
 ·obtain ⟨x',g',e',l1,k1,o1⟩:=b9l (T:=tab) ht hi he hz hy hl hne
  rw [e']
  exact k x' g' (o1.from hn0) l1 (fun q hq=>k1 q (by omega)) fun q hq _=>k1 q hq
 ·exact a6s (T:=tab) ht hi he hz hn0 hx hy hl fun x' g' o1 l1 k1 k2 _=>k x' g' o1 l1 k1 k2
theorem b8A {g:Hp} {n0:Nat} {rows:List (List D)} {y:D} (hy:LtO g n0 ty3 1 rows y) {i:Nat} {e:Int} (h:rows[i]?=some (rkr e)):∃ p,a0b tab a4d y (.int .i64 i)=some p∧a0d tab g ty3 p=some (.int .i64 e):=by
 have hlt:=(d0R.1 h).1
 rcases hy with rfl | ⟨rfl,hr⟩ | ⟨o,_,rfl,ho⟩
 ·exact ⟨.fptr (rkr e),by rw [c6r,if_pos (by omega),d0K,h];rfl,b5V e g⟩
 ·rw [hr] at h;cases h
 ·exact ⟨.ptr o (0+i) 0,by rw [c6s,if_pos ⟨by omega,by omega⟩,d0K],by rw [a6h,a0I ho,Nat.zero_add,h];rfl⟩
theorem c3u {g:Hp} {n0:Nat} {rows:List (List D)} {y:D} (hy:LtO g n0 ty3 1 rows y):a0y tab a4d y=some (.int .i64 rows.length):=by
 rcases hy with rfl | hy
 ·exact c6C _ _ _
 ·exact c3r hy
theorem b7s {g:Hp} {n0:Nat} {rows:List (List D)} {y:D} (hy:LtO g n0 a0m 3 rows y) {i:Nat} {n:Int} {dm dq:D} (h:rows[i]?=some (svr n dm dq)):∃ p,a0b tab a4c y (.int .i64 i)=some p∧a0d tab g a0m p=some (.agg (svr n dm dq)):=by
 have hlt:=(d0R.1 h).1
 rcases hy with rfl | ⟨rfl,hr⟩ | ⟨o,_,rfl,ho⟩
 ·exact ⟨.fptr (svr n dm dq),by rw [c3b,if_pos (by omega),d0K,h];rfl,svl n dm dq g⟩
 ·rw [hr] at h;cases h
 ·exact ⟨.ptr o (0+i) 0,by rw [b9Y,if_pos ⟨by omega,by omega⟩,d0K],by rw [a5C,a0I ho,Nat.zero_add,h];rfl⟩
def RowsS (all:List SvD) (rows:List (List D)):Prop:=rows.length=all.length∧∀ (k:Nat) (s:SvD),all[k]?=some s→∃ dm dq,rows[k]?=some (svr s.1 dm dq)∧SlOf 2 mkr s.2.1 dm∧SlOf 11 itr s.2.2 dq
theorem RowsS.snoc {all:List SvD} {rows:List (List D)} (h:RowsS all rows) {s:SvD} {dm dq:D} (hm:SlOf 2 mkr s.2.1 dm) (hq:SlOf 11 itr s.2.2 dq):RowsS (all++[s]) (rows++[svr s.1 dm dq]):=by
 obtain ⟨h1,h2⟩:=h
 refine ⟨by simp [-bind_some, h1],fun k t ht=>?_⟩
 by_cases hk:k<all.length
 ·rw [d1a hk] at ht
  rw [d1a (by omega)]
  exact h2 k t ht
 ·have hk2:=(d0R.1 ht).1
  simp only [d0G,d0S,d0T] at hk2
  have hk3:k=all.length:=by omega
  subst hk3
  rw [List.getElem?_append_right (Nat.le_refl _)] at ht
  simp at ht
  subst ht
  refine ⟨dm,dq,?_,hm,hq⟩
  rw [← h1,List.getElem?_append_right (Nat.le_refl _)]
  simp [-bind_some]
theorem a7p:∀ (ss:List SvD) (a:Int) (s:SvD),a4C a (ss++[s])=a4C a ss++[a+(a0B (ss++[s])).length]
 | [],a,s=>by simp [-bind_some, a4C,a0B]
 | t::r,a,s=>by
  simp only [List.cons_append,a4C,a7p r _ s,a2Q,d0G]
  congr 2
  simp [-bind_some];omega
def a5T (ss:List SvD):List Int:=0::a4C 0 ss
theorem a8V (ss:List SvD) (k:Nat) (hk:k≤ss.length):(a5T ss)[k]?=some ((a0B (ss.take k)).length:Int):=by
 cases k with
 | zero=>simp [-bind_some, a5T,a0B]
 | succ k =>
  have:=a4Z ss 0 k (by omega)
  simp only [a5T,d0F,this]
  simp [-bind_some]
theorem c2B {ss:List SvD} (hs:∀ s∈ss,OkS s) {k c:Nat} (hk:k≤ss.length) (h1:(a0B (ss.take k)).length≤c) (h2:∀ j,j≤ss.length→(a0B (ss.take j)).length≤c→j≤k):∃ r,(a0B ss).take c=a0B (ss.take k)++r∧(a2P r).1≠0∧∀ z∈r,U8 z:=by
 have hsp:a0B ss=a0B (ss.take k)++a0B (ss.drop k):=by rw [← a3M,List.take_append_drop]
 refine ⟨(a0B (ss.drop k)).take (c - (a0B (ss.take k)).length),?_,?_,fun z hz=>a8g _ z (List.mem_of_mem_take hz)⟩
 ·conv=>lhs;rw [hsp]
  rw [List.take_append,List.take_of_length_le h1]
 ·by_cases hke:k=ss.length
  ·rw [hke,List.drop_length]
   show (a2P (List.take _ [])).1≠0
   rw [List.take_nil,a7Z]
   decide
  ·have hlt:k<ss.length:=by omega
   have hd:ss.drop k=ss[k]::ss.drop (k+1):=List.drop_eq_getElem_cons hlt
   have hok:OkS ss[k]:=hs _ (List.getElem_mem hlt)
   have ht:ss.take (k+1)=ss.take k++[ss[k]]:=by rw [d0N,d0Q hlt];rfl
   have h3:¬ (a0B (ss.take (k+1))).length≤c:=fun hh=>by have:=h2 (k+1) (by omega) hh;omega
   rw [ht,a3M] at h3
   generalize ss[k]=s at *
   have h4:(a0B [s]).length=(a2O s).length:=by simp [-bind_some, a0B]
   rw [d0G,h4] at h3
   rw [hd,a2Q,List.take_append_of_le_length (by omega),b6W hok.b (by omega)]
   decide
theorem b2J {ss:List SvD} {k:Nat} (hk:k≤ss.length):(((0,[],[]):SvD)::ss)[k]?=some (a2a (ss.take k)):=by
 cases k with
 | zero=>simp [-bind_some, a2a]
 | succ k =>
  have hlt:k<ss.length:=by omega
  have ht:ss.take (k+1)=ss.take k++[ss[k]]:=by rw [d0N,d0Q hlt];rfl
  rw [d0F,ht,d0Q hlt]
  unfold a2a
  rw [List.getLast?_concat]
  rfl
theorem b2I {ss:List SvD} {K:Nat} (hK:1≤K):a2a (ss.drop (ss.length - K))=a2a ss:=by
 cases ss with
 | nil=>rw [List.drop_nil]
 | cons s t =>
  unfold a2a
  rw [List.getLast?_drop,if_neg (by simp;omega)]
structure DkP (g0 g:Hp) (ss:List SvD) (rows:List (List D)) (d x y:D):Prop where
 s:Sm g0 0 g
 ok:∀ s∈ss,OkS s
 d:SlOf 1 byr (a0B ss) d
 dl:(a0B ss).length≤61000*ss.length
 x:LtO g 1 a0m 3 rows x
 y:LtO g 1 ty3 1 ((a5T ss).map rkr) y
 r:RowsS ((0,[],[])::ss) rows
theorem c0e (zs:List Int) (d:D) (cut keep:Int) (hd:a4R .u8 zs d) (hz:∀ z∈zs,0≤z∧z<256) (hzl:zs.length≤9223372036854775807) (hc0:0≤cut) (hc1:cut<65536) (hk0:0≤keep) (hk1:keep<256):∃ h',R1 b1J [d,.int .u16 cut,.int .u8 keep] []=some (.bool true,h'):=by
 suffices Wp (R1 b1J [d,.int .u16 cut,.int .u8 keep] []) (fun p=>p.1 = .bool true) by
  obtain ⟨⟨x,h'⟩,h1,rfl⟩:=this
  exact ⟨h',h1⟩
 have b0:a0D tab a0m [] []=some (.agg (svr 0 .nils .nils)):=id rfl
 have b1:a0H tab a4c 1 [0] [.agg (svr 0 .nils .nils)]=some (.sl 3 true [svr 0 .nils .nils]):=id rfl
 have b2:a0H tab a4d 1 [0] [.int .i64 0]=some (.sl 1 true [rkr 0]):=id rfl
 obtain ⟨g0,e0,c0,l0,_⟩:=m10 zs d 240 [] hd (by omega) (by omega) hz hzl
 have l0:g0.length=1:=l0
 have e0:R c1g [d,.int .i64 240] []=some (.ptr 0 0 0,g0):=e0
 have S0:=Sm.refl c0
 obtain ⟨v,g1,e1,c1,s1,v0,v1⟩:=m39 c0 4 (by omega) (by omega)
 have e1:R a5B [.ptr 0 0 0,.int .i64 4] g0=some (.int .i64 v,g1):=e1
 have S1:Sm g0 0 g1:=S0.next c1 s1
 have hw1:IntKind.wrap .i64 (1+v)=((1+v).toNat:Int):=by rw [wrap_i64 (by omega) (by omega)];omega
 rw [c5I]
 simp only [c1U,c7d,bs,a1D,d0L,a0c,d0C,if_false,c6N,e0,b0,b1,b2,c6O,e1,a0r,hw1,d0B]
 obtain ⟨N,hN⟩:∃ N,N=(1+v).toNat:=⟨_,rfl⟩
 have hN4:N≤4:=by omega
 rw [← hN]
 refine Wp.loop (fun r ds g=>∃ ss rows d x y a5 a6 a7 a8 a9,ds=[.bool false,d,x,y,.int .i64 (r:Nat),a5,a6,a7,a8,a9]∧r+ss.length=N∧DkP g0 g ss rows d x y)
  (fun q=>q.1 = .ext 0∧∃ ss rows d x y,nth 1 q.2.1=d∧nth 2 q.2.1=x∧nth 3 q.2.1=y∧ss.length=N∧DkP g0 q.2.2 ss rows d x y) N ⟨[],[svr 0 .nils .nils],.nils,_,_,_,_,_,_,_,rfl,by simp,S1,fun s hs=>by simp at hs,.nils _ _,by simp [-bind_some, a0B],.inl rfl,.inl rfl,rfl,fun k s hk=>?_⟩ ?_ ?_
 ·cases k with
  | zero =>
   injection hk with hk
   subst hk
   exact ⟨.nils,.nils,rfl,.nils _ _,.nils _ _⟩
  | succ k=>simp at hk
 ·rintro r ds g ⟨ss,rows,d,x,y,a5,a6,a7,a8,a9,rfl,hr,P⟩
  by_cases h0:r=0
  ·subst h0
   simp only [a7P,a0f,a0j,bs,d0B,a0v,show decide (((0:Nat):Int)>0)=false by decide,a0c,d0C,if_false]
   exact .some (.inr ⟨by simp,rfl,ss,rows,d,x,y,rfl,rfl,rfl,by omega,P⟩)
  ·have hgt:decide ((r:Int)>0)=true:=decide_eq_true (by omega)
   obtain ⟨n,ms,its,dm,dq,g2,e2,hm,hq,n0,n1,ha,hok,hil,c2,s2⟩:=c6F P.s.cd
   have S2:Sm g0 0 g2:=P.s.next c2 s2
   obtain ⟨ok,hle⟩:=a8e n0 n1 ha hok hil
   have hdl:=P.dl
   have hssl:ss.length≤3:=by omega
   have hmul:61000*ss.length≤61000*3:=Nat.mul_le_mul_left _ hssl
   obtain ⟨d2,e3,o3⟩:=a8z ok (by omega) g2 P.d (by omega) hm hq
   have e3:R1 a5g [d,.agg (svr n dm dq)] g2=some (.tup [d2,.int .i64 0],g2):=e3
   have hfl:a0B (ss++[(n,ms,its)])=a0B ss++a2O (n,ms,its):=by simp [-bind_some, a0B]
   rw [← hfl] at o3
   have hel:=b1t (n,ms,its)
   have hlen2:(a0B (ss++[(n,ms,its)])).length=(a0B ss).length+(a2O (n,ms,its)).length:=by rw [hfl,d0G]
   have bx:a5x 3 (.agg (svr n dm dq))=some (.fptr (svr n dm dq)):=a2E 3 _ rfl
   have hlq:decide (((a0B (ss++[(n,ms,its)])).length:Int)≤((a0B ss).length:Int))=false:=decide_eq_false (by omega)
   have b3:a0H tab a4c 1 [0] [.agg (svr n dm dq)]=some (.sl 3 true [svr n dm dq]):=id rfl
   have hr1:IntKind.wrap .i64 ((r:Int) - 1)=((r - 1:Nat):Int):=by rw [wrap_i64 (by omega) (by omega)];omega
   have e2:R a6H [.ptr 0 0 0] g=some (.agg (svr n dm dq),g2):=e2
   simp only [a7P,a0f,a0j,bs,d0B,a0v,hgt,a0c,if_true,c0v,e2,bx,svl,e3,a1G,d0E,d0F,a0x,show decide ((0:Int)≠0)=false by decide,a0s,a1H o3,a1H P.d,a3v,hlq,a0g,d0C,if_false,b3]
   have hl2:g2.length=g.length:=s2.1
   have hlt0:1≤g.length:=by have:=P.s.le;omega
   have hx2:=P.x.keep (g':=g2) fun q hq _=>s2.2 q (by omega)
   have hy2:=P.y.keep (g':=g2) fun q hq _=>s2.2 q (by omega)
   have hrl:=P.r.1
   have hel2:(a5T ss).length=ss.length+1:=by simp [-bind_some, a5T,a5a]
   refine c7V (t:=a4c) (i:=b6m) (j:=ti1197) (id rfl) (id rfl) (id rfl) (by decide) (by omega) hx2 (a1e _ _ _ [svr n dm dq]) (a3Q (by simp only [d0S,d0T,hrl];show _*56≤_;omega) (by simp only [d0S,d0T,hrl];omega)) (by simp) fun x4 g4 o4 l4 k4 k4'=>?_
   have S4:=S2.app l4 fun q hq=>k4 q (by omega)
   have hy4:LtO g4 1 ty3 1 ((a5T ss).map rkr) y:=by
    rcases hy2 with w | w
    ·exact .inl w
    ·refine .inr (w.keep fun q hq hin=>k4' q (w.lt hin).2 fun hx=>?_)
     rcases hx2 with rfl | w2
     ·obtain ⟨_,_,hh⟩:=hx;cases hh
     ·have h1:=a1o w hin
      rw [a1o w2 hx] at h1
      injection h1 with h1
      injection h1 with h1
      exact absurd h1 (by decide)
   simp only [bs,b8h]
   refine c7V (t:=a4d) (i:=c4F) (j:=ti3) (id rfl) (id rfl) (id rfl) (by decide) (by omega) hy4 (a1e _ _ _ [rkr ((a0B (ss++[(n,ms,its)])).length:Int)]) (a3Q (by simp only [d0S,d0T,d0H,hel2];show _*8≤_;omega) (by simp only [d0S,d0T,d0H,hel2];omega)) (by simp) fun y5 g5 o5 l5 k5 k5'=>?_
   have S5:=S4.app l5 fun q hq=>k5 q (by omega)
   have o45:Own g5 1 a0m 3 (rows++[svr n dm dq]) x4:=o4.keep fun q hq hin=>k5' q (o4.lt hin).2 fun hx=>by
    rcases hy4 with rfl | w2
    ·obtain ⟨_,_,hh⟩:=hx;cases hh
    ·have h1:=a1o o4 hin
     rw [a1o w2 hx] at h1
     injection h1 with h1
     injection h1 with h1
     exact absurd h1 (by decide)
   simp only [bs,a0z,hr1]
   have hea:(a5T ss).map rkr++[rkr ((a0B (ss++[(n,ms,its)])).length:Int)]=(a5T (ss++[(n,ms,its)])).map rkr:=by
    unfold a5T
    rw [a7p]
    simp [-bind_some]
   rw [hea] at o5
   refine .some (.inl ⟨rfl,r - 1,by omega,ss++[(n,ms,its)],rows++[svr n dm dq],d2,x4,y5,_,_,_,_,_,rfl,by simp;omega,S5,fun s hs=>?_,o3,by simp only [d0G,d0S,d0T,hlen2];omega,.inr o45,.inr o5,?_⟩)
   ·rcases d0X.1 hs with hs | hs
    ·exact P.ok s hs
    ·simp at hs;subst hs;exact ok
   ·exact P.r.snoc (s:=(n,ms,its)) hm hq
 ·rintro ⟨ex,ds,g⟩ ⟨rfl,ss,rows,d,x,y,hd',hx',hy',hN',P⟩
  simp only at hd' hx' hy' P
  have hdl:=P.dl
  have hmul:61000*ss.length≤61000*4:=Nat.mul_le_mul_left _ (by omega)
  have hel2:(a5T ss).length=ss.length+1:=by simp [-bind_some, a5T,a5a]
  have w1:IntKind.wrap .i64 cut=cut:=wrap_i64 (by omega) (by omega)
  have w2:IntKind.wrap .i64 (((a0B ss).length:Int)+1)=((a0B ss).length+1:Nat):=by rw [wrap_i64 (by omega) (by omega)];omega
  have w3:cut.tmod ((a0B ss).length+1:Nat)=((cut.toNat % ((a0B ss).length+1):Nat):Int):=by
   obtain ⟨c,rfl⟩:∃ c:Nat,cut=c:=⟨cut.toNat,by omega⟩
   rfl
  obtain ⟨at_,hat⟩:∃ a,a=cut.toNat % ((a0B ss).length+1):=⟨_,rfl⟩
  have hatl:at_≤(a0B ss).length:=by
   have:at_<(a0B ss).length+1:=by rw [hat];exact Nat.mod_lt _ (by omega)
   omega
  rw [← hat] at w3
  have ne0:¬ (((a0B ss).length+1:Nat):Int)=0:=by omega
  have hyl:a0y tab a4d y=some (.int .i64 (ss.length+1:Nat)):=by rw [c3u P.y];simp [-bind_some, hel2]
  simp only [a0p,a0n,bs,a0f,a0j,hd',hx',hy',b6S,w1,a1H P.d,a0r,w2,a3w,ne0,if_false,w3,hyl,d0B]
  refine Wp.loop (fun r ds g'=>g'=g∧∃ k a3 a4 a5,∃ i:Nat,ds=[.int .i64 (k:Nat),a3,.int .i64 i,a4,a5]∧r+i=ss.length+1∧k≤ss.length∧(a0B (ss.take k)).length≤at_∧∀ j,j<i→(a0B (ss.take j)).length≤at_→j≤k)
   (fun q=>q.1 = .ext 2∧q.2.2=g∧∃ k:Nat,nth 0 q.2.1 = .int .i64 k∧k≤ss.length∧(a0B (ss.take k)).length≤at_∧∀ j,j≤ss.length→(a0B (ss.take j)).length≤at_→j≤k) (ss.length+1) ⟨rfl,0,_,_,_,0,rfl,rfl,by omega,by simp [-bind_some, a0B],fun j hj=>by omega⟩ ?_ ?_
  ·rintro r ds g' ⟨rfl,k,a3,a4,a5,i,rfl,hi,hk,hke,hj⟩
   simp only [b0T,a0f,a0j,bs,d0B,a0o]
   by_cases h0:i<ss.length+1
   ·have h0':decide ((i:Int)<((ss.length+1:Nat):Int))=true:=decide_eq_true (by omega)
    have hge:=a8V ss i (by omega)
    obtain ⟨p,ep,lp⟩:=b8A P.y (i:=i) (e:=((a0B (ss.take i)).length:Int)) (by rw [d0O,hge];rfl)
    have hw:=wi_ i (by omega)
    simp only [h0',a0c,if_true,hy',ep,bs,lp,a3v]
    by_cases hle:(a0B (ss.take i)).length≤at_
    ·have hle':decide (((a0B (ss.take i)).length:Int)≤(at_:Int))=true:=decide_eq_true (by omega)
     simp only [hle',a0c,if_true,bs,a0n,a1A,a0f,a0r,hw]
     exact .some (.inl ⟨rfl,r - 1,by omega,rfl,i,_,_,_,i+1,rfl,by omega,by omega,hle,fun j hj' _=>by omega⟩)
    ·have hle':decide (((a0B (ss.take i)).length:Int)≤(at_:Int))=false:=decide_eq_false (by omega)
     simp only [hle',a0c,d0C,if_false,bs,a0n,a1A,a0f,a0r,hw]
     refine .some (.inl ⟨rfl,r - 1,by omega,rfl,k,_,_,_,i+1,rfl,by omega,hk,hke,fun j hj' hh=>?_⟩)
     by_cases hji:j=i
     ·subst hji;exact absurd hh hle
     ·exact hj j (by omega) hh
   ·have h0':decide ((i:Int)<((ss.length+1:Nat):Int))=false:=decide_eq_false (by omega)
    simp only [h0',a0c,d0C,if_false]
    exact .some (.inr ⟨by simp,rfl,rfl,k,rfl,hk,hke,fun j hj'=>hj j (by omega)⟩)
  ·rintro ⟨ex,ds2,g'⟩ ⟨rfl,rfl,k,hk',hk,hke,hj⟩
   simp only at hk'
   obtain ⟨r,er,hr,hru⟩:=c2B P.ok hk hke hj
   obtain ⟨t85,e85,o85⟩:=b0H P.d (k := .i64) (n:=(at_:Int)) (by omega) (by omega)
   rw [d0K] at o85
   have okk:∀ s∈ss.take k,OkS s:=fun s hs=>P.ok s (List.mem_of_mem_take hs)
   have hll:((a0B ss).take at_).length≤1000000000:=by rw [d0V];omega
   obtain ⟨dm,dq,its,e86,om,oq,oe⟩:=a8q okk hr er hru hll o85 g'
   obtain ⟨p92,e92,l92⟩:=b8A P.y (i:=k) (e:=((a0B (ss.take k)).length:Int)) (by rw [d0O,a8V ss k hk];rfl)
   obtain ⟨xm,xq,hrow,xom,xoq⟩:=P.r.2 k _ (b2J hk)
   obtain ⟨p99,e99,l99⟩:=b7s P.x hrow
   have bx:a5x 3 (.agg (svr (a2a (ss.take k)).1 dm dq))=some (.fptr (svr (a2a (ss.take k)).1 dm dq)):=a2E 3 _ rfl
   have hlast:OkS (a2a (ss.take k))∨a2a (ss.take k)=(0,[],[]):=by
    unfold a2a
    cases hg:(ss.take k).getLast? with
    | none=>exact .inr rfl
    | some s=>exact .inl (okk s (List.mem_of_getLast? hg))
   have hlm:(a2a (ss.take k)).2.1.length≤1000∧(a2a (ss.take k)).2.2.length≤1000:=by
    rcases hlast with w | w
    ·exact w.le
    ·rw [w];simp [-bind_some]
   have hits:its.length=(a2a (ss.take k)).2.2.length:=by have:=congrArg List.length oe;simpa using this
   have esame:=c3V (a2a (ss.take k)).1 (a2a (ss.take k)).2.1 its (a2a (ss.take k)).2.2 dm xm dq xq g' om xom oq xoq oe (by omega) (by omega)
   have w5:IntKind.wrap .i64 keep=keep:=wrap_i64 (by omega) (by omega)
   obtain ⟨K,hK⟩:∃ K:Nat,(K:Int)=1+keep.tmod 4:=by
    obtain ⟨c,rfl⟩:∃ c:Nat,keep=c:=⟨keep.toNat,by omega⟩
    exact ⟨1+c % 4,by show ((1+c % 4:Nat):Int)=1+((c % 4:Nat):Int);omega⟩
   have hK1:1≤K∧K≤4:=by
    have:keep.tmod 4=keep % 4:=Int.tmod_eq_emod_of_nonneg hk0
    omega
   have w6:IntKind.wrap .i64 (1+keep.tmod 4)=(K:Int):=by rw [hK];exact wrap_i64 (by omega) (by omega)
   obtain ⟨dt,e112,o112⟩:=c7f okk hr er hru hll o85 K hK1.1 (by omega) g'
   have okd:∀ s∈(ss.take k).drop ((ss.take k).length - K),OkS s:=fun s hs=>okk s (List.mem_of_mem_drop hs)
   have hll2:(a0B ((ss.take k).drop ((ss.take k).length - K))).length≤1000000000:=by
    have h1:a0B ss=a0B (ss.take k)++a0B (ss.drop k):=by rw [← a3M,List.take_append_drop]
    have h2:a0B (ss.take k)=a0B ((ss.take k).take ((ss.take k).length - K))++a0B ((ss.take k).drop ((ss.take k).length - K)):=by rw [← a3M,List.take_append_drop]
    have h3:=congrArg List.length h1
    have h4:=congrArg List.length h2
    rw [d0G] at h3 h4
    omega
   obtain ⟨dm2,dq2,its2,e113,om2,oq2,oe2⟩:=a8q okd (r:=[]) (by rw [a7Z];decide) (List.append_nil _).symm (by simp) hll2 o112 g'
   rw [b2I hK1.1] at e113 om2 oe2
   have bxB:a5x 3 (.agg (svr (a2a (ss.take k)).1 dm2 dq2))=some (.fptr (svr (a2a (ss.take k)).1 dm2 dq2)):=a2E 3 _ rfl
   have hits2:its2.length=(a2a (ss.take k)).2.2.length:=by have:=congrArg List.length oe2;simpa using this
   have esame2:=c3V (a2a (ss.take k)).1 (a2a (ss.take k)).2.1 its2 its dm2 dm dq2 dq g' om2 om oq2 oq (oe2.trans oe.symm) (by omega) (by omega)
   simp only [a0p,a0n,bs,a0f,a0j,hk',e85,e86,a1G,d0E,d0F,bx,hy',e92,l92,a0x,ne_eq,not_true,decide_false,a0s,a0Y,if_true,svl,hx',e99,l99,c0x,esame,a1D,d0L,a0g,d0C,if_false,a0c,c2D,w5,a3w,show ¬ (4:Int)=0 by omega,a0r,w6,e112,e113,bxB,esame2,a0h]
   rw [a1y (d' := .bool true) rfl (.bool _) (Nat.zero_le _) (fun q hq=>absurd hq (Nat.not_lt_zero _))]
   exact .some rfl
theorem b7r (zs:List Int) (d:D) (cut keep:Int) (hd:a4R .u8 zs d) (hz:∀ z∈zs,0≤z∧z<256) (hzl:zs.length≤9223372036854775807) (hc:(Lit.int .u16 cut).wf=true) (hk:(Lit.int .u8 keep).wf=true):∃ h',R1 b1J [d,.int .u16 cut,.int .u8 keep] []=some (.bool true,h'):=by
 have h1:0≤cut∧cut<65536:=by
  simp only [Lit.wf,Bool.and_eq_true,decide_eq_true_eq] at hc
  have h1:IntKind.min .u16=0:=rfl
  have h2:IntKind.max .u16=65535:=rfl
  omega
 have h2:0≤keep∧keep<256:=by
  simp only [Lit.wf,Bool.and_eq_true,decide_eq_true_eq] at hk
  have h1:IntKind.min .u8=0:=rfl
  have h2:IntKind.max .u8=255:=rfl
  omega
 exact c0e zs d cut keep hd hz hzl h1.1 h1.2 h2.1 h2.2
end Go.Proofs.YtjmndhbabkjebaaDoor

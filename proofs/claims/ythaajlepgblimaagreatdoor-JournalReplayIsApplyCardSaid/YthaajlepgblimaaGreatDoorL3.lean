/- Laws, on plain data, about functions that the statement reaches. -/
import Derived.Test.YthaajlepgblimaaGreatDoorL2
set_option linter.unusedSimpArgs false
set_option linter.unusedVariables false
set_option linter.unnecessarySimpa false
set_option maxRecDepth 100000
namespace Go.Proofs.YthaajlepgblimaaGreatDoor
open Go.Eng Go.Pi
open Option (bind_some)
theorem b6o {h g:Hp} {host:Int} {ps:List (List It × D)}:∀ (bt:List (List It × D × Int)),(∀ p∈bt,Own g h.length a0z 11 (p.1.map itr) p.2.1∧p.1.length≤3∧(∀ i∈p.1,b9Q host ps i)∧0≤p.2.2∧p.2.2≤12) →
  ∃ l:List Bat,l.map a3H=(bt.map (b9R host)).map (fun row=>row.map (frz h.length g 3))∧l.length=bt.length∧∀ b∈l,BatOK host b∧∀ i∈b.its,(i.e.a1,i.e.a3)∈c3V ps
 | [],_=>⟨[],rfl,rfl,by simp⟩
 | p::r,hp=>by
  obtain ⟨l,h1,h2,h3⟩:=b6o r fun q hq=>hp q (by simp [-bind_some, hq])
  obtain ⟨ow,hl,hi,hu0,hu9⟩:=hp p (by simp)
  have hsl:=a1R (n0:=h.length) (n:=2) ow (Nat.le_refl _) (fun a _=>a9V _ g 1 a)
  refine ⟨⟨host,p.2.2,p.1,_,hsl⟩::l,?_,by simp [-bind_some, h2],fun b hb=>?_⟩
  ·simp only [e0p,h1]
   simp [-bind_some, a3H,b9R]
  ·rcases e0D.1 hb with rfl | hb
   ·exact ⟨⟨rfl,hl,fun i hx=>(hi i hx).1,hu0,hu9⟩,fun i hx=>(hi i hx).2⟩
   ·exact h3 b hb
theorem d9D (g:Hp) (n:Nat) (hn:n≤100):a9A tab g a6X (.int .i64 n) (.int .i64 n)=some (.msl 1 g.length 0 n,a0C g ty3 1 ((List.replicate n 0).map atR)):=by
 have h1:tab a6X=some ti82:=id rfl
 have h2:ti82.td = .sl ty3:=id rfl
 have h3:tab ty3=some ti3:=id rfl
 have h4:ti3.sz=1:=id rfl
 have h5:ti3.zero=atR 0:=id rfl
 have h6:lim n ti3.by_=true:=a2n (by have:ti3.by_=8:=rfl;rw [this];omega) (by omega)
 have h7:(0:Int)≤(n:Int):=by omega
 simp [-bind_some, a9A,h1,h2,h3,h4,h5,h6]
theorem c7M {h:Hp} {o:Nat} (hc:CD h o) (host most:Int) (h0:0≤host) (h9:host≤999) (hm0:0≤most) (hm1:most≤100):∃ x h',R b4q [.ptr o 0 0,.int .i64 host,.int .i64 most] h=some (x,h')∧CD h' o∧Same o h h'∧∃ l:List Bat,SlOf 3 a3H l x∧1≤l.length∧l.length≤24∧(∀ b∈l,BatOK host b)∧∃ S:List (Int × Int),(S.length:Int)≤3*most∧∀ b∈l,∀ i∈b.its,(i.e.a1,i.e.a3)∈S:=by
 suffices Wp (R b4q [.ptr o 0 0,.int .i64 host,.int .i64 most] h) (fun p=>CD p.2 o∧Same o h p.2∧∃ l:List Bat,SlOf 3 a3H l p.1∧1≤l.length∧l.length≤24∧(∀ b∈l,BatOK host b)∧∃ S:List (Int × Int),(S.length:Int)≤3*most∧∀ b∈l,∀ i∈b.its,(i.e.a1,i.e.a3)∈S) by
  obtain ⟨⟨x,h'⟩,h1,h2⟩:=this
  exact ⟨x,h',h1,h2⟩
 have ho:=hc.lt
 rw [d1W]
 simp only [c6B,bs,e0h]
 obtain ⟨dps,g0,e0,c0,s0,ps,hps,hn3,hn1,hf⟩:=d7C hc host most hm0 hm1
 refine Wp.step e0 ?_
 simp only [b8n hps,d9D g0 ps.length (by omega),bs]
 have hg0:g0.length=h.length:=s0.1
 have B0:BtI h o host ps g0.length (a0C g0 ty3 1 ((List.replicate ps.length 0).map atR)) .nils [] (List.replicate ps.length 0):=by
  refine ⟨by simp [-bind_some, a0C];omega,fun q hq hn=>?_,c0.keep (a0H _ _ _ _ (by omega)),by omega,a0Z _ _ _ _,by simp,fun f n p hn hp=>?_,Own.nils _ _ _ _,by simp⟩
  ·rw [a0H _ _ _ _ (by omega)];exact s0.2 q hn
  ·have:=e0w hn
   simp at this
   omega
 generalize hqa:g0.length=qa at B0
 generalize a0C g0 ty3 1 ((List.replicate ps.length 0).map atR)=g1 at B0
 generalize List.replicate ps.length 0=ats0 at B0
 refine Wp.loop (fun k ds g=>∃ x a2 a3 a4 a5 a6 a7 a8 a9 b1 b2 b3 b4 b5 bt ats,∃ n:Nat,ds=[x,.int .i64 n,a2,a3,a4,a5,a6,a7,a8,a9,b1,b2,b3,b4,b5]∧k+n=12∧BtI h o host ps qa g x bt ats∧bt.length≤2*n∧n≤bt.length)
  (fun r=>∃ x a1 a2 a3 a4 a5 a6 a7 a8 a9 b1 b2 b3 b4 b5 bt ats,r.1 = .ext 0∧r.2.1=[x,a1,a2,a3,a4,a5,a6,a7,a8,a9,b1,b2,b3,b4,b5]∧BtI h o host ps qa r.2.2 x bt ats∧1≤bt.length∧bt.length≤24) 12
  ⟨_,_,_,_,_,_,_,_,_,_,_,_,_,_,[],ats0,0,rfl,rfl,B0,by simp,by simp⟩ ?_ ?_
 ·rintro k ds g ⟨x,a2,a3,a4,a5,a6,a7,a8,a9,b1,b2,b3,b4,b5,bt,ats,n,rfl,hk,B,hbl,hbn⟩
  simp only [b3h,a0e,a0m,bs,e0h,a0o]
  refine Wp.dif ?_ ?_
  ·intro hlt
   have hlt:n<12:=dl_ hlt
   have hwn:=wi_ n (by omega)
   simp only [a8v,bs]
   have hgl:=B.len
   have hold:∀ q,q<g.length→(a0C g a0u 3 [[.int .i64 0,.int .i64 0,.nils]])[q]?=g[q]?:=fun q hq=>a0H _ _ _ _ hq
   have hzz:(a0C g a0u 3 [[.int .i64 0,.int .i64 0,.nils]])[g.length]?=some (.row a0u 3 [[.int .i64 0,.int .i64 0,.nils]]):=a0Z _ _ _ _
   have hzl:(a0C g a0u 3 [[.int .i64 0,.int .i64 0,.nils]]).length=g.length+1:=by simp [-bind_some, a0C]
   generalize hp11:((D.ptr g.length 0 0,a0C g a0u 3 [[.int .i64 0,.int .i64 0,.nils]]):D × Hp)=p11
   have hp1:p11.1 = .ptr g.length 0 0:=by rw [← hp11]
   generalize a0C g a0u 3 [[.int .i64 0,.int .i64 0,.nils]]=g2 at hold hzz hzl
   have qal:=(e0y.1 B.at_).1
   have L:BtL h o qa g.length x bt:=⟨hgl,ho,qal,fun q hq=>(B.out.lt hq).2,fun p hp q hq=>((B.its p hp).1.lt hq).2⟩
   refine b2S hzz (by rfl) (by rfl) (by simp) (by rfl) fun g3 q3 s3=>?_
   replace q3:g3[g.length]?=some (.row a0u 3 [[.int .i64 host,.int .i64 n,.nils]]):=q3
   have B3:=B.keep L (B.cd.keep ((s3.2 o (by omega)).trans (hold o (by omega)))) (by rw [s3.1];omega) (fun q hq _=>(s3.2 q (by omega)).trans (hold q hq))
   have bn:BnI h o host ps qa x bt g.length n g3 ats [] .nils:=⟨B3,by rw [s3.1];omega,q3,Own.nils _ _ _ _,by simp⟩
   try simp only [bs]
   obtain ⟨v,g4,e4,c4,s4,v0,v1⟩:=a2h bn.B.cd 3 (by omega) (by omega)
   refine Wp.step e4 ?_
   have bn4:=bn.next L c4 s4
   obtain ⟨m,rfl⟩:=Int.eq_ofNat_of_zero_le v0
   have hw1:IntKind.wrap .i64 (1+(m:Int))=((m+1:Nat):Int):=by
    rw [wrap_i64 (by omega) (by omega)];omega
   simp only [a0r,hw1,bs,e0h]
   refine Wp.loop (fun k ds g'=>∃ c1 c2 c3 c4 c5 c6 c7 c8 c9 ats its y,ds=[.int .i64 (k:Nat),c1,c2,c3,c4,c5,c6,c7,c8,c9]∧k≤3∧its.length+k≤3∧BnI h o host ps qa x bt g.length n g' ats its y)
    (fun r=>∃ c0 c1 c2 c3 c4 c5 c6 c7 c8 c9 ats its y,r.1 = .ext 2∧r.2.1=[c0,c1,c2,c3,c4,c5,c6,c7,c8,c9]∧its.length≤3∧BnI h o host ps qa x bt g.length n r.2.2 ats its y) (m+1)
    ⟨_,_,_,_,_,_,_,_,_,ats,[],.nils,rfl,by omega,by simp;omega,bn4⟩ ?_ ?_
   ·rintro k' ds g' ⟨c1,c2,c3,c4,c5,c6,c7,c8,c9,ats',its',y',rfl,hk3,hlk,bn'⟩
    rcases Nat.eq_zero_or_pos k' with rfl | hpos
    ·simp only [a7e,a0e,a0m,bs,a0x]
     exact .some (.inr ⟨by simp,_,_,_,_,_,_,_,_,_,_,ats',its',y',rfl,rfl,by omega,bn'⟩)
    ·refine (d0L L hps hf hn1 hn3 hm1 h0 h9 bn' (by omega) p11 hp1 k' hpos (by omega) _ _ _ _ _ _ _ _ _).mono ?_
     rintro _ ⟨g'',ats'',its'',y'',d1,d2,d3,d4,d5,d6,d7,d8,d9,rfl,bn'',hl''⟩
     exact .inl ⟨rfl,k' - 1,by omega,d1,d2,d3,d4,d5,d6,d7,d8,d9,ats'',its'',y'',rfl,by omega,by omega,bn''⟩
   ·rintro ⟨ex,ds,g'⟩ ⟨c0',c1,c2,c3,c4,c5,c6,c7,c8,c9,ats',its',y',q1,q2,hl3,bn'⟩
    simp only at q1 q2 bn'
    subst q1;subst q2
    simp only [a0l,a0k,a0e,a0m,bs,e0h,hp1]
    have hld:a0c tab g' a0u (.ptr g.length 0 0)=some (.agg [.int .i64 host,.int .i64 n,y']):=by
     rw [a9X,a0F bn'.pr];rfl
    simp only [hld,bs,c0s]
    have hpb:=bn'.pg
    refine c1X bn'.B ho (by omega) (its',y',(n:Int)) ⟨bn'.ow.from (by omega),hl3,bn'.ok,by show (0:Int)≤(n:Int);omega,by show (n:Int)≤12;omega⟩ fun x1 g5 B5 fre5 len5=>?_
    try simp only [bs]
    obtain ⟨u,g6,e6,c6,s6,u0,u1⟩:=a2h B5.cd 4 (by omega) (by omega)
    refine Wp.step e6 ?_
    have B6:=B5.same ho c6 s6
    have hlen:(bt++[(its',y',(n:Int))]).length=bt.length+1:=by simp
    have hdec:decide ((0:Int)<((bt++[(its',y',(n:Int))]).length:Int))=true:=decide_eq_true (by rw [hlen];omega)
    generalize bt++[(its',y',(n:Int))]=bt1 at B5 B6 hlen hdec
    have hlo:=c1l B6.out
    rw [e0n] at hlo
    simp only [a0P,bs,a0v,hlo,a0x,hdec,e0h]
    have fin:∀ (q:Bool) (R1:Option D),(R1=some (.bool q))→True:=fun _ _ _=>trivial
    generalize hq3:decide (u=(3:Int))=b3
    have hpk:((if b3=true then some x1 else some D.und).bind fun t131=>(if b3=true then a0t tab a1V t131 else some .und).bind fun t132=>(if b3=true then a0i tab .gtr ty3 t132 (.int .i64 0) else some .und).bind fun t133=>a0R (.bool b3) t133 (.bool false))=some (.bool b3):=by
     cases b3
     ·simp [-bind_some]
     ·simp only [if_true,bs,hlo,a0x,hdec,a0g]
    cases b3
    ·simp only [e0i,if_false,bs,a0g,a0d,a0k,a1u,a0e,a0r,hwn]
     exact .some (.inl ⟨rfl,k - 1,by omega,x1,_,_,_,_,_,_,_,_,_,_,_,_,_,bt1,ats',n+1,rfl,by omega,B6,by omega,by omega⟩)
    ·simp only [if_true,bs,hlo,a0x,hdec,a0g,a0d,e0h]
     obtain ⟨w,g7,e7,c7,s7,w0,w1⟩:=a2h B6.cd bt1.length (by omega) (by omega)
     refine Wp.step e7 ?_
     have B7:=B6.same ho c7 s7
     obtain ⟨j,rfl⟩:=Int.eq_ofNat_of_zero_le w0
     have hj:j<bt1.length:=by omega
     obtain ⟨pj,hpj⟩:∃ p,bt1[j]?=some p:=⟨_,e0x hj⟩
     obtain ⟨ob,hob,rfl,hgo⟩:=a5m B7.out (i:=j) (by simpa using hj)
     have hjj:(0:Int)≤(j:Int)∧(j:Int)<(((bt1.map (b9R host)).length:Nat):Int):=by rw [e0n];omega
     have hr:(bt1.map (b9R host))[j]?=some (b9R host pj):=by rw [e0v,hpj];rfl
     have hld2:a0c tab g7 a0u (.ptr ob j 0)=some (.agg (b9R host pj)):=by
      rw [a9X,a0F hgo,hr];rfl
     have hbl2:a0W tab a1V 1 [0] [.agg (b9R host pj)]=some (.sl 3 true [b9R host pj]):=id rfl
     simp only [c4j,hjj,and_self,if_true,Nat.zero_add,e0r,bs,hld2,hbl2]
     refine c1X B7 ho (by omega) pj (B7.its pj (e0w hpj)) fun x2 g8 B8 fre8 len8=>?_
     simp only [bs,a0k,a1u,a0e,a0r,hwn]
     exact .some (.inl ⟨rfl,k - 1,by omega,x2,_,_,_,_,_,_,_,_,_,_,_,_,_,bt1++[pj],ats',n+1,rfl,by omega,B8,by simp;omega,by simp;omega⟩)
  ·intro hge
   have hge:n=12:=by
    have:¬ (n:Int)<12:=by simpa using hge
    omega
   exact .some (.inr ⟨by simp,x,_,_,_,_,_,_,_,_,_,_,_,_,_,_,bt,ats,rfl,rfl,B,by omega,by omega⟩)
 ·rintro ⟨ex,ds,g⟩ ⟨x,a1,a2,a3,a4,a5,a6,a7,a8,a9,b1,b2,b3,b4,b5,bt,ats,q1,q2,B,hl1,hl24⟩
  simp only at q1 q2 B
  subst q1;subst q2
  simp only [a0l,a0k,a0e,bs,a0j]
  obtain ⟨l,h1,h2,h3⟩:=b6o (g:=g) bt B.its
  have hsl:SlOf 3 a3H l (frz h.length g 4 x):=by
   rcases B.out with ⟨hx,hr⟩ | ⟨ob,hob,hx,hgo⟩
   ·have:bt=[]:=by simpa using hr
    subst this
    simp at hl1
   ·right
    refine ⟨false,?_⟩
    rw [hx,a9P hob hgo]
    simp only [List.drop_zero,e0G,h1]
  have S:St h o g:=⟨ho,B.cd,⟨B.len,B.gr⟩⟩
  obtain ⟨h',hs,hcd,hsm⟩:=S.scope rfl (a1b hsl fun a _=>c0e _ a)
  rw [hs]
  have hS:=b3R most ps fun p hp=>by
   obtain ⟨f,hf0⟩:=List.getElem?_of_mem hp
   exact (hf f p hf0).2.1
  have hS2:(ps.length:Int)*most≤3*most:=Int.mul_le_mul_of_nonneg_right (by omega) hm0
  exact .some ⟨hcd,hsm,l,hsl,by omega,by omega,fun b hb=>(h3 b hb).1,c3V ps,by omega,fun b hb=>(h3 b hb).2⟩
theorem b1z (to_ m:Int) (hm:36≤m) (ht:to_≤60000):∀ (ls:List Lin) (a:Int),0≤a→chain a ls to_→lnE to_ m a ls=0
 | [],a,_,_=>rfl
 | l::r,a,ha,h=>by
  obtain ⟨h1,h2,h3,h4,h5⟩:=h
  have hle:=a2C r _ _ h5
  have w1:IntKind.wrap .i64 (to_ - a)=to_ - a:=wrap_i64 (by omega) (by omega)
  have w2:IntKind.wrap .i64 (a+l.len)=a+l.len:=wrap_i64 (by omega) (by omega)
  unfold lnE
  rw [if_pos,if_neg (by omega),w2]
  ·exact b1z to_ m hm ht r _ (by omega) h5
  ·rw [w1]
   refine ⟨h1,by omega,by omega,fun hh=>?_⟩
   obtain ⟨hr,hlt⟩:=hh
   subst hr
   have h5:a+l.len=to_:=h5
   omega
theorem a7Y {e:Ev} (m:Int) (hm:36≤m) (h0:0≤e.a2) (ht:e.a3≤60000) (h1:1≤e.ls.length) (h40:e.ls.length≤40) (hc:chain e.a2 e.ls e.a3):a2y e m=0:=by
 have g0:¬ e.ls.length=0:=by omega
 have g1:¬ 40<e.ls.length:=by omega
 simp only [a2y,g0,g1,if_false]
 exact b1z _ _ hm ht _ _ h0 hc
theorem c1b {i:It} (h:(i.r=[]∧EvGood i.e)∨SkGood i):itE i=0:=by
 rcases h with ⟨hr,h⟩ | h
 ·have pl:=h.pl
  have hp:plB i.e=true:=by
   have:=pl.h0;have:=pl.h9;have:=pl.f0;have:=pl.f9;have:=pl.a0;have:=pl.ab;have:=pl.b9
   simp [-bind_some, plB]
   omega
  have ht:(decide (0≤i.e.a5)&&decide (i.e.a5≤253402300799999))=true:=by
   have:=h.t0;have:=h.t9
   simp [-bind_some];omega
  have hl:=a7Y 2000 (by omega) pl.a0 pl.b9 h.l1 h.l4 h.ch
  have w1:¬ i.e.a6<1:=by have:=h.w1;omega
  have htr:¬ 32<i.e.s7.length:=by have:=h.tr;omega
  have hst:¬ 32<i.e.s8.length:=by have:=h.st;omega
  have hs:a2O i.e.fs=(0,i.e.fs):=c0d h.fa h.f3 fun p hp=>(h.fn p hp).1
  have hv:(i.e.fs.any fun p=>decide (2000<p.2.length))=false:=by
   rw [List.any_eq_false]
   intro p hp
   have:=h.fv p hp
   simp [-bind_some];omega
  simp [-bind_some, itE,hr,evE,hp,ht,w1,h.w3,hl,htr,hst,hs,hv]
 ·have pl:=h.pl
  have hp:plB i.e=true:=by
   have:=pl.h0;have:=pl.h9;have:=pl.f0;have:=pl.f9;have:=pl.a0;have:=pl.ab;have:=pl.b9
   simp [-bind_some, plB]
   omega
  have hl:=a7Y 60000 (by omega) pl.a0 pl.b9 h.l1 h.l4 h.ch
  have hr3:¬ 32<i.r.length:=by have:=h.r3;omega
  simp [-bind_some, itE,h.r0,hr3,hp,hl,h.tm,h.w0,h.tr,h.st,h.fs]
  exact h.tx
theorem a8S:∀ s∈lt98_4,s≠([42]:Str):=by decide
def RdM (h:Hp) (l:List Mrk) (d:D):Prop:=SlOf 3 a1K l d∨∃ ob,d = .msl 3 ob 0 l.length∧h[ob]?=some (.row a0Q 3 (l.map a1K))
theorem c4L {h:Hp} {l:List Mrk} {d:D} (hd:RdM h l d):a0t tab a0E d=some (.int .i64 l.length):=by
 rcases hd with hd | ⟨ob,rfl,_⟩
 ·exact a3b hd
 ·exact c1k _ _ _ _
theorem b9d {h:Hp} {l:List Mrk} {d:D} (hd:RdM h l d) (i:Nat) (p:Mrk) (hp:l[i]?=some p):∃ q,a0b tab a0E d (.int .i64 i)=some q∧a0c tab h a0Q q=some (.agg (a1K p))∧∃ q2,a0a tab a0Q 2 q=some q2∧a0c tab h ty3 q2=some (.int .i64 p.o):=by
 have hi:=(e0y.1 hp).1
 rcases hd with hd | ⟨ob,rfl,ho⟩
 ·exact ⟨.fptr (a1K p),by rw [a6B hd];simp [-bind_some, hp],b0b p h,.fptr [.int .i64 p.o],rfl,rfl⟩
 ·have hr:(l.map a1K)[i]?=some (a1K p):=by rw [e0v,hp];rfl
  have hh:(0:Int)≤(i:Int)∧(i:Int)<(l.length:Int):=by omega
  refine ⟨.ptr ob i 0,by rw [b7Y];simp [-bind_some, hh],?_,.ptr ob i 2,rfl,?_⟩
  ·rw [c4w,a0F ho,hr];rfl
  ·rw [a6D,a0F ho,hr];rfl
theorem c9u (l:List Mrk) (d:D) (t:Mrk) (fn:D) (c:Mrk→Int) (h:Hp) (hd:RdM h l d) (hl:l.length≤1000000) (hf:∀ x,a3o R fn [.agg (a1K x),.agg (a1K t)] h=some (.int .i64 (c x),h))
   (k:Nat) (hk:k≤l.length) (h1:∀ i x,l[i]?=some x→i<k→c x<0) (h2:∀ i x,l[i]?=some x→k≤i→0≤c x) :
   R b7q [d,.agg (a1K t),fn] h=some (.tup [.int .i64 k,.bool (match l[k]? with | some x=>decide (c x=0) | none=>false)],h):=by
 apply Wp.val
 rw [d1l]
 simp only [c5W,a0V,bs,e0h,c4L hd]
 refine Wp.loop (fun n ds g=>g=h∧∃ a b e,∃ lo hi:Nat,ds=[.int .i64 lo,.int .i64 hi,a,b,e]∧lo≤k∧k≤hi∧hi≤l.length∧n=hi - lo)
   (fun x=>x.1 = .ext 0∧x.2.2=h∧nth 0 x.2.1 = .int .i64 k) l.length ⟨rfl,_,_,_,0,l.length,rfl,by omega,hk,Nat.le_refl _,rfl⟩ ?_ ?_
 ·rintro n ds g ⟨rfl,a,b,e,lo,hi,rfl,hlo,hhi,hle,rfl⟩
  simp only [b3a,a0e,a0m,bs,e0h,a0o]
  refine Wp.dif ?_ ?_
  ·intro h0
   have h0:lo<hi:=dl_ h0
   have hw:IntKind.wrap .i64 ((lo:Int)+hi)=((lo+hi:Nat):Int):=by
    rw [wrap_i64 (by omega) (by omega)];omega
   have hw2:IntKind.wrap .u64 ((lo+hi:Nat):Int)=((lo+hi:Nat):Int):=by
    unfold IntKind.wrap
    simp [-bind_some, IntKind.signed,IntKind.bits,IntKind.min,IntKind.max]
    omega
   have hw3:(((lo+hi:Nat):Int)).fdiv (2 ^ (min (Int.toNat 1) IntKind.u64.bits))=(((lo+hi) / 2:Nat):Int):=by
    rw [show (2:Int) ^ (min (Int.toNat 1) IntKind.u64.bits)=2 by decide]
    rw [Int.fdiv_eq_ediv_of_nonneg _ (by omega)]
    omega
   have hw4:IntKind.wrap .i64 (((lo+hi) / 2:Nat):Int)=(((lo+hi) / 2:Nat):Int):=wrap_i64 (by omega) (by omega)
   have hw5:IntKind.wrap .i64 ((((lo+hi) / 2:Nat):Int)+1)=(((lo+hi) / 2+1:Nat):Int):=by
    rw [wrap_i64 (by omega) (by omega)];omega
   have hm:(lo+hi) / 2<l.length:=by omega
   have hm1:lo≤(lo+hi) / 2:=by omega
   have hm2:(lo+hi) / 2<hi:=by omega
   generalize (lo+hi) / 2=mid at *
   have hg:l[mid]?=some l[mid]:=e0x hm
   generalize l[mid]=x at hg
   obtain ⟨q0,i0,i1,_⟩:=b9d hd mid x hg
   simp only [a0r,hw,b1Z,b6I,bs,hw2,a2E,show ¬ (1:Int)<0 by omega,if_false,hw3,hw4,i0,i1,b0b,hf,a0o]
   by_cases hc:c x<0
   ·have hkm:mid<k:=by
      rcases Nat.lt_or_ge mid k with hh | hh
      ·exact hh
      ·have:=h2 mid x hg hh
       omega
    simp only [hc,decide_true,a0d,if_true,bs,hw5,a1u,a0e,a0m]
    exact .some (.inl ⟨rfl,hi - (mid+1),by omega,rfl,_,_,_,mid+1,hi,rfl,by omega,hhi,hle,rfl⟩)
   ·have hkm:k≤mid:=by
      rcases Nat.lt_or_ge mid k with hh | hh
      ·exact absurd (h1 mid x hg hh) hc
      ·exact hh
    simp only [hc,decide_false,a0d,e0i,if_false,bs,a1u,a0e,a0m]
    exact .some (.inl ⟨rfl,mid - lo,by omega,rfl,_,_,_,lo,mid,rfl,hlo,hkm,by omega,rfl⟩)
  ·intro h0
   have h0:lo=k:=by
    have:¬ (lo:Int)<hi:=by simpa using h0
    omega
   subst h0
   exact .some (.inr ⟨by simp,rfl,rfl,rfl⟩)
 ·rintro ⟨ex,ds,g⟩ ⟨q1,q2,q3⟩
  simp only at q1 q2 q3
  subst q1;subst q2
  simp only [a0l,a0k,a0e,q3,bs,a0o]
  by_cases hkl:k<l.length
  ·have hg:l[k]?=some l[k]:=e0x hkl
   have hlt:(k:Int)<l.length:=by omega
   generalize l[k]=x at hg
   obtain ⟨q0,i0,i1,_⟩:=b9d hd k x hg
   simp only [hlt,decide_true,a0v,if_true,bs,i0,i1,hg,b0b,a0Y,hf,a0P,a0g,a1d]
   exact .some rfl
  ·have hg:l[k]?=none:=List.getElem?_eq_none (by omega)
   have hlt:¬ (k:Int)<l.length:=by omega
   simp only [hlt,decide_false,a0v,e0i,if_false,bs,a0Y,a0g,a1d,hg]
   exact .some rfl
theorem c2V (l:List Mrk) (d:D) (hst fil:Int) (h:Hp) (hd:RdM h l d) (hl:l.length≤1000000)
   (k:Nat) (hk:k≤l.length) (h1:∀ i x,l[i]?=some x→i<k→a4t x ⟨hst,fil,0⟩<0) (h2:∀ i x,l[i]?=some x→k≤i→0≤a4t x ⟨hst,fil,0⟩) :
   R a8G [d,.int .i64 hst,.int .i64 fil] h=some (.tup [.int .i64 k,.bool (match l[k]? with | some x=>decide (a4t x ⟨hst,fil,0⟩=0) | none=>false)],h):=by
 have hb:a0U tab a0Q [0,1] [.int .i64 hst,.int .i64 fil]=some (.agg (a1K ⟨hst,fil,0⟩)):=id rfl
 rw [d1i]
 simp only [c5T,bs,hb,e0h]
 rw [c9u l d ⟨hst,fil,0⟩ (.fn (.func b4i) [] []) (fun x=>a4t x ⟨hst,fil,0⟩) h hd hl (fun x=>by rw [a2V];exact d5M x _ h) k hk h1 h2]
 rfl
theorem c9p (l:List Mrk) (d dt:D) (hst fil:Int) (h:Hp) (hd:RdM h l d) (hl:l.length≤1000000) (hs:a6v l):R b7m [.agg [d,dt],.int .i64 hst,.int .i64 fil] h=some (.int .i64 (a1s l hst fil),h):=by
 have hk:=b5K ⟨hst,fil,0⟩ l
 have h13:=c2V l d hst fil h hd hl (kM ⟨hst,fil,0⟩ l) hk (b8c _ l) (c1h _ l hs)
 rw [d1a]
 unfold a1s
 generalize kM ⟨hst,fil,0⟩ l=k at hk h13
 simp only [c5N,a0V,bs,a9H,b8h,h13,a0I,e0k,e0l]
 cases hg:l[k]? with
 | none=>simp [-bind_some]
 | some x =>
  obtain ⟨q0,i0,i1,q2,i2,i3⟩:=b9d hd k x hg
  by_cases hc:a4t x ⟨hst,fil,0⟩=0
  ·simp [-bind_some, hc,i0,i2,i3]
  ·simp [-bind_some, hc]
theorem d6S (l:List Mrk) (d:D) (h:Hp) (hd:SlOf 3 a1K l d) (hl:l.length≤1000000):∃ d' h',R b7K [d] h=some (d',h')∧h.length≤h'.length∧(∀ q,q<h.length→h'[q]?=h[q]?) ∧
  ((l=[]∧(d' = .nils∨d' = .sl 3 true []))∨∃ ob,h.length≤ob∧d' = .msl 3 ob 0 l.length∧h'[ob]?=some (.row a0Q 3 (l.map a1K))):=by
 rw [d2c]
 rcases hd with ⟨rfl,rfl⟩ | ⟨b,rfl⟩
 ·exact ⟨.nils,h,by
    have hne:a0i tab .eql a0E .nils .nils=some (.bool true):=id rfl
    simp [-bind_some, c3v,hne],Nat.le_refl _,fun _ _=>rfl,.inl ⟨rfl,.inl rfl⟩⟩
 ·obtain ⟨x',h',e,hl',hq,ho⟩:=a5S (T:=tab) (t:=a0E) (i:=a8k) (j:=ti1006) (h:=h) (id rfl) (id rfl) (id rfl) (by decide) (y := .sl 3 b (l.map a1K)) (a1e _ _ _ _) (a2n (by have:ti1006.by_=24:=rfl;rw [this,e0n];omega) (by rw [e0n];omega))
  have e':a0q tab h a0E a0E (.sl 3 true []) (.sl 3 b (l.map a1K))=some (x',h'):=e
  have hne:a0i tab .eql a0E (.sl 3 b (l.map a1K)) .nils=some (.bool false):=id rfl
  refine ⟨x',h',?_,hl',hq,?_⟩
  ·simp only [c3v,bs,hne,a0d,e0i,if_false,c0m,e',a0j]
  ·rcases ho with ⟨rfl,hn⟩ | ⟨rfl,hn⟩ | ⟨ob,h1,rfl,h2⟩
   ·have:l=[]:=by simpa using hn
    exact .inl ⟨this,.inr rfl⟩
   ·have:l=[]:=by simpa using hn
    exact .inl ⟨this,.inl rfl⟩
   ·exact .inr ⟨ob,h1,by rw [e0n];rfl,h2⟩
theorem e0b (l:List Tal) (d:D) (h:Hp) (hd:RdT h l d) (hl:l.length≤1000000):∃ d' h',R c8b [d] h=some (d',h')∧h.length≤h'.length∧(∀ q,q<h.length→h'[q]?=h[q]?) ∧
  ((l=[]∧(d' = .nils∨d' = .sl 3 true []))∨∃ ob,h.length≤ob∧d' = .msl 3 ob 0 l.length∧h'[ob]?=some (.row a1k 3 (l.map a1F))):=by
 rcases hd with hd | ⟨ob0,rfl,ho0⟩
 ·exact u79 l d h hd hl
 rw [e79]
 by_cases hl0:l=[]
 ·subst hl0
  exact ⟨.sl 3 true [],h,by
   have hne:a0i tab .eql a1C (.msl 3 ob0 0 0) .nils=some (.bool false):=id rfl
   have hap:a0q tab h a1C a1C (.sl 3 true []) (.msl 3 ob0 0 0)=some (.sl 3 true [],h):=by
    have hsrc:a6t h ti58 ti106 (.msl 3 ob0 0 0)=some []:=by
     have h1:a1a h 3 (.msl 3 ob0 0 0)=some []:=by simp [-bind_some, a1a,ho0]
     have h2:ti58.td = .sl a1k:=id rfl
     have h3:ti106.sz=3:=id rfl
     simp only [a6t,h2,h3,h1]
    have h4:tab a1C=some ti58:=id rfl
    have h5:ti58.td = .sl a1k:=id rfl
    have h6:tab a1k=some ti106:=id rfl
    have h7:Nat.blt 0 ti106.sz=true:=id rfl
    simp only [a0q,h4,h5,h6,h7,hsrc]
   simp [-bind_some, F79,hne,hap],Nat.le_refl _,fun _ _=>rfl,.inl ⟨rfl,.inr rfl⟩⟩
 ·obtain ⟨x',h',e,hl',hq,ho⟩:=a5S (T:=tab) (t:=a1C) (i:=ti58) (j:=ti106) (h:=h) (id rfl) (id rfl) (id rfl) (by decide) (y := .msl 3 ob0 0 l.length) (show a1a h 3 _=some (l.map a1F) by simp [-bind_some, a1a,ho0];exact List.take_of_length_le (by simp)) (a2n (by have:ti106.by_=32:=rfl;rw [this,e0n];omega) (by rw [e0n];omega))
  have e':a0q tab h a1C a1C (.sl 3 true []) (.msl 3 ob0 0 l.length)=some (x',h'):=e
  have hne:a0i tab .eql a1C (.msl 3 ob0 0 l.length) .nils=some (.bool false):=id rfl
  refine ⟨x',h',?_,hl',hq,?_⟩
  ·simp only [F79,bs,hne,a0d,e0i,if_false,c2b,e',a0j]
  ·rcases ho with ⟨rfl,hn⟩ | ⟨rfl,hn⟩ | ⟨ob,h1,rfl,h2⟩
   ·have:l=[]:=by simpa using hn
    exact .inl ⟨this,.inr rfl⟩
   ·have:l=[]:=by simpa using hn
    exact .inl ⟨this,.inl rfl⟩
   ·exact .inr ⟨ob,h1,by rw [e0n];rfl,h2⟩
theorem d9H (l:List Tal) (d:D) (hst:Int) (rule:Str) (n:Int) (h:Hp) (hd:RdT h l d) (hl:l.length≤1000000) (hs:a6M l) :
  ∃ d',R d0s [d,.int .i64 hst,.str rule,.int .i64 n] h=some (d',h)∧SlOf 3 a1F (a3g l hst rule n) d':=by
 suffices Wp (R d0s [d,.int .i64 hst,.str rule,.int .i64 n] h) (fun p=>p.2=h∧SlOf 3 a1F (a3g l hst rule n) p.1) by
  obtain ⟨⟨x,h'⟩,h1,rfl,h2⟩:=this
  exact ⟨x,h1,h2⟩
 rw [e59]
 obtain ⟨d1,h1,e1,hl1,hb1,hd1⟩:=e0b l d h hd hl
 simp only [F59,bs,e1,a0o]
 refine Wp.dif (fun hn=>?_) (fun hn=>?_)
 ·have hn:n<1:=by simpa using hn
  have ha:a3g l hst rule n=l:=by simp [-bind_some, a3g,hn]
  rw [ha]
  rcases hd1 with ⟨rfl,rfl | rfl⟩ | ⟨ob,hob,rfl,ho⟩
  ·simp only [a0j,bs]
   rw [a0M rfl (by simp;exact .nils) hl1 hb1]
   exact .some ⟨rfl,by simpa using SlOf.nils _ _⟩
  ·have hsl:SlOf 3 a1F [] (.sl 3 true []) := .inr ⟨true,rfl⟩
   simp only [a0j,bs]
   rw [a0M (d' := .sl 3 true []) rfl (a1b hsl fun a _=>a3t _ a) hl1 hb1]
   exact .some ⟨rfl,hsl⟩
  ·have ow:Own h1 h.length a1k 3 (l.map a1F) (.msl 3 ob 0 l.length) := .inr ⟨ob,hob,by simp,ho⟩
   have hsl:=a1R (n0:=h.length) (n:=3) ow (Nat.le_refl _) (fun a _=>a2P _ h1 _ a)
   simp only [a0j,bs]
   rw [a0M rfl (a1b hsl fun a _=>a3t _ a) hl1 hb1]
   exact .some ⟨rfl,hsl⟩
 ·have hn:¬ n<1:=by simpa using hn
  have ha:a3g l hst rule n=a5P l hst rule n (kT ⟨hst,rule,0⟩ l):=by simp [-bind_some, a3g,hn]
  rw [ha]
  have hrd:RdT h1 l d1:=by
   rcases hd1 with ⟨rfl,rfl | rfl⟩ | ⟨ob,hob,rfl,ho⟩
   ·exact .inl (.nils _ _)
   ·exact .inl (.inr ⟨true,rfl⟩)
   ·exact .inr ⟨ob,rfl,ho⟩
  have hk:=b5L ⟨hst,rule,0⟩ l
  have h80:=s80 l d1 hst rule h1 hrd hl (kT ⟨hst,rule,0⟩ l) hk (b8e _ l) (c1i _ l hs)
  generalize kT ⟨hst,rule,0⟩ l=k at hk h80
  simp only [h80,bs,a0I,e0k,e0l,a1A]
  refine Wp.join (P:=fun r=>∃ (d2:D) (h2:Hp) (ob:Nat) (L:List Tal) (x:Tal),r=(.nrm,[d2],h2)∧d2 = .msl 3 ob 0 L.length∧h.length≤ob∧h.length≤h2.length∧(∀ q,q<h.length→h2[q]?=h[q]?)∧h2[ob]?=some (.row a1k 3 (L.map a1F))∧L[k]?=some x∧L.set k ⟨x.h,x.r,IntKind.wrap .i64 (x.n+n)⟩=a5P l hst rule n k) ?_ ?_ ?_
  ·intro hf
   have hadd:a5P l hst rule n k=l.take k++[⟨hst,rule,IntKind.wrap .i64 (0+n)⟩]++l.drop k:=by
    unfold a5P
    cases hg:l[k]? with
    | none=>rfl
    | some x =>
     rw [hg] at hf
     have:¬ a5X x ⟨hst,rule,0⟩=0:=by simpa using hf
     simp [-bind_some, this]
   have hlt:(l.take k).length=k:=by simp;omega
   have hL:(l.take k++[(⟨hst,rule,0⟩:Tal)]++l.drop k)[k]?=some ⟨hst,rule,0⟩:=by
    rw [List.append_assoc,List.getElem?_append_right (by omega),hlt];simp [-bind_some]
   have hset:(l.take k++[(⟨hst,rule,0⟩:Tal)]++l.drop k).set k ⟨hst,rule,IntKind.wrap .i64 (0+n)⟩=l.take k++[⟨hst,rule,IntKind.wrap .i64 (0+n)⟩]++l.drop k:=by
    rw [List.append_assoc,List.set_append_right _ _ (by omega),hlt];simp [-bind_some]
   have hlen:(l.take k++[(⟨hst,rule,0⟩:Tal)]++l.drop k).length=l.length+1:=by simp;omega
   have hmap:(l.take k++[(⟨hst,rule,0⟩:Tal)]++l.drop k).map a1F=(l.map a1F).take k++[[.int .i64 hst,.str rule,.int .i64 0]]++(l.map a1F).drop k:=by
    rw [e0o,e0o,List.map_take,List.map_drop];rfl
   have hz:ti106.sz=3:=rfl
   have hlim:lim (l.length+1) ti106.by_=true:=b4T (by omega)
   have hlim1:lim 1 ti106.by_=true:=b4T (by omega)
   simp only [b6p,c2c,bs,d0g]
   rcases hd1 with ⟨rfl,hdd⟩ | ⟨ob,hob,rfl,ho⟩
   ·have hk0:k=0:=by simpa using hk
    subst hk0
    have hi:b3M a1k ti106 [d1,.int .i64 ((0:Nat):Int),.sl 3 true [[.int .i64 hst,.str rule,.int .i64 0]]] h1=some (.msl 3 h1.length 0 1,a0C h1 a1k 3 [[.int .i64 hst,.str rule,.int .i64 0]]):=by
     rcases hdd with rfl | rfl <;> simp [-bind_some, b3M,hz,hlim1]
    rw [hi]
    simp only [bs]
    refine .some ⟨_,_,h1.length,[⟨hst,rule,0⟩],⟨hst,rule,0⟩,rfl,rfl,hl1,?_,fun q hq=>?_,a0Z _ _ _ _,rfl,?_⟩
    ·simp [-bind_some, a0C];omega
    ·rw [a0H _ _ _ _ (by omega)];exact hb1 q hq
    ·rw [hadd];simp [-bind_some]
   ·have hi:b3M a1k ti106 [.msl 3 ob 0 l.length,.int .i64 (k:Int),.sl 3 true [[.int .i64 hst,.str rule,.int .i64 0]]] h1=some (.msl 3 h1.length 0 (l.length+1),a0C (h1.set ob .dead) a1k 3 ((l.map a1F).take k++[[.int .i64 hst,.str rule,.int .i64 0]]++(l.map a1F).drop k)):=by
      have hkl:(k:Int)≤(l.length:Int):=by omega
      simp [-bind_some, b3M,hz,hlim,ho,hkl]
    rw [hi]
    simp only [bs]
    refine .some ⟨_,_,h1.length,l.take k++[⟨hst,rule,0⟩]++l.drop k,⟨hst,rule,0⟩,rfl,by rw [hlen],hl1,?_,fun q hq=>?_,?_,hL,by rw [hadd];exact hset⟩
    ·simp [-bind_some, a0C];omega
    ·rw [a0H _ _ _ _ (by simp;omega),e0I (by omega)];exact hb1 q hq
    ·have:=a0Z (h1.set ob .dead) a1k 3 ((l.take k++[(⟨hst,rule,0⟩:Tal)]++l.drop k).map a1F)
     simp only [List.length_set] at this
     rw [hmap] at this ⊢
     exact this
  ·intro hf
   cases hg:l[k]? with
   | none=>rw [hg] at hf;simp at hf
   | some x =>
    rw [hg] at hf
    have hc:a5X x ⟨hst,rule,0⟩=0:=by simpa using hf
    rcases hd1 with ⟨rfl,hdd⟩ | ⟨ob,hob,rfl,ho⟩
    ·simp at hg
    ·refine .some ⟨_,_,ob,l,x,rfl,rfl,hob,hl1,hb1,ho,hg,?_⟩
     simp [-bind_some, a5P,hg,hc]
  ·rintro _ ⟨d2,h2,ob,L,x,rfl,rfl,hob,hl2,hb2,ho,hx,hfin⟩
   have hkL:k<L.length:=(e0y.1 hx).1
   have hkl2:(0:Int)≤(k:Int)∧(k:Int)<(L.length:Int):=by omega
   have hr:(L.map a1F)[k]?=some (a1F x):=by rw [e0v,hx];rfl
   simp only [a0k,a0e,bs,c4k,hkl2,and_self,if_true,b3U,e0r,Nat.zero_add,a6D,a0F ho,hr]
   simp only [a1F,List.drop_succ_cons,List.drop_zero,List.head?_cons,bs,a0r]
   simp only [e0h,bs]
   refine b9O (off:=2) (v := .int .i64 (IntKind.wrap .i64 (x.n+n))) ho hr rfl (by simp [-bind_some, a1F]) rfl fun h3 q3 s3=>?_
   have hset:(L.map a1F).set k (spl (a1F x) 2 (a0B (.int .i64 (IntKind.wrap .i64 (x.n+n)))))=(a5P l hst rule n k).map a1F:=by
    rw [← hfin,List.map_set];rfl
   rw [hset] at q3
   simp only [bs,a0j]
   have hlen:(a5P l hst rule n k).length=L.length:=by rw [← hfin];simp [-bind_some]
   have ow:Own h3 h.length a1k 3 ((a5P l hst rule n k).map a1F) (.msl 3 ob 0 L.length) := .inr ⟨ob,hob,by simp [-bind_some, hlen],q3⟩
   have hsl:=a1R (n0:=h.length) (n:=3) ow (Nat.le_refl _) (fun a _=>a2P _ h3 _ a)
   rw [a0M rfl (a1b hsl fun a _=>a3t _ a) (by have:=s3.1;omega) (fun q hq=>(s3.2 q (by omega)).trans (hb2 q hq))]
   exact .some ⟨rfl,hsl⟩
theorem c4U {g:Hp} {w:Nat} {dm dt de:D} {ts:List Tal} (hw:g[w]?=some (.row a1o 3 [[dm,dt,de]])) (ht:RdT g ts dt) (hl:ts.length≤1000000) (hs:a6M ts) (hst:Int) (rule:Str) (n:Int) :
  ∃ dt' g',R a6i [.ptr w 0 0,.int .i64 hst,.str rule,.int .i64 n] g=some (.tup [],g')∧g'[w]?=some (.row a1o 3 [[dm,dt',de]])∧SlOf 3 a1F (a3g ts hst rule n) dt'∧Same w g g':=by
 suffices Wp (R a6i [.ptr w 0 0,.int .i64 hst,.str rule,.int .i64 n] g) (fun p=>p.1 = .tup []∧∃ dt',p.2[w]?=some (.row a1o 3 [[dm,dt',de]])∧SlOf 3 a1F (a3g ts hst rule n) dt'∧Same w g p.2) by
  obtain ⟨⟨x,g'⟩,h1,rfl,dt',h2⟩:=this
  exact ⟨dt',g',h1,h2⟩
 rw [d2e]
 obtain ⟨d',hs',hd'⟩:=d9H ts dt hst rule n g ht hl hs
 have oc:=a0O (a0X hd')
 simp only [c6I,bs,a0s,a6d,a6c,c8K,a0F hw,e0k,Nat.zero_add,List.drop_succ_cons,List.drop_zero,List.head?_cons,hs',e0h]
 refine d0e (off:=1) hw rfl (by rw [oc.1];rfl) (by simp) oc.2 fun g' q s=>?_
 rw [oc.1] at q
 try simp only [bs]
 exact .some ⟨rfl,d',q,hd',s⟩
def LvF (h:Hp) (n0:Nat) (l:List (Str × Str)) (d:D):Prop:=(l=[]∧SlOf 2 fld [] d)∨∃ ob,n0≤ob∧d = .msl 2 ob 0 l.length∧h[ob]?=some (.row a0T 2 (l.map fld))
theorem LvF.one {h:Hp} {n0:Nat} {l:List (Str × Str)} {d:D} (hd:LvF h n0 l d):d.one=true:=by
 rcases hd with ⟨_,hd⟩ | ⟨ob,_,rfl,_⟩
 ·exact a0X hd
 ·rfl
theorem LvF.keep {h h':Hp} {n0:Nat} {l:List (Str × Str)} {d:D} (hd:LvF h n0 l d) (hk:∀ q,n0≤q→h'[q]?=h[q]?):LvF h' n0 l d:=by
 rcases hd with hd | ⟨ob,h1,h2,h3⟩
 ·exact .inl hd
 ·exact .inr ⟨ob,h1,h2,(hk ob h1).trans h3⟩
theorem LvF.frz {h:Hp} {n0 n1 n:Nat} {l:List (Str × Str)} {d:D} (hd:LvF h n1 l d) (hn:n0≤n1):SlOf 2 fld l (frz n0 h (n+1) d):=by
 rcases hd with ⟨rfl,hd⟩ | ⟨ob,h1,rfl,h3⟩
 ·rw [a1P hd (fun a ha=>by cases ha)];exact hd
 ·have ow:Own h n1 a0T 2 (l.map fld) (.msl 2 ob 0 l.length) := .inr ⟨ob,h1,by simp,h3⟩
  exact a1R ow hn (fun a _=>a4y _ h _ a)
theorem c9n (i:It) (n:Int) (h:Hp) (hl:i.e.ls.length≤1000000) (hf:i.e.fs.length≤1000000):∃ j,R b4c [.agg (itr i),.int .i64 n] h=some (.tup [.agg (itr j),.bool (decide (¬ idx (fun l=>decide (l.off=n)) 0 i.e.ls<1))],h)∧(if idx (fun l=>decide (l.off=n)) 0 i.e.ls<1 then j=it0 else CutOf i n (idx (fun l=>decide (l.off=n)) 0 i.e.ls).toNat j):=by
 suffices Wp (R b4c [.agg (itr i),.int .i64 n] h) (fun p=>p.2=h∧∃ j,p.1 = .tup [.agg (itr j),.bool (decide (¬ idx (fun l=>decide (l.off=n)) 0 i.e.ls<1))]∧(if idx (fun l=>decide (l.off=n)) 0 i.e.ls<1 then j=it0 else CutOf i n (idx (fun l=>decide (l.off=n)) 0 i.e.ls).toNat j)) by
  obtain ⟨⟨x,h'⟩,h1,rfl,j,rfl,h2⟩:=this
  exact ⟨j,h1,h2⟩
 rw [d0X]
 simp only [c5K,bs,e0h,b8U]
 rw [a3l a0z 11 h (itr i) rfl (by omega)]
 generalize hg0:a0C h a0z 11 [itr i]=g0
 have hgl:g0.length=h.length+1:=by simp [-bind_some, ← hg0,a0C]
 have hb:∀ q,q<h.length→g0[q]?=h[q]?:=fun q hq=>by simp only [← hg0,a0C];rw [e0H hq]
 have p8:g0[h.length]?=some (.row a0z 11 [itr i]):=by simp [-bind_some, ← hg0,a0C]
 clear hg0
 simp only [bs,hgl]
 generalize hg1:a0C g0 a0z 11 [[.str [],.int .i64 0,.int .i64 0,.int .i64 0,.int .i64 0,.nils,.int .i64 0,.int .i64 0,.str [],.str [],.nils]]=g1
 have hgl1:g1.length=h.length+2:=by simp [-bind_some, ← hg1,a0C,hgl]
 have hb1:∀ q,q<h.length+1→g1[q]?=g0[q]?:=fun q hq=>by simp only [← hg1,a0C];rw [e0H (by omega)]
 have p9:g1[h.length+1]?=some (.row a0z 11 [[.str [],.int .i64 0,.int .i64 0,.int .i64 0,.int .i64 0,.nils,.int .i64 0,.int .i64 0,.str [],.str [],.nils]]):=by
  simp only [← hg1,a0C];rw [← hgl,List.getElem?_append_right (Nat.le_refl _)];simp [-bind_some]
 replace p8:=(hb1 h.length (by omega)).trans p8
 replace hb:∀ q,q<h.length→g1[q]?=h[q]?:=fun q hq=>(hb1 q (by omega)).trans (hb q hq)
 clear hg1 hb1 hgl
 have r8:g1.row h.length 0=some [.str i.r,.int .i64 i.e.a0,.int .i64 i.e.a1,.int .i64 i.e.a2,.int .i64 i.e.a3,i.e.ld,.int .i64 i.e.a5,.int .i64 i.e.a6,.str i.e.s7,.str i.e.s8,i.e.fd]:=a0F p8
 simp only [a2I,a2c,bs,a7b,r8,List.drop_succ_cons,List.drop_zero,List.head?_cons,Nat.zero_add]
 rw [c9q i.e.ls i.e.ld _ (fun l=>decide (l.off=n)) g1 i.e.hld i.e.hll (fun x=>by rw [a2V];exact d5I x n g1)]
 generalize hk:idx (fun l=>decide (l.off=n)) 0 i.e.ls=kk
 have hkr:=a6l (fun l:Lin=>decide (l.off=n)) i.e.ls 0
 rw [hk] at hkr
 simp only [bs,a0o]
 refine Wp.dif ?_ ?_
 ·intro hlt
  have hlt:kk<1:=by simpa using hlt
  simp only [c7x,bs]
  refine a6K p9 (by rfl) (by rfl) (by simp) (by rfl) fun g2 q9 s2=>?_
  replace q9:g2[h.length+1]?=some (.row a0z 11 [itr it0]):=q9
  simp only [a4E q9 rfl,bs,a1d]
  rw [a0M (d' := .tup [.agg (itr it0),.bool false]) (by rfl) (.tup _ fun d hd=>by
   simp at hd
   rcases hd with rfl | rfl
   ·exact a6n _ _
   ·constructor) (by have:=s2.1;omega) (fun q hq=>(s2.2 q (by omega)).trans (hb q hq))]
  exact .some ⟨rfl,it0,by simp [-bind_some, hlt],by simp [-bind_some, hlt]⟩
 ·intro hlt
  have hlt:¬ kk<1:=by simpa using hlt
  have hk1:kk<i.e.ls.length:=by
   rcases hkr with hh | ⟨_,hh⟩
   ·omega
   ·simpa using hh
  obtain ⟨y1,hs1,hy1⟩:=a8g (T:=tab) (t:=a1j) (i:=c5I) (j:=ti78) (id rfl) (id rfl) (id rfl) (id rfl) i.e.hld (k := .i64) (n:=kk) (by omega) (by omega)
  obtain ⟨y2,hs2,hy2⟩:=c9r _ y1 g1 hy1 (by simp;omega)
  simp only [ld3,hs1,hs2,bs,a2I,a5v,a2c,Nat.zero_add,a1v]
  refine b9O p8 (by rfl) (by rfl) (by simp [-bind_some, itr,evr]) (by rfl) fun g2 q8 t2=>?_
  have oc:=a0O (a0X hy2)
  refine b2T q8 (by rfl) (by rw [oc.1];rfl) (by simp [-bind_some, spl,a0B,itr,evr]) oc.2 fun g3 q8' t3=>?_
  rw [oc.1] at q8'
  replace q8:g3[h.length]?=some (.row a0z 11 [[.str i.r,.int .i64 i.e.a0,.int .i64 i.e.a1,.int .i64 n,.int .i64 i.e.a3,y2,.int .i64 i.e.a5,.int .i64 i.e.a6,.str i.e.s7,.str i.e.s8,i.e.fd]]):=q8'
  replace t2:=t2.trans t3
  clear q8' t3 hs1 hy1 oc
  have r8:g3.row h.length 0=some [.str i.r,.int .i64 i.e.a0,.int .i64 i.e.a1,.int .i64 n,.int .i64 i.e.a3,y2,.int .i64 i.e.a5,.int .i64 i.e.a6,.str i.e.s7,.str i.e.s8,i.e.fd]:=a0F q8
  obtain ⟨y3,g3',hs3,hl3,hb3,hy3⟩:=c5g _ _ g3 i.e.hfd hf
  have hg3l:h.length+2≤g3.length:=by have:=t2.1;omega
  have hlv:LvF g3' (h.length+2) i.e.fs y3:=by
   rcases hy3 with hy3 | ⟨ob,h1,h2⟩
   ·exact .inl hy3
   ·exact .inr ⟨ob,by omega,h2⟩
  simp only [bs,a4a,Nat.zero_add,c1j,r8,List.drop_succ_cons,List.drop_zero,List.head?_cons,hs3]
  have oc:=a0O hlv.one
  replace q8:=(hb3 _ (by omega)).trans q8
  replace p9:=(hb3 (h.length+1) (by omega)).trans ((t2.2 (h.length+1) (by omega)).trans p9)
  refine c1K q8 (by rfl) (by rw [oc.1];rfl) (by simp) oc.2 fun g4 q8' t4=>?_
  rw [oc.1] at q8'
  have hlv4:=hlv.keep (h':=g4) fun q hq=>t4.2 q (by omega)
  replace q8:g4[h.length]?=some (.row a0z 11 [[.str i.r,.int .i64 i.e.a0,.int .i64 i.e.a1,.int .i64 n,.int .i64 i.e.a3,y2,.int .i64 i.e.a5,.int .i64 i.e.a6,.str i.e.s7,.str i.e.s8,y3]]):=q8'
  replace hb:∀ q,q<h.length→g4[q]?=h[q]?:=fun q hq=>(t4.2 q (by omega)).trans ((hb3 q (by omega)).trans ((t2.2 q (by omega)).trans (hb q hq)))
  replace p9:=(t4.2 (h.length+1) (by omega)).trans p9
  have hg4l:h.length+2≤g4.length:=by have:=t4.1;omega
  clear q8' t2 t4 hs3 oc r8 hb3 hl3
  have hrow:([.str i.r,.int .i64 i.e.a0,.int .i64 i.e.a1,.int .i64 n,.int .i64 i.e.a3,y2,.int .i64 i.e.a5,.int .i64 i.e.a6,.str i.e.s7,.str i.e.s8,y3]:List D).length=11:=rfl
  have hok:(D.agg [.str i.r,.int .i64 i.e.a0,.int .i64 i.e.a1,.int .i64 n,.int .i64 i.e.a3,y2,.int .i64 i.e.a5,.int .i64 i.e.a6,.str i.e.s7,.str i.e.s8,y3]).okv=true:=by
   have o1:=a0X hy2
   have o2:=hlv4.one
   clear hlv hlv4 q8 hy3 hs2
   cases y2 <;> first | (cases y3 <;> first | rfl | (simp [-bind_some, D.one] at o2)) | (simp [-bind_some, D.one] at o1)
  simp only [a4E q8 hrow,bs]
  refine a6K p9 (by rfl) (by rfl) (by simp) hok fun g5 q9 t5=>?_
  replace q9:g5[h.length+1]?=some (.row a0z 11 [[.str i.r,.int .i64 i.e.a0,.int .i64 i.e.a1,.int .i64 n,.int .i64 i.e.a3,y2,.int .i64 i.e.a5,.int .i64 i.e.a6,.str i.e.s7,.str i.e.s8,y3]]):=q9
  simp only [a4E q9 hrow,bs,a1d]
  have hsl:=(hlv4.keep (h':=g5) fun q hq=>t5.2 q (by omega)).frz (n0:=h.length) (n:=1) (by omega)
  have hf2:=a1P (n0:=h.length) (h:=g5) (n:=1) hy2 (fun a _=>a3c _ g5 _ a)
  generalize hj:(⟨i.r,⟨i.e.a0,i.e.a1,n,i.e.a3,i.e.ls.drop kk.toNat,y2,i.e.a5,i.e.a6,i.e.s7,i.e.s8,i.e.fs,frz h.length g5 2 y3,hsl,i.e.hl,hy2,by have:=i.e.hll;simp [-bind_some];omega⟩⟩:It)=j
  have hcut:CutOf i n kk.toNat j:=by subst hj;exact ⟨rfl,rfl,rfl,rfl,rfl,rfl,rfl,rfl,rfl,rfl,rfl⟩
  have hfz:frz h.length g5 4 (.tup [.agg [.str i.r,.int .i64 i.e.a0,.int .i64 i.e.a1,.int .i64 n,.int .i64 i.e.a3,y2,.int .i64 i.e.a5,.int .i64 i.e.a6,.str i.e.s7,.str i.e.s8,y3],.bool true]) = .tup [.agg (itr j),.bool true]:=by
   subst hj
   simp only [a6A,a5x,e0p,e0q,c0X,b2n,a4B,hf2]
   rfl
  rw [a0M hfz (.tup _ fun d hd=>by
   simp at hd
   rcases hd with rfl | rfl
   ·exact a6n _ _
   ·constructor) (by have:=t5.1;omega) (fun q hq=>(t5.2 q (by omega)).trans (hb q hq))]
  exact .some ⟨rfl,j,by simp [-bind_some, hlt],by simp [-bind_some, hlt];exact hcut⟩
def evl (p:Ev × D):List D:=[.int .i64 p.1.a0,.int .i64 p.1.a1,.int .i64 p.1.a2,.int .i64 p.1.a3,p.1.ld,.int .i64 p.1.a5,.int .i64 p.1.a6,.str p.1.s7,.str p.1.s8,p.2]
def MkD (g:Hp) (n0:Nat) (l:List Mrk) (d:D):Prop:=(l=[]∧(d = .nils∨d = .sl 3 true []))∨∃ ob,n0≤ob∧d = .msl 3 ob 0 l.length∧g[ob]?=some (.row a0Q 3 (l.map a1K))
theorem MkD.rd {g:Hp} {n0:Nat} {l:List Mrk} {d:D} (h:MkD g n0 l d):RdM g l d:=by
 rcases h with ⟨rfl,rfl | rfl⟩ | ⟨ob,_,rfl,ho⟩
 ·exact .inl (.nils _ _)
 ·exact .inl (.inr ⟨true,rfl⟩)
 ·exact .inr ⟨ob,rfl,ho⟩
theorem MkD.one {g:Hp} {n0:Nat} {l:List Mrk} {d:D} (h:MkD g n0 l d):d.one=true:=by
 rcases h with ⟨rfl,rfl | rfl⟩ | ⟨ob,_,rfl,ho⟩ <;> rfl
def TlD (g:Hp) (n0:Nat) (l:List Tal) (d:D):Prop:=SlOf 3 a1F l d∨∃ ob,n0≤ob∧d = .msl 3 ob 0 l.length∧g[ob]?=some (.row a1k 3 (l.map a1F))
theorem TlD.rd {g:Hp} {n0:Nat} {l:List Tal} {d:D} (h:TlD g n0 l d):RdT g l d:=by
 rcases h with h | ⟨ob,_,rfl,ho⟩
 ·exact .inl h
 ·exact .inr ⟨ob,rfl,ho⟩
theorem TlD.one {g:Hp} {n0:Nat} {l:List Tal} {d:D} (h:TlD g n0 l d):d.one=true:=by
 rcases h with h | ⟨ob,_,rfl,ho⟩
 ·exact a0X h
 ·rfl
structure WkI (n0 w:Nat) (g:Hp) (ms:List Mrk) (ts:List Tal) (evs:List (Ev × D)) (dm dt de:D):Prop where
 len:n0≤g.length
 wn:n0≤w
 row:g[w]?=some (.row a1o 3 [[dm,dt,de]])
 mr:MkD g n0 ms dm
 tl:TlD g n0 ts dt
 ev:Own g n0 a0y 10 (evs.map evl) de
 fs:∀ p∈evs,LvF g n0 p.1.fs p.2
 ma:a6v ms
 ta:a6M ts
theorem WkI.chg {n0 w:Nat} {g g':Hp} {ms:List Mrk} {ts ts':List Tal} {evs:List (Ev × D)} {dm dt de dt':D} (W:WkI n0 w g ms ts evs dm dt de) {z T sz:Nat} {rows:List (List D)} (hz:g[z]?=some (.row T sz rows)) (h1:T≠a0Q) (h2:T≠a0y) (h3:T≠a0T) (hs:Same z g g')
  (hw:g'[w]?=some (.row a1o 3 [[dm,dt',de]])) (ht:TlD g' n0 ts' dt') (hta:a6M ts'):WkI n0 w g' ms ts' evs dm dt' de:=by
 have ne:∀ {q T' sz':Nat} {rows':List (List D)},g[q]?=some (.row T' sz' rows')→T'≠T→q≠z:=fun hq hn=>a2T hq hz hn
 refine ⟨by have:=W.len;have:=hs.1;omega,W.wn,hw,?_,ht,?_,fun p hp=>?_,W.ma,hta⟩
 ·rcases W.mr with h | ⟨ob,a,b,c⟩
  ·exact .inl h
  ·exact .inr ⟨ob,a,b,(hs.2 ob (ne c (Ne.symm h1))).trans c⟩
 ·rcases W.ev with h | ⟨ob,a,b,c⟩
  ·exact .inl h
  ·exact .inr ⟨ob,a,b,(hs.2 ob (ne c (Ne.symm h2))).trans c⟩
 ·rcases W.fs p hp with h | ⟨ob,a,b,c⟩
  ·exact .inl h
  ·exact .inr ⟨ob,a,b,(hs.2 ob (ne c (Ne.symm h3))).trans c⟩
theorem WkI.new {n0 w:Nat} {g g':Hp} {ms:List Mrk} {ts:List Tal} {evs:List (Ev × D)} {dm dt de:D} (W:WkI n0 w g ms ts evs dm dt de) (hl:g.length≤g'.length) (hk:∀ q,q<g.length→g'[q]?=g[q]?):WkI n0 w g' ms ts evs dm dt de:=by
 have lt:∀ {q:Nat} {ob:Ob},g[q]?=some ob→q<g.length:=fun hq=>(e0y.1 hq).1
 refine ⟨by have:=W.len;omega,W.wn,(hk w (lt W.row)).trans W.row,?_,W.tl.imp id fun ⟨ob,a,b,c⟩=>⟨ob,a,b,(hk ob (lt c)).trans c⟩,?_,fun p hp=>?_,W.ma,W.ta⟩
 ·rcases W.mr with h | ⟨ob,a,b,c⟩
  ·exact .inl h
  ·exact .inr ⟨ob,a,b,(hk ob (lt c)).trans c⟩
 ·rcases W.ev with h | ⟨ob,a,b,c⟩
  ·exact .inl h
  ·exact .inr ⟨ob,a,b,(hk ob (lt c)).trans c⟩
 ·rcases W.fs p hp with h | ⟨ob,a,b,c⟩
  ·exact .inl h
  ·exact .inr ⟨ob,a,b,(hk ob (lt c)).trans c⟩
theorem WkI.chg0 {n0 w:Nat} {g g':Hp} {ms:List Mrk} {ts:List Tal} {evs:List (Ev × D)} {dm dt de:D} (W:WkI n0 w g ms ts evs dm dt de) {z T sz:Nat} {rows:List (List D)} (hz:g[z]?=some (.row T sz rows)) (h1:T≠a0Q) (h2:T≠a0y) (h3:T≠a0T) (h4:T≠a1k) (hs:Same z g g')
  (hw:g'[w]?=some (.row a1o 3 [[dm,dt,de]])):WkI n0 w g' ms ts evs dm dt de :=
 W.chg hz h1 h2 h3 hs hw (W.tl.imp id fun ⟨ob,a,b,c⟩=>⟨ob,a,b,(hs.2 ob (a2T c hz (Ne.symm h4))).trans c⟩) W.ta
def a6z:Str:=[42]
def tkO (mk:Int) (i:It):Option (Option Nat) :=
 if i.e.a3≤mk then some none
 else if mk<i.e.a2 then none
 else if i.e.a2<mk then (if idx (fun l:Lin=>decide (l.off=mk)) 0 i.e.ls<1 then none else some (some (idx (fun l:Lin=>decide (l.off=mk)) 0 i.e.ls).toNat))
 else some (some 0)
theorem d7n (l:List Mrk) (hst fil to_:Int):(match l[kM ⟨hst,fil,0⟩ l]? with | some x=>decide (a4t x ⟨hst,fil,0⟩=0) | none=>false)=a6S l ⟨hst,fil,to_⟩:=by
 unfold a6S
 rw [b4O ⟨hst,fil,to_⟩ ⟨hst,fil,0⟩ rfl rfl]
 cases l[kM ⟨hst,fil,0⟩ l]? with
 | none=>rfl
 | some x=>simp only;rw [c0B x ⟨hst,fil,to_⟩ ⟨hst,fil,0⟩ rfl rfl]
theorem b8q {n:Nat} (hn:n≤1000001):lim n ti1006.by_=true:=a2n (by have:ti1006.by_=24:=rfl;rw [this];omega) (by omega)
theorem c4D {n0 w:Nat} {g:Hp} {ms:List Mrk} {ts:List Tal} {evs:List (Ev × D)} {dm dt de:D} (W:WkI n0 w g ms ts evs dm dt de) (hl:ms.length≤100000) (hst fil to_:Int) {z:Nat} {j:It} (hz:g[z]?=some (.row a0z 11 [itr j])) {β:Type} {f:Hp→Option β} {E:Out→Ex→Option β} {Q:β→Prop}
  (k:∀ g' dm',WkI n0 w g' (a5n ms ⟨hst,fil,to_⟩) ts evs dm' dt de→g'[z]?=some (.row a0z 11 [itr j])→g.length≤g'.length→(∀ q,q<n0→g'[q]?=g[q]?)→Wp (f g') Q) :
  Wp ((R a8G [dm,.int .i64 hst,.int .i64 fil] g).bind fun p81=>(a0w 0 p81.1).bind fun t82=>(a0w 1 p81.1).bind fun t83=>(dUn .not t83).bind fun t85 =>
   (dIf t85
    ((a0c tab p81.2 a0E (.ptr w 0 0)).bind fun t91=>(a0U tab a0Q [0,1] [.int .i64 hst,.int .i64 fil]).bind fun t95=>(a0W tab a0E 1 [0] [t95]).bind fun t96=>(R a8J [t91,t82,t96] p81.2).bind fun p97=>(a0p tab p97.2 a0E (.ptr w 0 0) p97.1).bind fun h'=>some (Ex.nrm,([]:List D),h'))
    (some (Ex.nrm,([]:List D),p81.2))).bind fun r=>a0K r.1
     ((a0c tab r.2.2 a0E (.ptr w 0 0)).bind fun t105=>(a0b tab a0E t105 t82).bind fun t108=>(a0a tab a0Q 2 t108).bind fun t109=>(a0p tab r.2.2 ty3 t109 (.int .i64 to_)).bind f) (E r)) Q:=by
 have hk:=b5K ⟨hst,fil,0⟩ ms
 have h13:R a8G [dm,.int .i64 hst,.int .i64 fil] g=some (.tup [.int .i64 (kM ⟨hst,fil,0⟩ ms:Nat),.bool (a6S ms ⟨hst,fil,to_⟩)],g) :=
  (c2V ms dm hst fil g W.mr.rd (by omega) (kM ⟨hst,fil,0⟩ ms) hk (b8c _ ms) (c1h _ ms W.ma)).trans (congrArg (fun b:Bool=>some (D.tup [.int .i64 (kM ⟨hst,fil,0⟩ ms:Nat),.bool b],g)) (d7n ms hst fil to_))
 have hkk:kM ⟨hst,fil,to_⟩ ms=kM ⟨hst,fil,0⟩ ms:=b4O ⟨hst,fil,to_⟩ ⟨hst,fil,0⟩ rfl rfl ms
 have hset:a5n ms ⟨hst,fil,to_⟩=if a6S ms ⟨hst,fil,to_⟩=true then ms.set (kM ⟨hst,fil,0⟩ ms) ⟨hst,fil,to_⟩ else ms.take (kM ⟨hst,fil,0⟩ ms)++[⟨hst,fil,to_⟩]++ms.drop (kM ⟨hst,fil,0⟩ ms):=by
  unfold a5n;rw [hkk]
 have hfx:a6S ms ⟨hst,fil,to_⟩=true→∃ x,ms[kM ⟨hst,fil,0⟩ ms]?=some x∧x.h=hst∧x.f=fil:=by
  intro hf
  unfold a6S at hf
  rw [hkk] at hf
  cases hg:ms[kM ⟨hst,fil,0⟩ ms]? with
  | none=>rw [hg] at hf;cases hf
  | some x =>
   rw [hg] at hf
   have:=(a5u x ⟨hst,fil,to_⟩).1 (by simpa using hf)
   exact ⟨x,rfl,this.1,this.2⟩
 have hasc:=a3B ms ⟨hst,fil,to_⟩ W.ma
 have hlen:=a7v ms ⟨hst,fil,to_⟩
 generalize a5n ms ⟨hst,fil,to_⟩=ms' at hset hasc hlen k
 generalize a6S ms ⟨hst,fil,to_⟩=fnd at h13 hset hfx
 generalize kM ⟨hst,fil,0⟩ ms=kk at hk h13 hset hfx
 have hlw:∀ {g':Hp} {dm':D},g'[w]?=some (.row a1o 3 [[dm',dt,de]])→a0c tab g' a0E (.ptr w 0 0)=some dm':=fun hq=>by rw [b2x,a0F hq];rfl
 have wl:=(e0y.1 W.row).1
 have zl:=(e0y.1 hz).1
 have hwz:w≠z:=a2T W.row hz (by decide)
 have hn0:=W.len
 have hwn:=W.wn
 simp only [h13,bs,a0I,e0k,e0l,a1A]
 refine Wp.join (P:=fun r=>∃ (dm':D) (g2:Hp) (ob:Nat) (L:List Mrk) (x:Mrk),r=(.nrm,[],g2)∧dm' = .msl 3 ob 0 L.length∧n0≤ob∧g.length≤g2.length∧(∀ q,q<n0→g2[q]?=g[q]?)∧g2[w]?=some (.row a1o 3 [[dm',dt,de]])∧(∀ (q T sz:Nat) (rows:List (List D)),g[q]?=some (Ob.row T sz rows)→T≠a0Q→T≠a1o→g2[q]?=g[q]?)∧g2[ob]?=some (.row a0Q 3 (L.map a1K))∧L[kk]?=some x∧L.set kk ⟨x.h,x.f,to_⟩=ms') ?_ ?_ ?_
 ·intro hf
  have hf:fnd=false:=by simpa using hf
  subst hf
  simp only [e0i,if_false] at hset
  have hlt:(ms.take kk).length=kk:=by simp;omega
  have hL:(ms.take kk++[(⟨hst,fil,0⟩:Mrk)]++ms.drop kk)[kk]?=some ⟨hst,fil,0⟩:=by
   rw [List.append_assoc,List.getElem?_append_right (by omega),hlt];simp [-bind_some]
  have hsetL:(ms.take kk++[(⟨hst,fil,0⟩:Mrk)]++ms.drop kk).set kk ⟨hst,fil,to_⟩=ms':=by
   rw [hset,List.append_assoc,List.set_append_right _ _ (by omega),hlt];simp [-bind_some]
  have hlenL:(ms.take kk++[(⟨hst,fil,0⟩:Mrk)]++ms.drop kk).length=ms.length+1:=by simp;omega
  have hmap:(ms.take kk++[(⟨hst,fil,0⟩:Mrk)]++ms.drop kk).map a1K=(ms.map a1K).take kk++[[.int .i64 hst,.int .i64 fil,.int .i64 0]]++(ms.map a1K).drop kk:=by
   rw [e0o,e0o,List.map_take,List.map_drop];rfl
  have hz3:ti1006.sz=3:=rfl
  have hlim:lim (ms.length+1) ti1006.by_=true:=b8q (by omega)
  have hlim1:lim 1 ti1006.by_=true:=b8q (by omega)
  have hbd:a0U tab a0Q [0,1] [.int .i64 hst,.int .i64 fil]=some (.agg [.int .i64 hst,.int .i64 fil,.int .i64 0]):=id rfl
  simp only [hlw W.row,hbd,c0n,bs,c1M]
  rcases W.mr with ⟨hms,hdd⟩ | ⟨ob,hob,hdm,ho⟩
  ·subst hms
   have hk0:kk=0:=by simpa using hk
   subst hk0
   have hi:b3M a0Q ti1006 [dm,.int .i64 ((0:Nat):Int),.sl 3 true [[.int .i64 hst,.int .i64 fil,.int .i64 0]]] g=some (.msl 3 g.length 0 1,a0C g a0Q 3 [[.int .i64 hst,.int .i64 fil,.int .i64 0]]):=by
    rcases hdd with rfl | rfl <;> simp [-bind_some, b3M,hz3,hlim1]
   rw [hi]
   simp only [bs]
   refine b2R (off:=0) ((a0H _ _ _ _ wl).trans W.row) rfl rfl (by simp) rfl fun g3 q3 s3=>?_
   replace q3:g3[w]?=some (.row a1o 3 [[.msl 3 g.length 0 1,dt,de]]):=q3
   have gl:(a0C g a0Q 3 [[.int .i64 hst,.int .i64 fil,.int .i64 0]]).length=g.length+1:=by simp [-bind_some, a0C]
   refine .some ⟨_,g3,g.length,[⟨hst,fil,0⟩],⟨hst,fil,0⟩,rfl,rfl,hn0,by rw [s3.1,gl];omega,fun q hq=>(s3.2 q (by omega)).trans (a0H _ _ _ _ (by omega)),q3,fun q T sz rows hq h1 h2=>?_,(s3.2 _ (by omega)).trans (a0Z _ _ _ _),rfl,by simpa using hsetL⟩
   exact (s3.2 q (a2T hq W.row h2)).trans (a0H _ _ _ _ (e0y.1 hq).1)
  ·have hkl:(kk:Int)≤(ms.length:Int):=by omega
   have hi:b3M a0Q ti1006 [dm,.int .i64 (kk:Int),.sl 3 true [[.int .i64 hst,.int .i64 fil,.int .i64 0]]] g=some (.msl 3 g.length 0 (ms.length+1),a0C (g.set ob .dead) a0Q 3 ((ms.map a1K).take kk++[[.int .i64 hst,.int .i64 fil,.int .i64 0]]++(ms.map a1K).drop kk)):=by
    subst hdm
    simp [-bind_some, b3M,hz3,hlim,ho,hkl]
   rw [hi]
   simp only [bs]
   have hwo:w≠ob:=a2T W.row ho (by decide)
   have old:∀ q,q<g.length→q≠ob→(a0C (g.set ob .dead) a0Q 3 ((ms.map a1K).take kk++[[.int .i64 hst,.int .i64 fil,.int .i64 0]]++(ms.map a1K).drop kk))[q]?=g[q]?:=fun q hq hn=>by
    rw [a0H _ _ _ _ (by simpa using hq),e0I (Ne.symm hn)]
   refine b2R (off:=0) ((old w wl hwo).trans W.row) rfl rfl (by simp) rfl fun g3 q3 s3=>?_
   replace q3:g3[w]?=some (.row a1o 3 [[.msl 3 g.length 0 (ms.length+1),dt,de]]):=q3
   have gl:(a0C (g.set ob .dead) a0Q 3 ((ms.map a1K).take kk++[[.int .i64 hst,.int .i64 fil,.int .i64 0]]++(ms.map a1K).drop kk)).length=g.length+1:=by simp [-bind_some, a0C]
   have hnew:=a0Z (g.set ob .dead) a0Q 3 ((ms.map a1K).take kk++[[.int .i64 hst,.int .i64 fil,.int .i64 0]]++(ms.map a1K).drop kk)
   rw [List.length_set,← hmap] at hnew
   refine .some ⟨_,g3,g.length,ms.take kk++[⟨hst,fil,0⟩]++ms.drop kk,⟨hst,fil,0⟩,rfl,by rw [hlenL],hn0,by rw [s3.1,gl];omega,fun q hq=>(s3.2 q (by omega)).trans (old q (by omega) (by omega)),q3,fun q T sz rows hq h1 h2=>?_,(s3.2 _ (by omega)).trans (by rw [← hmap];exact hnew),hL,hsetL⟩
   exact (s3.2 q (a2T hq W.row h2)).trans (old q (e0y.1 hq).1 (a2T hq ho h1))
 ·intro hf
  have hf:fnd=true:=by simpa using hf
  subst hf
  obtain ⟨x,hx,hx1,hx2⟩:=hfx rfl
  simp only [if_true] at hset
  rcases W.mr with ⟨hms,_⟩ | ⟨ob,hob,hdm,ho⟩
  ·subst hms;simp at hx
  ·exact .some ⟨dm,g,ob,ms,x,rfl,hdm,hob,Nat.le_refl _,fun _ _=>rfl,W.row,fun _ _ _ _ _ _ _=>rfl,ho,hx,by rw [hx1,hx2,hset]⟩
 rintro _ ⟨dm',g2,ob,L,x,rfl,rfl,hob,hl2,hb2,hw2,hk2,ho,hx,hfin⟩
 have hkL:kk<L.length:=(e0y.1 hx).1
 have hkl2:(0:Int)≤(kk:Int)∧(kk:Int)<(L.length:Int):=by omega
 have hr:(L.map a1K)[kk]?=some (a1K x):=by rw [e0v,hx];rfl
 simp only [a0k,hlw hw2,bs,b7Y,hkl2,and_self,if_true,b7j,e0r,Nat.zero_add]
 refine b9O (off:=2) ho hr rfl (by simp [-bind_some, a1K]) rfl fun g3 q3 s3=>?_
 have hset3:(L.map a1K).set kk (spl (a1K x) 2 (a0B (.int .i64 to_)))=ms'.map a1K:=by
  rw [← hfin,List.map_set];rfl
 rw [hset3] at q3
 have hlenL:L.length=ms'.length:=by rw [← hfin];simp [-bind_some]
 have hwo:w≠ob:=a2T hw2 ho (by decide)
 have kp:∀ (q T sz:Nat) (rows:List (List D)),g[q]?=some (Ob.row T sz rows)→T≠a0Q→T≠a1o→g3[q]?=g[q]?:=fun q T sz rows hq h1 h2=>by
  have e:=hk2 q T sz rows hq h1 h2
  exact (s3.2 q (a2T (e.trans hq) ho h1)).trans e
 refine k g3 _ ⟨by have:=s3.1;omega,hwn,(s3.2 w hwo).trans hw2,.inr ⟨ob,hob,by rw [hlenL],q3⟩,W.tl.imp id fun ⟨ob',a,b,c⟩=>⟨ob',a,b,(kp _ _ _ _ c (by decide) (by decide)).trans c⟩,?_,fun p hp=>?_,hasc,W.ta⟩ ((kp z _ _ _ hz (by decide) (by decide)).trans hz) (by have:=s3.1;omega) (fun q hq=>(s3.2 q (by omega)).trans (hb2 q hq))
 ·rcases W.ev with h | ⟨ob',a,b,c⟩
  ·exact .inl h
  ·exact .inr ⟨ob',a,b,(kp _ _ _ _ c (by decide) (by decide)).trans c⟩
 ·rcases W.fs p hp with h | ⟨ob',a,b,c⟩
  ·exact .inl h
  ·exact .inr ⟨ob',a,b,(kp _ _ _ _ c (by decide) (by decide)).trans c⟩
def c2i (e:Ev) (d:D) (hd:SlOf 3 a1D e.ls d):Ev:={ e with ld:=d,hld:=hd }
theorem d2P {n0 w:Nat} {g:Hp} {ms:List Mrk} {ts:List Tal} {evs:List (Ev × D)} {dm dt de:D} (W:WkI n0 w g ms ts evs dm dt de) (hle:evs.length≤100000) {z:Nat} {j:It} (hz:g[z]?=some (.row a0z 11 [itr j])) (hn:j.e.ls.length≤1000) (hf:j.e.fs.length≤1000) {β:Type} {f:D→Hp→Option β} {Q:β→Prop}
  (k:∀ g' p de' d hd x,WkI n0 w g' ms ts (evs++[(c2i j.e d hd,x)]) dm dt de'→g.length≤g'.length→(∀ q,q<n0→g'[q]?=g[q]?)→Wp (f p g') Q) :
  Wp ((a0a tab a0z 1 (.ptr z 0 0)).bind fun t122 =>
  (a0c tab g a0y t122).bind fun t123 =>
  (some ((.ptr g.length 0 0:D),a0C g a0y 10 [[.int .i64 0,.int .i64 0,.int .i64 0,.int .i64 0,.nils,.int .i64 0,.int .i64 0,.str [],.str [],.nils]])).bind fun p14 =>
  ((a0p tab p14.2 a0y p14.1 t123).bind fun h'=>some ((.und:D),h')).bind fun p903 =>
  (a0a tab a0y 4 p14.1).bind fun t124 =>
  (a0c tab p903.2 a1j t124).bind fun t125 =>
  (R a8F [t125] p903.2).bind fun p126 =>
  (a0a tab a0y 9 p14.1).bind fun t127 =>
  (a0c tab p126.2 a1p t127).bind fun t128 =>
  (R a7R [t128] p126.2).bind fun p129 =>
  (a0a tab a0y 4 p14.1).bind fun t130 =>
  chk (a0c tab p903.2 a1p t127=some t128)
  (((a0p tab p129.2 a1j t130 p126.1).bind fun h'=>some ((.und:D),h')).bind fun p907 =>
  (a0a tab a0y 9 p14.1).bind fun t131 =>
  ((a0p tab p907.2 a1p t131 p129.1).bind fun h'=>some ((.und:D),h')).bind fun p909_1 =>
  (a0a tab a1o 1 (.ptr w 0 0)).bind fun t135 =>
  (a0c tab p909_1.2 a3f t135).bind fun t136 =>
  (a0c tab p909_1.2 a0y p14.1).bind fun t137 =>
  (a0W tab a3f 1 [0] [t137]).bind fun t138 =>
  (a0q tab p909_1.2 a3f a3f t136 t138).bind fun p139 =>
  (a0a tab a1o 1 (.ptr w 0 0)).bind fun t141 =>
  ((a0p tab p139.2 a3f t141 p139.1).bind fun h'=>some ((.und:D),h')).bind fun p910 =>
  f p14.1 p910.2)) Q:=by
 have wl:=(e0y.1 W.row).1
 have hn0:=W.len
 have hwn:=W.wn
 have hld:a0c tab g a0y (.ptr z 0 (0+1))=some (.agg (evr j.e)):=by rw [b8j,a0F hz];rfl
 have hz5:∀ r0 r1 r2 r3:D,True:=fun _ _ _ _=>trivial
 generalize hZ:([.int .i64 0,.int .i64 0,.int .i64 0,.int .i64 0,.nils,.int .i64 0,.int .i64 0,.str [],.str [],.nils]:List D)=Z
 have hZl:Z.length=10:=by subst hZ;rfl
 simp only [a2I,hld,bs,e0h]
 have hold:∀ q,q<g.length→(a0C g a0y 10 [Z])[q]?=g[q]?:=fun q hq=>a0H _ _ _ _ hq
 have hpp:(a0C g a0y 10 [Z])[g.length]?=some (.row a0y 10 [Z]):=a0Z _ _ _ _
 have hpl:(a0C g a0y 10 [Z]).length=g.length+1:=by simp [-bind_some, a0C]
 generalize a0C g a0y 10 [Z]=g1 at hold hpp hpl
 have W1:=W.new (g':=g1) (by omega) hold
 generalize hP:List.length g=P at hpp hpl
 have hwP:w≠P:=by omega
 have evo:∀ {q:Nat} {rows:List (List D)},g[q]?=some (.row a0y 10 rows)→q≠P:=fun hq=>by have:=(e0y.1 hq).1;omega
 have dob:¬ de.inOb P:=fun hh=>by have:=(W.ev.lt hh).2;omega
 have hokv:(D.agg (evr j.e)).okv=true:=by
  have o1:=a0X j.e.hld
  have o2:=a0X j.e.hfd
  have o3:D.agg (evr j.e) = .agg [.int .i64 j.e.a0,.int .i64 j.e.a1,.int .i64 j.e.a2,.int .i64 j.e.a3,j.e.ld,.int .i64 j.e.a5,.int .i64 j.e.a6,.str j.e.s7,.str j.e.s8,j.e.fd]:=rfl
  rw [o3]
  generalize j.e.ld=a at o1
  generalize j.e.fd=b at o2
  cases a <;> first | (cases b <;> first | rfl | (simp [-bind_some, D.one] at o2)) | (simp [-bind_some, D.one] at o1)
 refine c1L hpp (by rfl) (by rfl) (by rw [hZl];exact Nat.le_refl _) hokv fun g2 q2 s2=>?_
 replace q2:g2[P]?=some (.row a0y 10 [[.int .i64 j.e.a0,.int .i64 j.e.a1,.int .i64 j.e.a2,.int .i64 j.e.a3,j.e.ld,.int .i64 j.e.a5,.int .i64 j.e.a6,.str j.e.s7,.str j.e.s8,j.e.fd]]):=by
  rw [q2];subst hZ;rfl
 obtain ⟨y1,h1,hy1⟩:=c9r j.e.ls j.e.ld g2 j.e.hld (by omega)
 obtain ⟨y2,g3,h2,hl3,hb3,hy2⟩:=c5g j.e.fs j.e.fd g2 j.e.hfd (by omega)
 have l4:a0c tab g2 a1j (.ptr P 0 (0+4))=some j.e.ld:=by rw [a7b,a0F q2];rfl
 have l9:a0c tab g2 a1p (.ptr P 0 (0+9))=some j.e.fd:=by rw [c1j,a0F q2];rfl
 simp only [bs,a2c,a4a,l4,h1,l9,h2]
 refine Wp.chk trivial ?_
 have hPl2:=(e0y.1 q2).1
 have q3:=(hb3 P hPl2).trans q2
 have oc1:=a0O (a0X hy1)
 refine b2T q3 (by rfl) (by rw [oc1.1];rfl) (by simp) oc1.2 fun g4 q4 s4=>?_
 rw [oc1.1] at q4
 try simp only [bs]
 have hlv:LvF g3 g2.length j.e.fs y2:=hy2
 have oc2:=a0O hlv.one
 refine c1K q4 (by rfl) (by rw [oc2.1];rfl) (by simp [-bind_some, spl]) oc2.2 fun g5 q5 s5=>?_
 rw [oc2.1] at q5
 replace q5:g5[P]?=some (.row a0y 10 [evl (c2i j.e y1 hy1,y2)]):=q5
 have hP5:∀ q,q≠P→q<g2.length→g5[q]?=g1[q]?:=fun q hq hlt=>(s5.2 q hq).trans ((s4.2 q hq).trans ((hb3 q hlt).trans (s2.2 q hq)))
 have hg2:g2.length=P+1:=by rw [s2.1,hpl]
 have hg5:g5.length=g3.length:=by rw [s5.1,s4.1]
 have hlv5:LvF g5 n0 j.e.fs y2:=by
  rcases hlv with h | ⟨ob,a,b,c⟩
  ·exact .inl h
  ·exact .inr ⟨ob,by omega,b,(s5.2 ob (by omega)).trans ((s4.2 ob (by omega)).trans c)⟩
 have W5:WkI n0 w g5 ms ts evs dm dt de:=W.new (by omega) fun q hq=>(hP5 q (by omega) (by omega)).trans (hold q (by omega))
 have lw:a0c tab g5 a3f (.ptr w 0 (0+2))=some de:=by rw [c4x,a0F W5.row];rfl
 have lP:a0c tab g5 a0y (.ptr P 0 0)=some (.agg (evl (c2i j.e y1 hy1,y2))):=by
  rw [b8j,a0F q5];rfl
 have hbs:a0W tab a3f 1 [0] [.agg (evl (c2i j.e y1 hy1,y2))]=some (.sl 10 true [evl (c2i j.e y1 hy1,y2)]):=id rfl
 simp only [bs,a7N,lw,lP,hbs]
 refine c5n W5.len W5.ev (a1e _ _ _ _) (by simp;omega) fun x' g6 ow len6 bel6 keep6 fre6=>?_
 try simp only [bs]
 have hw5:=(e0y.1 W5.row).1
 have oc3:=a0O (a2f ow)
 have hdw:¬ de.inOb w:=b1D W5.ev W5.row (by decide)
 refine d6X ((keep6 w hw5 hdw).trans W5.row) (by rfl) (by rw [oc3.1];rfl) (by simp) oc3.2 fun g7 q7 s7=>?_
 rw [oc3.1] at q7
 replace q7:g7[w]?=some (.row a1o 3 [[dm,dt,x']]):=q7
 try simp only [bs]
 have kp:∀ (q T sz:Nat) (rows:List (List D)),g5[q]?=some (Ob.row T sz rows)→T≠a0y→T≠a1o→g7[q]?=g5[q]?:=fun q T sz rows hq t1 t2 =>
  (s7.2 q (a2T hq W5.row t2)).trans (keep6 q (e0y.1 hq).1 (b1D W5.ev hq (Ne.symm t1)))
 refine k g7 _ x' y1 hy1 y2 ⟨by have:=s7.1;have:=W5.len;omega,hwn,q7,?_,W5.tl.imp id fun ⟨ob,a,b,c⟩=>⟨ob,a,b,(kp _ _ _ _ c (by decide) (by decide)).trans c⟩,?_,fun p hp=>?_,W.ma,W.ta⟩ (by have:=s7.1;omega) (fun q hq=>(s7.2 q (by omega)).trans ((bel6 q hq).trans ((hP5 q (by omega) (by omega)).trans (hold q (by omega)))))
 ·rcases W5.mr with h | ⟨ob,a,b,c⟩
  ·exact .inl h
  ·exact .inr ⟨ob,a,b,(kp _ _ _ _ c (by decide) (by decide)).trans c⟩
 ·rw [e0o]
  rcases ow with h | ⟨ob,a,b,c⟩
  ·exact .inl h
  ·exact .inr ⟨ob,a,b,(s7.2 ob (by
     have hw6:=(keep6 w hw5 hdw).trans W5.row
     exact a2T c hw6 (by decide))).trans c⟩
 ·have kk:∀ {l:List (Str × Str)} {d:D},LvF g5 n0 l d→LvF g7 n0 l d:=fun hd=>by
    rcases hd with h | ⟨ob,a,b,c⟩
    ·exact .inl h
    ·exact .inr ⟨ob,a,b,(kp _ _ _ _ c (by decide) (by decide)).trans c⟩
  rcases e0E.1 hp with hp | hp
  ·exact kk (W5.fs p hp)
  ·simp only [List.mem_singleton] at hp
   subst hp
   exact kk hlv5
theorem d0c {α:Type} {x y:Option α} {Q:α→Prop} (h:x=y) (hx:Wp x Q):Wp y Q:=h▸hx
def b3z (n0 w:Nat) (ms:List Mrk) (ts:List Tal) (evs:List (Ev × D)) (dm dt de:D) (i:It) (b:Bool) (g':Hp):Prop :=
 match tkO (a1s ms i.e.a0 i.e.a1) i with
 | none=>b=false
 | some none=>b=true∧∃ dt',WkI n0 w g' ms (a3g ts i.e.a0 a6z i.e.ls.length) evs dm dt' de
 | some (some k)=>b=true∧∃ j dm' dt' de' evs',CutOf i (a1s ms i.e.a0 i.e.a1) k j∧WkI n0 w g' (a5n ms ⟨i.e.a0,i.e.a1,i.e.a3⟩) (a3g (a3g ts i.e.a0 a6z k) i.e.a0 i.r j.e.ls.length) evs' dm' dt' de' ∧
   if i.r=[] then ∃ d hd x,evs'=evs++[(c2i j.e d hd,x)] else evs'=evs
theorem d6i {n0 w:Nat} {g:Hp} {ms:List Mrk} {ts:List Tal} {evs:List (Ev × D)} {dm dt de:D} (W:WkI n0 w g ms ts evs dm dt de) (hlm:ms.length≤100000) (hlt:ts.length≤100000) (hle:evs.length≤100000) (i:It) (hn:i.e.ls.length≤1000) (hf:i.e.fs.length≤1000) :
  ∃ (b:Bool) (g':Hp),R b4s [.ptr w 0 0,.agg (itr i)] g=some (.bool b,g')∧g.length≤g'.length∧(∀ q,q<n0→g'[q]?=g[q]?)∧b3z n0 w ms ts evs dm dt de i b g':=by
 suffices Wp (R b4s [.ptr w 0 0,.agg (itr i)] g) (fun p=>∃ b:Bool,p.1 = .bool b∧g.length≤p.2.length∧(∀ q,q<n0→p.2[q]?=g[q]?)∧b3z n0 w ms ts evs dm dt de i b p.2) by
  obtain ⟨⟨x,g'⟩,h1,b,rfl,h2⟩:=this
  exact ⟨b,g',h1,h2⟩
 rw [d2d]
 have hn0:=W.len
 have hwn:=W.wn
 have wl:=(e0y.1 W.row).1
 simp only [c6H]
 rw [a3l a0z 11 g (itr i) rfl (by omega)]
 have hold:∀ q,q<g.length→(a0C g a0z 11 [itr i])[q]?=g[q]?:=fun q hq=>a0H _ _ _ _ hq
 have hz:(a0C g a0z 11 [itr i])[g.length]?=some (.row a0z 11 [itr i]):=a0Z _ _ _ _
 have hzl:(a0C g a0z 11 [itr i]).length=g.length+1:=by simp [-bind_some, a0C]
 have W1:=W.new (g':=a0C g a0z 11 [itr i]) (by omega) hold
 generalize a0C g a0z 11 [itr i]=g1 at hold hz hzl W1
 generalize hZ:List.length g=z at hz hzl
 have l0:a0c tab g1 ty3 (.ptr z 0 (0+1+0))=some (.int .i64 i.e.a0):=by rw [a6D,a0F hz];rfl
 have l1:a0c tab g1 ty3 (.ptr z 0 (0+1+1))=some (.int .i64 i.e.a1):=by rw [a6D,a0F hz];rfl
 have l2:a0c tab g1 ty3 (.ptr z 0 (0+1+2))=some (.int .i64 i.e.a2):=by rw [a6D,a0F hz];rfl
 have l3:a0c tab g1 ty3 (.ptr z 0 (0+1+3))=some (.int .i64 i.e.a3):=by rw [a6D,a0F hz];rfl
 have l4:a0c tab g1 a1j (.ptr z 0 (0+1+4))=some i.e.ld:=by rw [a7b,a0F hz];rfl
 have lI:a0c tab g1 a0n (.ptr w 0 (0+0))=some (.agg [dm,dt]):=by rw [a4F,a0F W1.row];rfl
 have hmk:=c9p ms dm dt i.e.a0 i.e.a1 g1 W1.mr.rd (by omega) W.ma
 unfold b3z
 generalize hM:a1s ms i.e.a0 i.e.a1=m at hmk
 have hsm:∀ {g2 g3:Hp},Same w g2 g3→(∀ q,q<n0→g2[q]?=g[q]?)→∀ q,q<n0→g3[q]?=g[q]?:=fun s h q hq=>(s.2 q (by omega)).trans (h q hq)
 have h1b:∀ q,q<n0→g1[q]?=g[q]?:=fun q hq=>hold q (by omega)
 simp only [bs,a2I,a9I,a9J,a5v,a7O,a2c,l0,l1,l2,l3,l4,a0s,a6d,lI,hmk,a2L i.e.hld,a2u]
 refine Wp.chk trivial ?_
 refine Wp.dif ?_ ?_
 ·intro hle2
  have hle2:i.e.a3≤m:=by simpa using hle2
  have hO:tkO m i=some none:=by unfold tkO;rw [if_pos hle2]
  obtain ⟨dt',g2,e2,q2,hd2,s2⟩:=c4U W1.row W1.tl.rd (by omega) W.ta i.e.a0 a6z (i.e.ls.length:Int)
  have e2:R a6i [.ptr w 0 0,.int .i64 i.e.a0,.str [42],.int .i64 i.e.ls.length] g1=some (.tup [],g2):=e2
  refine Wp.step e2 ?_
  simp only [bs,a0j]
  refine .some ⟨true,rfl,by have:=s2.1;show z≤g2.length;omega,hsm s2 h1b,?_⟩
  rw [hO]
  exact ⟨rfl,dt',W1.chg W1.row (by decide) (by decide) (by decide) s2 q2 (.inl hd2) (a3k W.ta _ _ _)⟩
 intro hle2
 have hle2:¬ i.e.a3≤m:=by simpa using hle2
 simp only [bs,a0x]
 refine Wp.dif ?_ ?_
 ·intro hgt
  have hgt:m<i.e.a2:=by simpa using hgt
  have hO:tkO m i=none:=by unfold tkO;rw [if_neg hle2,if_pos hgt]
  simp only [bs,a0j]
  refine .some ⟨false,rfl,by show z≤g1.length;omega,h1b,?_⟩
  rw [hO]
 intro hgt
 have hgt:¬ m<i.e.a2:=by simpa using hgt
 simp only [bs,a0o]
 -- the lines before the mark
 refine Wp.join (P:=fun r=>(∃ (g2:Hp) (a b c:D),r=(.ret,[.bool false,a,b,c],g2)∧g.length≤g2.length∧(∀ q,q<n0→g2[q]?=g[q]?)∧tkO m i=none) ∨
   (∃ g2 j k dt' a b c,r=(.nrm,[.bool false,a,b,c],g2)∧g.length≤g2.length∧(∀ q,q<n0→g2[q]?=g[q]?)∧tkO m i=some (some k)∧CutOf i m k j∧g2[z]?=some (.row a0z 11 [itr j])∧WkI n0 w g2 ms (a3g ts i.e.a0 a6z (k:Nat)) evs dm dt' de)) ?_ ?_ ?_
 ·intro hlt2
  have hlt2:i.e.a2<m:=by simpa using hlt2
  obtain ⟨j,ec,hc⟩:=c9n i m g1 (by omega) (by omega)
  simp only [c4u hz,bs]
  refine Wp.step ec ?_
  simp only [bs,a0I,e0k,e0l,b0G,a1A]
  generalize hK:idx (fun l:Lin=>decide (l.off=m)) 0 i.e.ls=kk at hc
  have hkr:=a6l (fun l:Lin=>decide (l.off=m)) i.e.ls 0
  rw [hK] at hkr
  refine Wp.dif ?_ ?_
  ·intro hk1
   have hk1:kk<1:=by simpa using hk1
   try simp only [bs]
   exact .some (.inl ⟨g1,_,_,_,rfl,by omega,h1b,by unfold tkO;rw [if_neg hle2,if_neg hgt,if_pos hlt2,hK,if_pos hk1]⟩)
  ·intro hk1
   have hk1:¬ kk<1:=by simpa using hk1
   rw [if_neg hk1] at hc
   have hkn:kk<i.e.ls.length:=by
    rcases hkr with h | ⟨_,h⟩
    ·exact absurd h hk1
    ·simpa using h
   simp only [b2w,bs,e0h]
   refine b5h hz rfl fun g2 hz2 s2=>?_
   have hwz:w≠z:=a2T W1.row hz (by decide)
   have W2:=W1.chg0 hz (by decide) (by decide) (by decide) (by decide) s2 ((s2.2 w hwz).trans W1.row)
   have h2b:∀ q,q<n0→g2[q]?=g[q]?:=fun q hq=>(s2.2 q (by omega)).trans (h1b q hq)
   have l5:a0c tab g2 a1j (.ptr z 0 (0+1+4))=some j.e.ld:=by rw [a7b,a0F hz2];rfl
   have hjl:j.e.ls.length=i.e.ls.length - kk.toNat:=by rw [hc.ls,e0B]
   have hw3:IntKind.wrap .i64 ((i.e.ls.length:Int) - (j.e.ls.length:Int))=((kk.toNat:Nat):Int):=by
    rw [wrap_i64 (by omega) (by omega)];omega
   obtain ⟨dt',g3,e3,q3,hd3,s3⟩:=c4U W2.row W2.tl.rd (by omega) W.ta i.e.a0 a6z (kk.toNat:Int)
   have e3:R a6i [.ptr w 0 0,.int .i64 i.e.a0,.str [42],.int .i64 (kk.toNat:Int)] g2=some (.tup [],g3):=e3
   simp only [bs,a2I,a2c,l5,a2L j.e.hld,a0N,hw3]
   refine Wp.step e3 ?_
   have W3:=W2.chg W2.row (by decide) (by decide) (by decide) s3 q3 (.inl hd3) (a3k W.ta _ _ _)
   refine .some (.inr ⟨g3,j,kk.toNat,dt',_,_,_,rfl,by have:=s3.1;have:=s2.1;omega,hsm s3 h2b,by unfold tkO;rw [if_neg hle2,if_neg hgt,if_pos hlt2,hK,if_neg hk1],hc,(s3.2 z (Ne.symm hwz)).trans hz2,W3⟩)
 ·intro hlt2
  have hlt2:¬ i.e.a2<m:=by simpa using hlt2
  have ha:a3g ts i.e.a0 a6z ((0:Nat):Int)=ts:=by simp [-bind_some, a3g]
  refine .some (.inr ⟨g1,i,0,dt,_,_,_,rfl,by omega,h1b,by unfold tkO;rw [if_neg hle2,if_neg hgt,if_neg hlt2],⟨rfl,rfl,rfl,by omega,rfl,rfl,rfl,rfl,rfl,by simp,rfl⟩,hz,by rw [ha];exact W1⟩)
 rintro _ (⟨g2,a,b,c,rfl,hl2,h2b,hO⟩ | ⟨g2,j,k,dt',a,b,c,rfl,hl2,h2b,hO,hc,hz2,W2⟩)
 ·simp only [a2t,a2m,a2H,a0e,bs,a0j]
  refine .some ⟨false,rfl,by show z≤g2.length;omega,h2b,?_⟩
  rw [hO]
 have lJ:a0c tab g2 a0E (.ptr w 0 (0+0+0))=some dm:=by rw [b2x,a0F W2.row];rfl
 have hal:=a2W ts i.e.a0 a6z (k:Nat)
 simp only [a1u,a0k,a0e,bs,a7M,lJ,e0h]
 refine d0c ?_ (c4D W2 hlm i.e.a0 i.e.a1 i.e.a3 hz2 (f:=fun g' =>
  (a0c tab g' ty9 (.ptr z 0 (0+0))).bind fun t113 =>
  (a0c tab g' a1j (.ptr z 0 (0+1+4))).bind fun t116 =>
  (a0t tab a1j t116).bind fun t117 =>
  (R a6i [.ptr w 0 0,.int .i64 i.e.a0,t113,t117] g').bind fun p118 =>
  (a0c tab p118.2 ty9 (.ptr z 0 (0+0))).bind fun t120 =>
  (a0i tab .eql ty9 t120 (.str [])).bind fun t121 =>
  (dIf t121
   ((a0a tab a0z 1 (.ptr z 0 0)).bind fun t122 =>
  (a0c tab p118.2 a0y t122).bind fun t123 =>
  (some ((.ptr p118.2.length 0 0:D),a0C p118.2 a0y 10 [[.int .i64 0,.int .i64 0,.int .i64 0,.int .i64 0,.nils,.int .i64 0,.int .i64 0,.str [],.str [],.nils]])).bind fun p14 =>
  ((a0p tab p14.2 a0y p14.1 t123).bind fun h'=>some ((.und:D),h')).bind fun p903 =>
  (a0a tab a0y 4 p14.1).bind fun t124 =>
  (a0c tab p903.2 a1j t124).bind fun t125 =>
  (R a8F [t125] p903.2).bind fun p126 =>
  (a0a tab a0y 9 p14.1).bind fun t127 =>
  (a0c tab p126.2 a1p t127).bind fun t128 =>
  (R a7R [t128] p126.2).bind fun p129 =>
  (a0a tab a0y 4 p14.1).bind fun t130 =>
  chk (a0c tab p903.2 a1p t127=some t128)
  (((a0p tab p129.2 a1j t130 p126.1).bind fun h'=>some ((.und:D),h')).bind fun p907 =>
  (a0a tab a0y 9 p14.1).bind fun t131 =>
  ((a0p tab p907.2 a1p t131 p129.1).bind fun h'=>some ((.und:D),h')).bind fun p909_1 =>
  (a0a tab a1o 1 (.ptr w 0 0)).bind fun t135 =>
  (a0c tab p909_1.2 a3f t135).bind fun t136 =>
  (a0c tab p909_1.2 a0y p14.1).bind fun t137 =>
  (a0W tab a3f 1 [0] [t137]).bind fun t138 =>
  (a0q tab p909_1.2 a3f a3f t136 t138).bind fun p139 =>
  (a0a tab a1o 1 (.ptr w 0 0)).bind fun t141 =>
  ((a0p tab p139.2 a3f t141 p139.1).bind fun h'=>some ((.und:D),h')).bind fun p910 =>
  some (Ex.nrm,[p14.1],p910.2)))
   (some (Ex.nrm,[D.any],p118.2))).bind fun r_2=>a0K r_2.1 (some (D.bool true,r_2.2.2)) fun x=>a1c x (some (D.bool false,r_2.2.2))) (E:=fun r x=>a1c x (some (D.bool false,r.2.2))) ?_)
 ·simp only [bs,e0h,a0s,a6d,a7N,a7M,a9K,a2I,a2c,a4a,Nat.zero_add,Nat.add_zero,a0j]
 ·intro g3 dm' W3 hz3 hl3 h3b
  have r0:a0c tab g3 ty9 (.ptr z 0 (0+0))=some (.str j.r):=by rw [b0x,a0F hz3];rfl
  have r4:a0c tab g3 a1j (.ptr z 0 (0+1+4))=some j.e.ld:=by rw [a7b,a0F hz3];rfl
  obtain ⟨dt2,g4,e4,q4,hd4,s4⟩:=c4U W3.row W3.tl.rd (by omega) W3.ta i.e.a0 j.r (j.e.ls.length:Int)
  have W4:=W3.chg W3.row (by decide) (by decide) (by decide) s4 q4 (.inl hd4) (a3k W3.ta _ _ _)
  have hwz:w≠z:=a2T W3.row hz3 (by decide)
  have hz4:=(s4.2 z (Ne.symm hwz)).trans hz3
  have r5:a0c tab g4 ty9 (.ptr z 0 (0+0))=some (.str j.r):=by rw [b0x,a0F hz4];rfl
  have hjl:j.e.ls.length≤i.e.ls.length:=by rw [hc.ls,e0B];omega
  have hjf:j.e.fs.length≤1000:=by rw [hc.fs];exact hf
  have h4b:∀ q,q<n0→g4[q]?=g[q]?:=fun q hq=>(s4.2 q (by omega)).trans ((h3b q hq).trans (h2b q hq))
  have hl4:g.length≤g4.length:=by have:=s4.1;omega
  simp only [r0,r4,a2L j.e.hld,e4,r5,bs,a1E]
  refine Wp.join (P:=fun r=>∃ (g5:Hp) (a de':D) (evs':List (Ev × D)),r=(.nrm,[a],g5)∧g.length≤g5.length∧(∀ q,q<n0→g5[q]?=g[q]?)∧WkI n0 w g5 (a5n ms ⟨i.e.a0,i.e.a1,i.e.a3⟩) (a3g (a3g ts i.e.a0 a6z (k:Nat)) i.e.a0 j.r j.e.ls.length) evs' dm' dt2 de'∧if i.r=[] then ∃ d hd x,evs'=evs++[(c2i j.e d hd,x)] else evs'=evs) ?_ ?_ ?_
  ·intro hr
   have hr:i.r=[]:=by rw [← hc.r];simpa using hr
   refine d2P W4 hle hz4 (by omega) hjf (f:=fun p h=>some (Ex.nrm,[p],h)) fun g5 p de' d hd x W5 hl5 h5b=>?_
   exact .some ⟨g5,p,de',_,rfl,by omega,fun q hq=>(h5b q hq).trans (h4b q hq),W5,by rw [if_pos hr];exact ⟨d,hd,x,rfl⟩⟩
  ·intro hr
   have hr:¬ i.r=[]:=by rw [← hc.r];simpa using hr
   exact .some ⟨g4,_,de,evs,rfl,hl4,h4b,W4,by rw [if_neg hr]⟩
  rintro _ ⟨g5,a',de',evs',rfl,hl5,h5b,W5,hev⟩
  simp only [a0k]
  refine .some ⟨true,rfl,by show z≤g5.length;omega,h5b,?_⟩
  rw [hO]
  rw [hc.r] at W5
  exact ⟨rfl,j,dm',dt2,de',evs',hc,W5,hev⟩
structure EvQ (a b:Ev):Prop where
 a0:a.a0=b.a0
 a1:a.a1=b.a1
 a2:a.a2=b.a2
 a3:a.a3=b.a3
 a5:a.a5=b.a5
 a6:a.a6=b.a6
 s7:a.s7=b.s7
 s8:a.s8=b.s8
 ls:a.ls=b.ls
 fs:a.fs=b.fs
def apS:List Mrk→List Tal→List It→Option (List Mrk × List Tal)
 | ms,ts,[]=>some (ms,ts)
 | ms,ts,i::r=>match tkO (a1s ms i.e.a0 i.e.a1) i with
  | none=>none
  | some none=>apS ms (a3g ts i.e.a0 a6z i.e.ls.length) r
  | some (some k)=>apS (a5n ms ⟨i.e.a0,i.e.a1,i.e.a3⟩) (a3g (a3g ts i.e.a0 a6z (k:Nat)) i.e.a0 i.r ((i.e.ls.length - k:Nat):Int)) r
def apE:List Mrk→List It→List Ev→Prop
 | ms,[],es=>es=[]
 | ms,i::r,es=>match tkO (a1s ms i.e.a0 i.e.a1) i with
  | none=>True
  | some none=>apE ms r es
  | some (some k)=>∃ j,CutOf i (a1s ms i.e.a0 i.e.a1) k j∧if i.r=[] then ∃ e es',es=e::es'∧EvQ e j.e∧apE (a5n ms ⟨i.e.a0,i.e.a1,i.e.a3⟩) r es' else apE (a5n ms ⟨i.e.a0,i.e.a1,i.e.a3⟩) r es
theorem a2X (ms:List Mrk) (ts:List Tal) (i:It) (r:List It):apS ms ts (i::r)=match tkO (a1s ms i.e.a0 i.e.a1) i with
  | none=>none
  | some none=>apS ms (a3g ts i.e.a0 a6z i.e.ls.length) r
  | some (some k)=>apS (a5n ms ⟨i.e.a0,i.e.a1,i.e.a3⟩) (a3g (a3g ts i.e.a0 a6z (k:Nat)) i.e.a0 i.r ((i.e.ls.length - k:Nat):Int)) r:=rfl
theorem c8h {h:Hp} {n0 n1 n:Nat} {l:List Mrk} {d:D} (hd:MkD h n1 l d) (hn:n0≤n1):SlOf 3 a1K l (frz n0 h (n+1) d):=by
 rcases hd with ⟨rfl,rfl | rfl⟩ | ⟨ob,h1,rfl,h3⟩
 ·exact .nils _ _
 ·exact .inr ⟨true,rfl⟩
 ·have ow:Own h n1 a0Q 3 (l.map a1K) (.msl 3 ob 0 l.length) := .inr ⟨ob,h1,by simp,h3⟩
  exact a1R ow hn (fun a _=>a4X _ h _ a)
theorem c8j {h:Hp} {n0 n1 n:Nat} {l:List Tal} {d:D} (hd:TlD h n1 l d) (hn:n0≤n1):SlOf 3 a1F l (frz n0 h (n+1) d):=by
 rcases hd with hd | ⟨ob,h1,rfl,h3⟩
 ·rw [a1P hd (fun a _=>a2P _ h _ a)];exact hd
 ·have ow:Own h n1 a1k 3 (l.map a1F) (.msl 3 ob 0 l.length) := .inr ⟨ob,h1,by simp,h3⟩
  exact a1R ow hn (fun a _=>a2P _ h _ a)
theorem c2j {g:Hp} {n0 n1:Nat} (hn:n0≤n1):∀ (evs:List (Ev × D)),(∀ p∈evs,LvF g n1 p.1.fs p.2)→∃ l:List Ev,l.map evr=(evs.map evl).map (fun row=>row.map (frz n0 g 2))∧l.length=evs.length∧∀ (k:Nat) e p,l[k]?=some e→evs[k]?=some p→EvQ e p.1
 | [],_=>⟨[],rfl,rfl,by simp⟩
 | p::r,hp=>by
  obtain ⟨l,h1,h2,h3⟩:=c2j hn r fun q hq=>hp q (by simp [-bind_some, hq])
  have hsl:=(hp p (by simp)).frz (n:=1) hn
  have hf:=a1P (n0:=n0) (h:=g) (n:=1) p.1.hld (fun a _=>a3c _ g _ a)
  refine ⟨{ p.1 with fd:=frz n0 g 2 p.2,hfd:=hsl }::l,?_,by simp [-bind_some, h2],fun k e q he hq=>?_⟩
  ·simp only [e0p,h1]
   congr 1
   simp only [evl,e0p,e0q,a4B,b2n,hf]
   rfl
  ·cases k with
   | zero =>
    simp at he hq
    subst he;subst hq
    exact ⟨rfl,rfl,rfl,rfl,rfl,rfl,rfl,rfl,rfl,rfl⟩
   | succ k=>exact h3 k e q (by simpa using he) (by simpa using hq)
def d6Z (es:List Ev) (evs:List (Ev × D)):Prop:=es.length=evs.length∧∀ (k:Nat) e p,es[k]?=some e→evs[k]?=some p→EvQ e p.1
def a4w (ms:List Mrk) (ts:List Tal) (dm dt:D) (its:List It) (x:D):Prop :=
 match apS ms ts its with
 | none=>x = .tup [.agg [dm,dt],.nils,.int .i64 23]
 | some (ms',ts')=>∃ dm' dt' de es,x = .tup [.agg [dm',dt'],de,.int .i64 0]∧SlOf 3 a1K ms' dm'∧SlOf 3 a1F ts' dt'∧SlOf 10 evr es de∧apE ms its es∧es.length≤its.length
theorem c9E {b:Bat} (hbn:b.its.length≤40) (hit:∀ i∈b.its,i.e.ls.length≤1000∧i.e.fs.length≤1000) (hck0:∀ g,R b1i [.agg (a3H b)] g=some (.int .i64 0,g)) {ms:List Mrk} {ts:List Tal} {dm0 dt0:D} (h:Hp) (hm:SlOf 3 a1K ms dm0) (ht:SlOf 3 a1F ts dt0) (hma:a6v ms) (hta:a6M ts) (hml:ms.length≤10000) (htl:ts.length≤10000) :
  ∃ x,R b1h [.agg [dm0,dt0],.agg (a3H b)] h=some (x,h)∧a4w ms ts dm0 dt0 b.its x:=by
 suffices Wp (R b1h [.agg [dm0,dt0],.agg (a3H b)] h) (fun p=>p.2=h∧a4w ms ts dm0 dt0 b.its p.1) by
  obtain ⟨⟨x,h'⟩,h1,rfl,h2⟩:=this
  exact ⟨x,h1,h2⟩
 rw [d1X]
 have hbl:∀ g:Hp,a0c tab g a0u (.fptr (a3H b))=some (.agg (a3H b)):=fun g=>id rfl
 have hp0:(a0C h a0n 2 [[.nils,.nils]])[h.length]?=some (.row a0n 2 [[.nils,.nils]]):=a0Z _ _ _ _
 have hpl:(a0C h a0n 2 [[.nils,.nils]]).length=h.length+1:=by simp [-bind_some, a0C]
 have hpo:∀ q,q<h.length→(a0C h a0n 2 [[.nils,.nils]])[q]?=h[q]?:=fun q hq=>a0H _ _ _ _ hq
 generalize hP4:((D.ptr h.length 0 0,a0C h a0n 2 [[.nils,.nils]]):D × Hp)=p4
 have hp1:p4.1 = .ptr h.length 0 0:=by rw [← hP4]
 have hp2:p4.2=a0C h a0n 2 [[.nils,.nils]]:=by rw [← hP4]
 generalize a0C h a0n 2 [[.nils,.nils]]=g0 at hp0 hpl hpo hp2
 have hck:=hck0 g0
 obtain ⟨dm,g1,e1,l1,b1,d1⟩:=d6S ms dm0 g0 hm (by omega)
 obtain ⟨dt,g2,e2,l2,b2,d2⟩:=u79 ts dt0 g1 ht (by omega)
 have hmk:MkD g2 (h.length+1) ms dm:=by
  rcases d1 with h | ⟨ob,a,b,c⟩
  ·exact .inl h
  ·exact .inr ⟨ob,by omega,b,(b2 ob (e0y.1 c).1).trans c⟩
 have htd:TlD g2 (h.length+1) ts dt:=by
  rcases d2 with ⟨rfl,rfl | rfl⟩ | ⟨ob,a,b,c⟩
  ·exact .inl (.nils _ _)
  ·exact .inl (.inr ⟨true,rfl⟩)
  ·exact .inr ⟨ob,by omega,b,c⟩
 have f0:∀ g:Hp,a0a tab a0n 0 (.fptr [dm0,dt0])=some (.fptr [dm0,dt0]):=fun g=>id rfl
 have f1:a0a tab a0n 1 (.fptr [dm0,dt0])=some (.fptr [dt0]):=id rfl
 have k0:∀ g:Hp,a0c tab g a0E (.fptr [dm0,dt0])=some dm0:=fun g=>id rfl
 have k1:∀ g:Hp,a0c tab g a1C (.fptr [dt0])=some dt0:=fun g=>id rfl
 have k2:∀ g:Hp,a0c tab g a0n (.fptr [dm0,dt0])=some (.agg [dm0,dt0]):=fun g=>id rfl
 have q2:a0a tab a0u 2 (.fptr (a3H b))=some (.fptr [b.d]):=id rfl
 have hbd:a0U tab a0n [0,1] [dm,dt]=some (.agg [dm,dt]):=b5u dm dt hmk.one htd.one
 simp only [c6C,a0V,bs,hP4,hp2,hbl,hck,a0A,ne_eq,not_true,decide_false,a0d,e0i,if_false,f0 h,k0,e1,f1,k1,e2,hbd,c0f,q2,e0h]
 rw [a3l a1o 3 g2 [dm,dt,.nils] rfl (by omega)]
 have hold:∀ q,q<g2.length→(a0C g2 a1o 3 [[dm,dt,.nils]])[q]?=g2[q]?:=fun q hq=>a0H _ _ _ _ hq
 have hw:(a0C g2 a1o 3 [[dm,dt,.nils]])[g2.length]?=some (.row a1o 3 [[dm,dt,.nils]]):=a0Z _ _ _ _
 have hwl:(a0C g2 a1o 3 [[dm,dt,.nils]]).length=g2.length+1:=by simp [-bind_some, a0C]
 have W0:WkI (h.length+1) g2.length (a0C g2 a1o 3 [[dm,dt,.nils]]) ms ts [] dm dt .nils:=by
  have lt:∀ {q:Nat} {ob:Ob},g2[q]?=some ob→q<g2.length:=fun hq=>(e0y.1 hq).1
  refine ⟨by omega,by omega,hw,?_,?_,Own.nils _ _ _ _,by simp,hma,hta⟩
  ·exact hmk.imp id fun ⟨ob,a,b,c⟩=>⟨ob,a,b,(hold ob (lt c)).trans c⟩
  ·exact htd.imp id fun ⟨ob,a,b,c⟩=>⟨ob,a,b,(hold ob (lt c)).trans c⟩
 have hb3:∀ q,q<h.length+1→(a0C g2 a1o 3 [[dm,dt,.nils]])[q]?=g0[q]?:=fun q hq=>(hold q (by omega)).trans ((b2 q (by omega)).trans (b1 q (by omega)))
 generalize a0C g2 a1o 3 [[dm,dt,.nils]]=g3 at W0 hb3
 generalize g2.length=w at W0
 clear hold hw hwl hmk htd d1 d2 hbd
 simp only [bs,a7W,a4e b.hd]
 refine Wp.chk trivial ?_
 refine Wp.loop (fun k ds g=>∃ (n:Nat) (c a1 a2:D) (ms':List Mrk) (ts':List Tal) (evs:List (Ev × D)) (dm' dt' de:D),ds=[.nils,.int .i64 0,c,.int .i64 n,a1,a2]∧k+n=b.its.length∧WkI (h.length+1) w g ms' ts' evs dm' dt' de∧(∀ q,q<h.length+1→g[q]?=g0[q]?) ∧
   ms'.length≤ms.length+n∧ts'.length≤ts.length+2*n∧evs.length≤n∧apS ms ts b.its=apS ms' ts' (b.its.drop n)∧∀ es es',d6Z es evs→apE ms' (b.its.drop n) es'→apE ms b.its (es++es'))
  (fun r=>(r.1 = .ret∧∃ c a0 a1 a2,r.2.1=[.nils,.int .i64 23,c,a0,a1,a2]∧apS ms ts b.its=none∧h.length≤r.2.2.length∧(∀ q,q<h.length→r.2.2[q]?=h[q]?)∧r.2.2[h.length]?=some (.row a0n 2 [[dm0,dt0]])) ∨
   (r.1 = .ext 0∧∃ (c a0 a1 a2:D) (ms':List Mrk) (ts':List Tal) (evs:List (Ev × D)) (dm' dt' de:D),r.2.1=[.nils,.int .i64 0,c,a0,a1,a2]∧WkI (h.length+1) w r.2.2 ms' ts' evs dm' dt' de∧(∀ q,q<h.length+1→r.2.2[q]?=g0[q]?)∧evs.length≤b.its.length∧apS ms ts b.its=some (ms',ts')∧∀ es,d6Z es evs→apE ms b.its es))
  b.its.length ⟨0,_,_,_,ms,ts,[],dm,dt,.nils,rfl,rfl,W0,hb3,by omega,by omega,by simp,rfl,fun es es' hq he=>by
   have:es=[]:=List.eq_nil_of_length_eq_zero (by simpa using hq.1)
   subst this
   exact he⟩ ?_ ?_
 ·rintro k ds g ⟨n,c,a1,a2,ms',ts',evs,dm',dt',de,rfl,hk,W,hbb,hlm,hlt,hle,hap,hev⟩
  simp only [b3i,a0e,a0m,bs,e0h,a0o]
  refine Wp.dif ?_ ?_
  ·intro h0
   have h0:n<b.its.length:=dl_ h0
   obtain ⟨i,hi⟩:=gx_ h0
   have hdr:b.its.drop n=i::b.its.drop (n+1):=by
    rw [List.drop_eq_getElem_cons h0]
    have:=(e0y.1 hi).2
    rw [this]
   obtain ⟨hn6,hf4⟩:=hit i (e0w hi)
   have hwn:=wi_ n (by omega)
   have hii:a0b tab a0S b.d (.int .i64 (n:Int))=some (.fptr (itr i)):=by rw [a6T b.hd];simp [-bind_some, hi]
   obtain ⟨bb,g',et,hl',hb',hp⟩:=d6i W (by omega) (by omega) (by omega) i (by omega) (by omega)
   simp only [hii,b2w,b0G,bs]
   refine Wp.step et ?_
   simp only [bs,a1A]
   rw [hdr] at hap hev
   unfold b3z at hp
   rw [a2X] at hap
   cases hO:tkO (a1s ms' i.e.a0 i.e.a1) i with
   | none =>
    rw [hO] at hp hap
    subst hp
    simp only [e0t,a0d,if_true,k2,hp1,bs,e0h]
    have hq0:g'[h.length]?=some (.row a0n 2 [[.nils,.nils]]):=(hb' _ (by omega)).trans ((hbb _ (by omega)).trans hp0)
    have hok:(D.agg [dm0,dt0]).okv=true:=by
     have o1:=a0X hm
     have o2:=a0X ht
     clear f0 f1 k0 k1 k2 e1 e2 hm ht
     cases dm0 <;> first | (cases dt0 <;> first | rfl | (simp [-bind_some, D.one] at o2)) | (simp [-bind_some, D.one] at o1)
    refine a4k hq0 (by rfl) (by rfl) (by simp) hok fun g4 q4 s4=>?_
    replace q4:g4[h.length]?=some (.row a0n 2 [[dm0,dt0]]):=q4
    try simp only [bs]
    exact .some (.inr ⟨by simp,.inl ⟨rfl,_,_,_,_,rfl,hap,by have:=s4.1;have:=W.len;show h.length≤g4.length;omega,fun q hq=>(s4.2 q (by omega)).trans ((hb' q (by omega)).trans ((hbb q (by omega)).trans (hpo q hq))),q4⟩⟩)
   | some o =>
    have hbt:bb=true:=by
     rw [hO] at hp
     cases o with
     | none=>exact hp.1
     | some k=>exact hp.1
    subst hbt
    simp only [e0s,a0d,e0i,if_false,a0r,bs,hwn]
    cases o with
    | none =>
     rw [hO] at hp hap
     obtain ⟨_,dt2,W2⟩:=hp
     have hal:=a2W ts' i.e.a0 a6z i.e.ls.length
     refine .some (.inl ⟨rfl,k - 1,by omega,n+1,_,_,_,ms',_,evs,dm',dt2,de,rfl,by omega,W2,fun q hq=>(hb' q hq).trans (hbb q hq),by omega,by omega,by omega,hap,fun es es' hq he=>hev es es' hq ?_⟩)
     unfold apE
     rw [hO]
     exact he
    | some kk =>
     rw [hO] at hp hap
     obtain ⟨_,j,dm2,dt2,de2,evs2,hc,W2,he2⟩:=hp
     have hjl:j.e.ls.length=i.e.ls.length - kk:=by rw [hc.ls,e0B]
     rw [hjl] at W2
     have hal:=a2W ts' i.e.a0 a6z (kk:Nat)
     have hal2:=a2W (a3g ts' i.e.a0 a6z (kk:Nat)) i.e.a0 i.r ((i.e.ls.length - kk:Nat):Int)
     have hsl:=a7v ms' ⟨i.e.a0,i.e.a1,i.e.a3⟩
     by_cases hr:i.r=[]
     ·rw [if_pos hr] at he2
      obtain ⟨d,hd,x,rfl⟩:=he2
      refine .some (.inl ⟨rfl,k - 1,by omega,n+1,_,_,_,_,_,_,dm2,dt2,de2,rfl,by omega,W2,fun q hq=>(hb' q hq).trans (hbb q hq),by omega,by omega,by simp;omega,hap,fun es es' hq he=>?_⟩)
      obtain ⟨hql,hqe⟩:=hq
      simp only [e0m,e0z,e0A] at hql
      have hes:es≠[]:=by rintro rfl;simp at hql
      obtain ⟨es0,e,rfl⟩:∃ es0 e,es=es0++[e]:=⟨es.dropLast,es.getLast hes,(List.dropLast_concat_getLast hes).symm⟩
      simp only [e0m,e0z,e0A] at hql
      have hlen0:es0.length=evs.length:=by omega
      rw [List.append_assoc]
      refine hev es0 _ ⟨hlen0,fun k a p ha hp=>?_⟩ ?_
      ·have h1:=(e0y.1 ha).1
       have h2:=(e0y.1 hp).1
       exact hqe k a p (by rw [e0H h1];exact ha) (by rw [e0H h2];exact hp)
      ·unfold apE
       rw [hO]
       refine ⟨j,hc,?_⟩
       rw [if_pos hr]
       have:=hqe evs.length e (c2i j.e d hd,x) (by rw [List.getElem?_append_right (by omega),hlen0];simp [-bind_some]) (by rw [List.getElem?_append_right (by omega)];simp [-bind_some])
       exact ⟨e,es',rfl,⟨this.a0,this.a1,this.a2,this.a3,this.a5,this.a6,this.s7,this.s8,this.ls,this.fs⟩,he⟩
     ·rw [if_neg hr] at he2
      subst he2
      refine .some (.inl ⟨rfl,k - 1,by omega,n+1,_,_,_,_,_,_,dm2,dt2,de2,rfl,by omega,W2,fun q hq=>(hb' q hq).trans (hbb q hq),by omega,by omega,by omega,hap,fun es es' hq he=>hev es es' hq ?_⟩)
      unfold apE
      rw [hO]
      refine ⟨j,hc,?_⟩
      rw [if_neg hr]
      exact he
  ·intro h0
   have h0:n=b.its.length:=by
    have:¬ (n:Int)<b.its.length:=by simpa using h0
    omega
   subst h0
   rw [List.drop_length] at hap hev
   refine .some (.inr ⟨by simp,.inr ⟨rfl,_,_,_,_,ms',ts',evs,dm',dt',de,rfl,W,hbb,hle,hap,fun es hq=>?_⟩⟩)
   have:=hev es [] hq rfl
   rwa [List.append_nil] at this
 ·rintro ⟨ex,ds,g⟩ (⟨q1,c,a0,a1,a2,q2',hap,hl,hbb,hq⟩ | ⟨q1,c,a0,a1,a2,ms',ts',evs,dm',dt',de,q2',W,hbb,hle,hap,hev⟩)
  ·simp only at q1 q2' hl hbb hq
   subst q1;subst q2'
   have lq:a0c tab g a0n (.ptr h.length 0 0)=some (.agg [dm0,dt0]):=by rw [a4F,a0F hq];rfl
   simp only [a2t,a2m,a2H,a0e,a0m,bs,hp1,lq,a1d]
   have hfz:frz h.length g 4 (.tup [.agg [dm0,dt0],.nils,.int .i64 23]) = .tup [.agg [dm0,dt0],.nils,.int .i64 23]:=by
    have z1:=a1P (n0:=h.length) (h:=g) (n:=1) hm (fun a _=>a4X _ g _ a)
    have z2:=a1P (n0:=h.length) (h:=g) (n:=1) ht (fun a _=>a2P _ g _ a)
    simp only [a6A,a5x,e0p,e0q,z1,z2,a9Q,a4B]
   rw [a0M hfz (.tup _ fun d hd=>by
    simp at hd
    rcases hd with rfl | rfl | rfl
    ·refine .agg _ fun d hd=>?_
     simp at hd
     rcases hd with rfl | rfl
     ·exact a1b hm fun a _=>a6E _ a
     ·exact a1b ht fun a _=>a3t _ a
    ·constructor
    ·constructor) hl hbb]
   refine .some ⟨rfl,?_⟩
   unfold a4w
   rw [hap]
  ·simp only at q1 q2' W hbb
   subst q1;subst q2'
   have w1:a0c tab g a0n (.ptr w 0 (0+0))=some (.agg [dm',dt']):=by rw [a4F,a0F W.row];rfl
   have w2:a0c tab g a3f (.ptr w 0 (0+2))=some de:=by rw [c4x,a0F W.row];rfl
   have hq0:g[h.length]?=some (.row a0n 2 [[.nils,.nils]]):=(hbb _ (by omega)).trans hp0
   have hok:(D.agg [dm',dt']).okv=true:=by
    have o1:=W.mr.one
    have o2:=W.tl.one
    clear w1 W
    cases dm' <;> first | (cases dt' <;> first | rfl | (simp [-bind_some, D.one] at o2)) | (simp [-bind_some, D.one] at o1)
   have hwn:=W.wn
   simp only [a0l,a0k,a0e,a0m,bs,hp1,a0s,a6d,a7N,w1,w2,e0h]
   refine a4k hq0 (by rfl) (by rfl) (by simp) hok fun g4 q4 s4=>?_
   replace q4:g4[h.length]?=some (.row a0n 2 [[dm',dt']]):=q4
   have w3:a0c tab g4 a3f (.ptr w 0 (0+2))=some de:=by rw [c4x,a0F ((s4.2 w (by omega)).trans W.row)];rfl
   have lq:a0c tab g4 a0n (.ptr h.length 0 0)=some (.agg [dm',dt']):=by rw [a4F,a0F q4];rfl
   simp only [w3,bs]
   refine Wp.chk trivial ?_
   simp only [lq,bs,a1d]
   have W4:=W.chg0 hq0 (by decide) (by decide) (by decide) (by decide) s4 ((s4.2 w (by omega)).trans W.row)
   obtain ⟨l,e1',e2',e3'⟩:=c2j (g:=g4) (n0:=h.length) (Nat.le_succ _) evs W4.fs
   have hsl:SlOf 10 evr l (frz h.length g4 3 de):=by
    rcases W4.ev with ⟨hx,hr⟩ | ⟨ob,hob,hx,hgo⟩
    ·have:evs=[]:=by simpa using hr
     subst this
     have:l=[]:=List.eq_nil_of_length_eq_zero (by simpa using e2')
     subst this
     rw [hx]
     exact .nils _ _
    ·right
     refine ⟨false,?_⟩
     rw [hx,a9P (by omega) hgo]
     simp only [List.drop_zero,e0G,e1']
   have z1:=c8h (n0:=h.length) (n:=1) W4.mr (Nat.le_succ _)
   have z2:=c8j (n0:=h.length) (n:=1) W4.tl (Nat.le_succ _)
   have hfz:frz h.length g4 4 (.tup [.agg [dm',dt'],de,.int .i64 0]) = .tup [.agg [frz h.length g4 2 dm',frz h.length g4 2 dt'],frz h.length g4 3 de,.int .i64 0]:=by
    simp only [a6A,a5x,e0p,e0q,a4B]
   rw [a0M hfz (.tup _ fun d hd=>by
    simp at hd
    rcases hd with rfl | rfl | rfl
    ·refine .agg _ fun d hd=>?_
     simp at hd
     rcases hd with rfl | rfl
     ·exact a1b z1 fun a _=>a6E _ a
     ·exact a1b z2 fun a _=>a3t _ a
    ·exact a1b hsl fun a _=>b3S _ a
    ·constructor) (by have:=s4.1;have:=W.len;omega) (fun q hq=>(s4.2 q (by omega)).trans ((hbb q (by omega)).trans (hpo q hq)))]
   refine .some ⟨rfl,?_⟩
   unfold a4w
   rw [hap]
   exact ⟨_,_,_,l,rfl,z1,z2,hsl,hev l ⟨e2',e3'⟩,by omega⟩
theorem c4o (m:Tal) (l:List Tal):∀ x∈l.take (kT m l),kl x m:=by
 intro x hx
 obtain ⟨i,hi⟩:=List.getElem?_of_mem hx
 have hlt:=(e0y.1 hi).1
 rw [e0C] at hlt
 rw [List.getElem?_take,if_pos (by omega)] at hi
 exact (a3E _ _).1 (b8e m l i x hi (by omega))
theorem c8Y {a b:Tal} (h:kl a b) (h1:a.h=b.h) (h2:a.r=b.r):False:=by
 have:=(a3E a b).2 h
 have:=(a3Z a b).2 ⟨h1,h2⟩
 omega
theorem c8y (key:Tal) (l:List Tal) (hs:a6M l) (x:Tal) (hx:x∈l) (h1:x.h=key.h) (h2:x.r=key.r):l[kT key l]?=some x:=by
 have hx':x∈l.drop (kT key l):=by
  rw [← List.take_append_drop (kT key l) l] at hx
  rcases e0E.1 hx with h | h
  ·exact (c8Y (c4o key l x h) h1 h2).elim
  ·exact h
 obtain ⟨i,hi⟩:=List.getElem?_of_mem hx'
 rw [List.getElem?_drop] at hi
 rcases Nat.eq_zero_or_pos i with rfl | hi0
 ·rw [Nat.add_zero] at hi;exact hi
 ·exfalso
  have hl:=(e0y.1 hi).1
  have hg:l[kT key l]?=some (l[kT key l]'(by omega)):=e0x (by omega)
  have hlt:kl (l[kT key l]'(by omega)) x:=by
   obtain ⟨g3,g4⟩:=e0y.1 hi
   have:=List.pairwise_iff_getElem.1 hs _ _ (show kT key l<l.length by omega) g3 (by omega)
   rw [g4] at this
   exact this
  have:=c1i key l hs _ _ hg (Nat.le_refl _)
  have h3:kl (l[kT key l]'(by omega)) key:=by
   unfold kl at hlt ⊢
   rw [h1,h2] at hlt
   exact hlt
  have:=(a3E _ _).2 h3
  omega
theorem a5Y (l:List Tal) (hs:a6M l) (h:Int) (r:Str):(∃ x∈l,x.h=h∧x.r=r∧a5h l h r=x.n∧l[kT ⟨h,r,0⟩ l]?=some x)∨((∀ x∈l,¬ (x.h=h∧x.r=r))∧a5h l h r=0∧(∀ x,l[kT ⟨h,r,0⟩ l]?=some x→¬ a5X x ⟨h,r,0⟩=0)):=by
 by_cases hf:∃ x∈l,x.h=h∧x.r=r
 ·left
  obtain ⟨x,hx,h1,h2⟩:=hf
  have hg:=c8y ⟨h,r,0⟩ l hs x hx h1 h2
  have hc:a5X x ⟨h,r,0⟩=0:=(a3Z _ _).2 ⟨h1,h2⟩
  exact ⟨x,hx,h1,h2,by unfold a5h;rw [hg];simp [-bind_some, hc],hg⟩
 ·right
  have hn:∀ x∈l,¬ (x.h=h∧x.r=r):=fun x hx hk=>hf ⟨x,hx,hk⟩
  have hno:∀ x,l[kT ⟨h,r,0⟩ l]?=some x→¬ a5X x ⟨h,r,0⟩=0:=fun x hx hc=>hn x (e0w hx) ((a3Z _ _).1 hc)
  refine ⟨hn,?_,hno⟩
  unfold a5h
  cases hg:l[kT ⟨h,r,0⟩ l]? with
  | none=>rfl
  | some x=>simp [-bind_some, hno x hg]
theorem a5Q (l:List Tal) (hs:a6M l) (hst:Int) (rule:Str) (n:Int) (hn:¬ n<1) (x:Tal):x∈a3g l hst rule n↔x=⟨hst,rule,IntKind.wrap .i64 (a5h l hst rule+n)⟩∨(x∈l∧¬ (x.h=hst∧x.r=rule)):=by
 simp only [a3g,if_neg hn]
 rcases a5Y l hs hst rule with ⟨y,hy,h1,h2,h3,hg⟩ | ⟨hno,h3,hnc⟩
 ·have hc:a5X y ⟨hst,rule,0⟩=0:=(a3Z _ _).2 ⟨h1,h2⟩
  have ha:a5P l hst rule n (kT ⟨hst,rule,0⟩ l)=l.set (kT ⟨hst,rule,0⟩ l) ⟨hst,rule,IntKind.wrap .i64 (a5h l hst rule+n)⟩:=by
   unfold a5P
   rw [hg,h3]
   simp [-bind_some, hc,h1,h2]
  rw [ha]
  generalize hv:(⟨hst,rule,IntKind.wrap .i64 (a5h l hst rule+n)⟩:Tal)=v
  have hk:kT ⟨hst,rule,0⟩ l<l.length:=(e0y.1 hg).1
  generalize kT ⟨hst,rule,0⟩ l=k at hg hk
  constructor
  ·intro hx
   obtain ⟨i,hi⟩:=List.getElem?_of_mem hx
   rw [List.getElem?_set] at hi
   split at hi
   ·rename_i heq
    subst heq
    simp [-bind_some, hk] at hi
    exact .inl hi.symm
   ·rename_i hne
    have hxl:=e0w hi
    refine .inr ⟨hxl,fun hkey=>?_⟩
    have hxy:=b0p hs hxl hy (by rw [hkey.1,h1]) (by rw [hkey.2,h2])
    subst hxy
    obtain ⟨g1,g2⟩:=e0y.1 hg
    obtain ⟨g3,g4⟩:=e0y.1 hi
    rcases Nat.lt_or_gt_of_ne hne with hlt | hlt
    ·have:=List.pairwise_iff_getElem.1 hs _ _ g1 g3 hlt
     rw [g2,g4] at this;exact b8f _ this
    ·have:=List.pairwise_iff_getElem.1 hs _ _ g3 g1 hlt
     rw [g2,g4] at this;exact b8f _ this
  ·rintro (rfl | ⟨hx,hkey⟩)
   ·exact List.mem_iff_getElem?.2 ⟨k,by rw [List.getElem?_set_self hk]⟩
   ·obtain ⟨i,hi⟩:=List.getElem?_of_mem hx
    refine List.mem_iff_getElem?.2 ⟨i,?_⟩
    rw [e0I]
    ·exact hi
    ·rintro rfl
     rw [hg] at hi
     injection hi with hi
     subst hi
     exact hkey ⟨h1,h2⟩
 ·have ha:a5P l hst rule n (kT ⟨hst,rule,0⟩ l)=l.take (kT ⟨hst,rule,0⟩ l)++[⟨hst,rule,IntKind.wrap .i64 (a5h l hst rule+n)⟩]++l.drop (kT ⟨hst,rule,0⟩ l):=by
    unfold a5P
    rw [h3]
    cases hg:l[kT ⟨hst,rule,0⟩ l]? with
    | none=>rfl
    | some y=>simp only [if_neg (hnc y hg)]
  rw [ha]
  constructor
  ·intro hx
   simp only [e0E,List.mem_singleton] at hx
   rcases hx with (hx | hx) | hx
   ·have:=List.mem_of_mem_take hx
    exact .inr ⟨this,hno x this⟩
   ·exact .inl hx
   ·have:=List.mem_of_mem_drop hx
    exact .inr ⟨this,hno x this⟩
  ·rintro (rfl | ⟨hx,_⟩)
   ·simp [-bind_some]
   ·rw [← List.take_append_drop (kT ⟨hst,rule,0⟩ l) l] at hx
    rcases e0E.1 hx with h | h
    ·simp [-bind_some, h]
    ·simp [-bind_some, h]
def fH (h:Int) (ms:List Mrk):List Mrk:=ms.filter fun m=>decide (m.h=h)
def tH (h:Int) (ts:List Tal):List Tal:=ts.filter fun m=>decide (m.h=h)
theorem a7K (h:Int) (ms:List Mrk) (x:Mrk):x∈fH h ms↔x∈ms∧x.h=h:=by simp [-bind_some, fH]
theorem a8h (h:Int) (ms:List Tal) (x:Tal):x∈tH h ms↔x∈ms∧x.h=h:=by simp [-bind_some, tH]
theorem a8E {h:Int} {ms:List Mrk} (hs:a6v ms):a6v (fH h ms):=List.Pairwise.sublist List.filter_sublist hs
theorem a8Y {h:Int} {ts:List Tal} (hs:a6M ts):a6M (tH h ts):=List.Pairwise.sublist List.filter_sublist hs
theorem b8E {ms:List Mrk} (hs:a6v ms) (h f:Int):a1s (fH h ms) h f=a1s ms h f:=by
 rcases a3Q _ (a8E hs) h f with ⟨x,hx,h1,h2,h3⟩ | ⟨h1,h2⟩
 ·rw [h3]
  rcases a3Q _ hs h f with ⟨y,hy,k1,k2,k3⟩ | ⟨k1,k2⟩
  ·rw [k3,b0a hs ((a7K _ _ _).1 hx).1 hy (by omega) (by omega)]
  ·exact absurd ⟨h1,h2⟩ (k1 x ((a7K _ _ _).1 hx).1)
 ·rw [h2]
  rcases a3Q _ hs h f with ⟨y,hy,k1,k2,k3⟩ | ⟨k1,k2⟩
  ·exact absurd ⟨k1,k2⟩ (h1 y ((a7K _ _ _).2 ⟨hy,k1⟩))
  ·exact k2.symm
theorem b6E {ts:List Tal} (hs:a6M ts) (h:Int) (r:Str):a5h (tH h ts) h r=a5h ts h r:=by
 rcases a5Y _ (a8Y hs) h r with ⟨x,hx,h1,h2,h3,_⟩ | ⟨h1,h2,_⟩
 ·rw [h3]
  rcases a5Y _ hs h r with ⟨y,hy,k1,k2,k3,_⟩ | ⟨k1,k2,_⟩
  ·rw [k3,b0p hs ((a8h _ _ _).1 hx).1 hy (by omega) (by rw [h2,k2])]
  ·exact absurd ⟨h1,h2⟩ (k1 x ((a8h _ _ _).1 hx).1)
 ·rw [h2]
  rcases a5Y _ hs h r with ⟨y,hy,k1,k2,k3,_⟩ | ⟨k1,k2,_⟩
  ·exact absurd ⟨k1,k2⟩ (h1 y ((a8h _ _ _).2 ⟨hy,k1⟩))
  ·exact k2.symm
theorem c4W {ms:List Mrk} (hs:a6v ms) (m:Mrk):fH m.h (a5n ms m)=a5n (fH m.h ms) m:=by
 refine b4V (a8E (a3B _ _ hs)) (a3B _ _ (a8E hs)) fun x=>?_
 rw [a7K,a4i _ _ hs,a4i _ _ (a8E hs),a7K]
 constructor
 ·rintro ⟨rfl | ⟨h1,h2⟩,h3⟩
  ·exact .inl rfl
  ·exact .inr ⟨⟨h1,h3⟩,h2⟩
 ·rintro (rfl | ⟨⟨h1,h3⟩,h2⟩)
  ·exact ⟨.inl rfl,rfl⟩
  ·exact ⟨.inr ⟨h1,h2⟩,h3⟩
theorem c1C {ms:List Mrk} (hs:a6v ms) (m:Mrk) (h:Int) (hn:m.h≠h):fH h (a5n ms m)=fH h ms:=by
 refine b4V (a8E (a3B _ _ hs)) (a8E hs) fun x=>?_
 rw [a7K,a4i _ _ hs,a7K]
 constructor
 ·rintro ⟨rfl | ⟨h1,h2⟩,h3⟩
  ·exact absurd h3 hn
  ·exact ⟨h1,h3⟩
 ·rintro ⟨h1,h3⟩
  exact ⟨.inr ⟨h1,fun hh=>hn (hh.1.symm.trans h3)⟩,h3⟩
theorem b1U {ts:List Tal} (hs:a6M ts) (h:Int) (r:Str) (n:Int):tH h (a3g ts h r n)=a3g (tH h ts) h r n:=by
 by_cases hn:n<1
 ·simp [-bind_some, a3g,hn]
 refine b5m (a8Y (a3k hs _ _ _)) (a3k (a8Y hs) _ _ _) fun x=>?_
 rw [a8h,a5Q _ hs _ _ _ hn,a5Q _ (a8Y hs) _ _ _ hn,a8h,b6E hs]
 constructor
 ·rintro ⟨rfl | ⟨h1,h2⟩,h3⟩
  ·exact .inl rfl
  ·exact .inr ⟨⟨h1,h3⟩,h2⟩
 ·rintro (rfl | ⟨⟨h1,h3⟩,h2⟩)
  ·exact ⟨.inl rfl,rfl⟩
  ·exact ⟨.inr ⟨h1,h2⟩,h3⟩
theorem a9q {ts:List Tal} (hs:a6M ts) (hst:Int) (r:Str) (n:Int) (h:Int) (hne:hst≠h):tH h (a3g ts hst r n)=tH h ts:=by
 by_cases hn:n<1
 ·simp [-bind_some, a3g,hn]
 refine b5m (a8Y (a3k hs _ _ _)) (a8Y hs) fun x=>?_
 rw [a8h,a5Q _ hs _ _ _ hn,a8h]
 constructor
 ·rintro ⟨rfl | ⟨h1,h2⟩,h3⟩
  ·exact absurd h3 hne
  ·exact ⟨h1,h3⟩
 ·rintro ⟨h1,h3⟩
  exact ⟨.inr ⟨h1,fun hh=>hne (hh.1.symm.trans h3)⟩,h3⟩
theorem a7B (hb:Int):∀ (its:List It),(∀ i∈its,i.e.a0=hb)→∀ (ms:List Mrk) (ts:List Tal),a6v ms→a6M ts →
  (apS ms ts its).map (fun s=>(fH hb s.1,tH hb s.2))=apS (fH hb ms) (tH hb ts) its ∧
  ∀ s,apS ms ts its=some s→a6v s.1∧a6M s.2∧s.1.length≤ms.length+its.length∧s.2.length≤ts.length+2*its.length∧(∀ h,h≠hb→fH h s.1=fH h ms∧tH h s.2=tH h ts)∧(∀ m∈s.1,m∈ms∨m.h=hb)∧(∀ m∈s.2,m∈ts∨m.h=hb)
 | [],_,ms,ts,hm,ht=>by
  refine ⟨rfl,fun s hs=>?_⟩
  simp only [apS,Option.some.injEq] at hs
  subst hs
  exact ⟨hm,ht,by simp,by simp,fun _ _=>⟨rfl,rfl⟩,fun m h => .inl h,fun m h => .inl h⟩
 | i :: r, hi,ms,ts,hm,ht=>by
  have h0:=hi i (by simp)
  have hr:∀ x∈r,x.e.a0=hb:=fun x hx=>hi x (by simp [-bind_some, hx])
  rw [a2X,a2X]
  rw [h0,b8E hm]
  cases hO:tkO (a1s ms hb i.e.a1) i with
  | none=>exact ⟨rfl,fun s hs=>by cases hs⟩
  | some o =>
   cases o with
   | none =>
    have hta:=a3k ht hb a6z i.e.ls.length
    obtain ⟨k1,k2⟩:=a7B hb r hr ms _ hm hta
    simp only
    rw [← b1U ht]
    refine ⟨k1,fun s hs=>?_⟩
    obtain ⟨q1,q2,q3,q4,q5,q6,q7⟩:=k2 s hs
    have hal:=a2W ts hb a6z i.e.ls.length
    refine ⟨q1,q2,by simp;omega,by simp;omega,fun h hne=>⟨(q5 h hne).1,(q5 h hne).2.trans (a9q ht _ _ _ _ (Ne.symm hne))⟩,q6,fun m hm'=>?_⟩
    rcases q7 m hm' with h | h
    ·by_cases hn:(i.e.ls.length:Int)<1
     ·left;simpa [-bind_some, a3g,hn] using h
     ·rcases (a5Q _ ht _ _ _ hn m).1 h with rfl | ⟨h,_⟩
      ·exact .inr rfl
      ·exact .inl h
    ·exact .inr h
   | some k =>
    have hta:=a3k ht hb a6z (k:Nat)
    have hta2:=a3k hta hb i.r ((i.e.ls.length - k:Nat):Int)
    have hma:=a3B ms ⟨hb,i.e.a1,i.e.a3⟩ hm
    obtain ⟨k1,k2⟩:=a7B hb r hr _ _ hma hta2
    simp only
    have e1:a5n (fH hb ms) ⟨hb,i.e.a1,i.e.a3⟩=fH hb (a5n ms ⟨hb,i.e.a1,i.e.a3⟩):=(c4W hm ⟨hb,i.e.a1,i.e.a3⟩).symm
    rw [e1,← b1U ht,← b1U hta]
    refine ⟨k1,fun s hs=>?_⟩
    obtain ⟨q1,q2,q3,q4,q5,q6,q7⟩:=k2 s hs
    have hal:=a2W ts hb a6z (k:Nat)
    have hal2:=a2W (a3g ts hb a6z (k:Nat)) hb i.r ((i.e.ls.length - k:Nat):Int)
    have hsl:=a7v ms ⟨hb,i.e.a1,i.e.a3⟩
    have mem2:∀ (ts:List Tal),a6M ts→∀ (r:Str) (n:Int) (m:Tal),m∈a3g ts hb r n→m∈ts∨m.h=hb:=fun ts ht r n m h=>by
     by_cases hn:n<1
     ·left;simpa [-bind_some, a3g,hn] using h
     ·rcases (a5Q _ ht _ _ _ hn m).1 h with rfl | ⟨h,_⟩
      ·exact .inr rfl
      ·exact .inl h
    refine ⟨q1,q2,by simp;omega,by simp;omega,fun h hne=>⟨(q5 h hne).1.trans (c1C hm _ _ (Ne.symm hne)),(q5 h hne).2.trans ((a9q hta _ _ _ _ (Ne.symm hne)).trans (a9q ht _ _ _ _ (Ne.symm hne)))⟩,fun m hm'=>?_,fun m hm'=>?_⟩
    ·rcases q6 m hm' with h | h
     ·rcases (a4i _ _ hm m).1 h with rfl | ⟨h,_⟩
      ·exact .inr rfl
      ·exact .inl h
     ·exact .inr h
    ·rcases q7 m hm' with h | h
     ·rcases mem2 _ hta _ _ m h with h | h
      ·exact mem2 _ ht _ _ m h
      ·exact .inr h
     ·exact .inr h
def ap (s:List Mrk × List Tal) (b:Bat):List Mrk × List Tal:=(apS s.1 s.2 b.its).getD s
structure GS (n:Nat) (s:List Mrk × List Tal):Prop where
 ma:a6v s.1
 ta:a6M s.2
 ml:s.1.length≤3*n
 tl:s.2.length≤6*n
 mh:∀ m∈s.1,m.h=1∨m.h=2
 th:∀ m∈s.2,m.h=1∨m.h=2
theorem c8m:GS 0 ([],[]):=⟨List.Pairwise.nil,List.Pairwise.nil,by simp,by simp,by simp,by simp⟩
theorem d0H {n:Nat} {s:List Mrk × List Tal} (g:GS n s) {host:Int} (hh:host=1∨host=2) {b:Bat} (hb:BatOK host b):GS (n+1) (ap s b):=by
 have hi:∀ i∈b.its,i.e.a0=host:=fun i hi=>(hb.it i hi).host
 obtain ⟨k1,k2⟩:=a7B host b.its hi s.1 s.2 g.ma g.ta
 have hn:=hb.n3
 unfold ap
 cases ha:apS s.1 s.2 b.its with
 | none=>exact ⟨g.ma,g.ta,by have:=g.ml;simp [-bind_some];omega,by have:=g.tl;simp [-bind_some];omega,g.mh,g.th⟩
 | some s' =>
  obtain ⟨q1,q2,q3,q4,q5,q6,q7⟩:=k2 s' ha
  refine ⟨q1,q2,by have:=g.ml;simp [-bind_some];omega,by have:=g.tl;simp [-bind_some];omega,fun m hm=>?_,fun m hm=>?_⟩
  ·rcases q6 m hm with h | h
   ·exact g.mh m h
   ·rw [h];exact hh
  ·rcases q7 m hm with h | h
   ·exact g.th m h
   ·rw [h];exact hh
theorem c9G (l:List Mrk) (da db:D) (h:Hp) (ha:SlOf 3 a1K l da) (hb:SlOf 3 a1K l db) (hl:l.length≤1000000):R b7J [da,db] h=some (.bool true,h):=by
 apply Wp.val
 rw [d1Z]
 simp only [c6E,bs,e0h,a3b ha,a3b hb,a0A,ne_eq,not_true,decide_false,a0d,e0i,if_false]
 refine Wp.loop (fun n ds g=>g=h∧∃ x y z,∃ i:Nat,ds=[x,.int .i64 i,y,z]∧n+i=l.length)
  (fun r=>r.1 = .ext 0∧r.2.2=h) l.length ⟨rfl,_,_,_,0,rfl,rfl⟩ ?_ ?_
 ·rintro n ds g ⟨rfl,x,y,z,i,rfl,hi⟩
  simp only [b3j,a0e,a0m,bs,e0h,a3b ha,a0o]
  refine Wp.dif ?_ ?_
  ·intro h0
   have h0:i<l.length:=dl_ h0
   have hg:l[i]?=some l[i]:=e0x h0
   generalize l[i]=u at hg
   have ia:a0b tab a0E da (.int .i64 i)=some (.fptr (a1K u)):=by rw [a6B ha];simp [-bind_some, hg]
   have ib:a0b tab a0E db (.int .i64 i)=some (.fptr (a1K u)):=by rw [a6B hb];simp [-bind_some, hg]
   have hw:=wi_ i (by omega)
   have hn:a0i tab .neq a0Q (.agg (a1K u)) (.agg (a1K u))=some (.bool false):=by
    have:=c0k u.h u.h u.f u.f u.o u.o
    simpa [-bind_some, a1K] using this
   simp only [ia,ib,b0b,hn,bs,a0d,e0i,if_false,a0r,hw]
   exact .some (.inl ⟨rfl,n - 1,by omega,rfl,_,_,_,i+1,rfl,by omega⟩)
  ·intro _
   exact .some (.inr ⟨by simp,rfl,rfl⟩)
 ·rintro ⟨ex,ds,g⟩ ⟨q1,q2⟩
  simp only at q1 q2
  subst q1;subst q2
  simp only [a0l,a0k,bs,a0j]
  exact .some rfl
theorem c9F (ms:List Mrk) (ts:List Tal) (d1 d2 e1 e2:D) (h:Hp) (h1:SlOf 3 a1K ms d1) (h2:SlOf 3 a1K ms d2) (k1:SlOf 3 a1F ts e1) (k2:SlOf 3 a1F ts e2) (hl:ms.length≤1000000) (hl2:ts.length≤1000000):R b7I [.agg [d1,e1],.agg [d2,e2]] h=some (.bool true,h):=by
 rw [d1Y]
 simp only [c6D,a0V,bs,a9H,b8h,c9G ms d1 d2 h h1 h2 hl,a0v,if_true,c0P,d9z,a0Y,d9G ts e1 e2 h k1 k2 hl2,a0g,a0j]
theorem b0r {m:Int} {i:It} {k:Nat} (h:tkO m i=some (some k)):m<i.e.a3∧i.e.a2≤m∧((k=0∧i.e.a2=m)∨(¬ idx (fun l:Lin=>decide (l.off=m)) 0 i.e.ls<1∧k=(idx (fun l:Lin=>decide (l.off=m)) 0 i.e.ls).toNat)):=by
 unfold tkO at h
 split at h
 ·cases h
 ·split at h
  ·cases h
  ·split at h
   ·split at h
    ·cases h
    ·rename_i h1 h2 h3 h4
     simp only [Option.some.injEq] at h
     exact ⟨by omega,by omega,.inr ⟨h4,h.symm⟩⟩
   ·simp only [Option.some.injEq] at h
    exact ⟨by omega,by omega,.inl ⟨h.symm,by omega⟩⟩
theorem c5f {m:Int} {i:It} (h:tkO m i=some none):i.e.a3≤m:=by
 unfold tkO at h
 split at h
 ·assumption
 ·split at h
  ·cases h
  ·split at h
   ·split at h
    ·cases h
    ·cases h
   ·cases h
theorem c7K {i j:It} {m:Int} {k:Nat} (hg:EvGood i.e) (hk:tkO m i=some (some k)) (hc:CutOf i m k j):EvGood j.e∧j.e.ls.length=i.e.ls.length - k∧k<i.e.ls.length:=by
 obtain ⟨h1,h2,h3⟩:=b0r hk
 have hch:chain m (i.e.ls.drop k) i.e.a3∧k<i.e.ls.length:=by
  rcases h3 with ⟨rfl,rfl⟩ | ⟨h4,h5⟩
  ·exact ⟨hg.ch,hg.l1⟩
  ·obtain ⟨x,hx,hp,_⟩:=b4M (fun l:Lin=>decide (l.off=m)) i.e.ls 0 _ rfl (by omega)
   have hn:x.off=m:=by simpa using hp
   rw [Nat.sub_zero,← h5] at hx
   obtain ⟨ch,hle⟩:=a8A _ _ _ hg.ch _ _ hx
   rw [hn] at ch
   exact ⟨ch,(e0y.1 hx).1⟩
 obtain ⟨ch,hlt⟩:=hch
 have hdl:(i.e.ls.drop k).length=i.e.ls.length - k:=e0B
 have pl:=hg.pl
 have c1:=pl.a0
 refine ⟨⟨⟨by rw [hc.a0];exact pl.h0,by rw [hc.a0];exact pl.h9,by rw [hc.a1];exact pl.f0,by rw [hc.a1];exact pl.f9,by rw [hc.a2];omega,by rw [hc.a2,hc.a3];exact h1,by rw [hc.a3];exact pl.b9⟩,by rw [hc.a5];exact hg.t0,by rw [hc.a5];exact hg.t9,by rw [hc.a6];exact hg.w1,by rw [hc.a6];exact hg.w2,by rw [hc.a6];exact hg.w3,by rw [hc.ls];omega,by rw [hc.ls];have:=hg.l4;omega,by rw [hc.a2,hc.ls,hc.a3];exact ch,by rw [hc.s7];exact hg.tr,by rw [hc.s8];exact hg.st,by rw [hc.fs];exact hg.f3,by rw [hc.fs];exact hg.fn,by rw [hc.fs];exact hg.fa,by rw [hc.fs];exact hg.fv⟩,by rw [hc.ls];exact hdl,hlt⟩
theorem c0O {a b:Ev} (h:EvQ a b) (hg:EvGood b):EvGood a:=by
 have pl:=hg.pl
 exact ⟨⟨by rw [h.a0];exact pl.h0,by rw [h.a0];exact pl.h9,by rw [h.a1];exact pl.f0,by rw [h.a1];exact pl.f9,by rw [h.a2];exact pl.a0,by rw [h.a2,h.a3];exact pl.ab,by rw [h.a3];exact pl.b9⟩,by rw [h.a5];exact hg.t0,by rw [h.a5];exact hg.t9,by rw [h.a6];exact hg.w1,by rw [h.a6];exact hg.w2,by rw [h.a6];exact hg.w3,by rw [h.ls];exact hg.l1,by rw [h.ls];exact hg.l4,by rw [h.a2,h.ls,h.a3];exact hg.ch,by rw [h.s7];exact hg.tr,by rw [h.s8];exact hg.st,by rw [h.fs];exact hg.f3,by rw [h.fs];exact hg.fn,by rw [h.fs];exact hg.fa,by rw [h.fs];exact hg.fv⟩
theorem a9t (hb:Int):∀ (its:List It) (ms:List Mrk) (ts:List Tal) (s:List Mrk × List Tal),a6v ms→apS ms ts its=some s→a6v s.1∧(∀ h f,a1s ms h f≤a1s s.1 h f)∧∀ i∈its,i.e.a3≤a1s s.1 i.e.a0 i.e.a1
 | [],ms,ts,s,hm,h=>by
  simp only [apS,Option.some.injEq] at h
  subst h
  exact ⟨hm,fun _ _=>Int.le_refl _,by simp⟩
 | i :: r, ms,ts,s,hm,h=>by
  rw [a2X] at h
  cases hO:tkO (a1s ms i.e.a0 i.e.a1) i with
  | none=>rw [hO] at h;cases h
  | some o =>
   rw [hO] at h
   cases o with
   | none =>
    obtain ⟨h1,h2,h3⟩:=a9t hb r ms _ s hm h
    refine ⟨h1,h2,fun x hx=>?_⟩
    rcases e0D.1 hx with rfl | hx
    ·exact Int.le_trans (c5f hO) (h2 _ _)
    ·exact h3 x hx
   | some k =>
    have hma:=a3B ms ⟨i.e.a0,i.e.a1,i.e.a3⟩ hm
    obtain ⟨h1,h2,h3⟩:=a9t hb r _ _ s hma h
    have hk:=(b0r hO).1
    have hset:=fun h f=>a7Z ms hm ⟨i.e.a0,i.e.a1,i.e.a3⟩ h f
    refine ⟨h1,fun h f=>?_,fun x hx=>?_⟩
    ·have:=h2 h f
     rw [hset] at this
     split at this
     ·rename_i hh
      simp only at hh this
      rw [← hh.1,← hh.2] at this ⊢
      omega
     ·exact this
    ·rcases e0D.1 hx with rfl | hx
     ·have:=h2 x.e.a0 x.e.a1
      rw [hset,if_pos ⟨rfl,rfl⟩] at this
      exact this
     ·exact h3 x hx
def c3m (lo hi:Int→Int):(Int→Int)→List Ev→Prop
 | _,[]=>True
 | nx,e::r=>EvGood e∧5≤e.a1∧e.a1≤7∧nx e.a1≤e.a2∧lo e.a1≤e.a2∧e.a3≤hi e.a1∧c3m lo hi (fun f=>if f=e.a1 then e.a3 else nx f) r
def nxE (nx:Int→Int) (es:List Ev):Int→Int:=es.foldl (fun n e f=>if f=e.a1 then e.a3 else n f) nx
theorem a9s (hb:Int) (lo hi:Int→Int):∀ (its:List It) (ms:List Mrk) (ts:List Tal) (s:List Mrk × List Tal) (es:List Ev) (nx:Int→Int),(∀ i∈its,BIt hb i)→a6v ms→apS ms ts its=some s→apE ms its es →
  (∀ f,nx f≤a1s ms hb f)→(∀ f,lo f≤a1s ms hb f)→(∀ f,a1s s.1 hb f≤hi f)→c3m lo hi nx es∧∀ f,nxE nx es f≤a1s s.1 hb f
 | [],ms,ts,s,es,nx,_,_,h,he,hnx,_,_=>by
  simp only [apS,Option.some.injEq] at h
  subst h
  have he:es=[]:=he
  subst he
  exact ⟨trivial,hnx⟩
 | i :: r, ms,ts,s,es,nx,hB,hm,h,he,hnx,hlo,hhi=>by
  have hi0:=hB i (by simp)
  have hir:∀ x∈r,BIt hb x:=fun x hx=>hB x (by simp [-bind_some, hx])
  rw [a2X] at h
  unfold apE at he
  cases hO:tkO (a1s ms i.e.a0 i.e.a1) i with
  | none=>rw [hO] at h;cases h
  | some o =>
   rw [hO] at h he
   cases o with
   | none=>exact a9s hb lo hi r ms _ s es nx hir hm h he hnx hlo hhi
   | some k =>
    obtain ⟨j,hc,he⟩:=he
    have hma:=a3B ms ⟨i.e.a0,i.e.a1,i.e.a3⟩ hm
    obtain ⟨t1,t2,t3⟩:=b0r hO
    have h0:=hi0.host
    have hset:∀ f,a1s (a5n ms ⟨i.e.a0,i.e.a1,i.e.a3⟩) hb f=if i.e.a1=f then i.e.a3 else a1s ms hb f:=fun f=>by
     rw [a7Z ms hm]
     simp only [h0,true_and]
    have hup:∀ f,a1s ms hb f≤a1s (a5n ms ⟨i.e.a0,i.e.a1,i.e.a3⟩) hb f:=fun f=>by
     rw [hset]
     split
     ·rename_i hf
      subst hf
      rw [h0] at t1
      omega
     ·exact Int.le_refl _
    have hmono:=(a9t hb r _ _ s hma h).2.1
    split at he
    ·rename_i hr
     obtain ⟨e,es',rfl,hq,he⟩:=he
     have hg:EvGood i.e:=by
      rcases hi0.good with ⟨_,hg⟩ | hs
      ·exact hg
      ·exact absurd hr hs.r0
     have hgj:=(c7K hg hO hc).1
     have hge:=c0O hq hgj
     have a1:e.a1=i.e.a1:=hq.a1.trans hc.a1
     have a2:e.a2=a1s ms hb i.e.a1:=by rw [hq.a2,hc.a2,h0]
     have a3:e.a3=i.e.a3:=hq.a3.trans hc.a3
     obtain ⟨q1,q2⟩:=a9s hb lo hi r _ _ s es' (fun f=>if f=e.a1 then e.a3 else nx f) hir hma h he (fun f=>by
      rw [hset,a1,a3]
      by_cases hf:f=i.e.a1
      ·rw [if_pos hf,if_pos hf.symm];exact Int.le_refl _
      ·rw [if_neg hf,if_neg (fun hh=>hf hh.symm)];exact hnx f) (fun f=>Int.le_trans (hlo f) (hup f)) hhi
     refine ⟨⟨hge,by rw [a1];exact hi0.f5,by rw [a1];exact hi0.f7,by rw [a1,a2];exact hnx _,by rw [a1,a2];exact hlo _,?_,q1⟩,q2⟩
     rw [a1,a3]
     have:=hmono hb i.e.a1
     rw [hset,if_pos rfl] at this
     exact Int.le_trans this (hhi _)
    ·exact a9s hb lo hi r _ _ s es nx hir hma h he (fun f=>Int.le_trans (hnx f) (hup f)) (fun f=>Int.le_trans (hlo f) (hup f)) hhi
theorem c8Z {s:List Mrk × List Tal} {dm dt:D} (h1:SlOf 3 a1K s.1 dm) (h2:SlOf 3 a1F s.2 dt):(D.agg [dm,dt]).okv=true:=by
 have o1:=a0X h1
 have o2:=a0X h2
 clear h1 h2
 cases dm <;> first | (cases dt <;> first | rfl | (simp [-bind_some, D.one] at o2)) | (simp [-bind_some, D.one] at o1)
theorem c2H {g:Hp} {a b:D} (hok:(D.agg [a,b]).okv=true) {β:Type} {f:Hp→Option β} {Q:β→Prop}
  (k:∀ g',g'[g.length]?=some (.row a0n 2 [[a,b]])→(∀ q,q<g.length→g'[q]?=g[q]?)→Wp (f g') Q):Wp ((a0p tab (a0C g a0n 2 [[.nils,.nils]]) a0n (.ptr g.length 0 0) (.agg [a,b])).bind f) Q:=by
 refine a4k (off:=0) (a0Z _ _ _ _) (by rfl) (by rfl) (by simp) hok fun g' q' s'=>k g' (by exact q') fun q hq=>?_
 rw [s'.2 q (by omega)]
 exact a0H _ _ _ _ hq
theorem a8P {g:Hp} {q:Nat} {dm dt:D} (h:g[q]?=some (.row a0n 2 [[dm,dt]])):a0c tab g a0n (.ptr q 0 0)=some (.agg [dm,dt]):=by rw [a4F,a0F h];rfl
structure SOrd {α:Type} (c:α→α→Int) (S Pre:α→α→Prop):Prop where
 tr:∀ x y z,S x y→S y z→S x z
 lt:∀ x y,Pre x y→c y x<0→S y x
 ge:∀ x y,Pre x y→¬ c y x<0→S x y
theorem c9g {α:Type} {c:α→α→Int} {S Pre:α→α→Prop} (o:SOrd c S Pre) {A1 A2:List α} {x:α} (hA:(A1++A2).Pairwise S) (hp:∀ y∈A1++A2,Pre y x)
  (h2:A2=[]∨∃ y r,A2=y::r∧c x y<0) (h1:A1=[]∨∃ y r,A1=r++[y]∧¬ c x y<0):(A1++x::A2).Pairwise S:=by
 rw [List.pairwise_append] at hA ⊢
 obtain ⟨p1,p2,p3⟩:=hA
 have q1:∀ a∈A1,S a x:=by
  rcases h1 with rfl | ⟨y,r,rfl,hy⟩
  ·intro a ha;cases ha
  ·intro a ha
   have hyx:S y x:=o.ge y x (hp y (by simp)) hy
   rw [List.pairwise_append] at p1
   rcases e0E.1 ha with ha | ha
   ·exact o.tr _ _ _ (p1.2.2 a ha y (by simp)) hyx
   ·simp at ha;subst ha;exact hyx
 have q2:∀ b∈A2,S x b:=by
  rcases h2 with rfl | ⟨y,r,rfl,hy⟩
  ·intro a ha;cases ha
  ·intro b hb
   have hxy:S x y:=o.lt y x (hp y (by simp)) hy
   rw [List.pairwise_cons] at p2
   rcases e0D.1 hb with rfl | hb
   ·exact hxy
   ·exact o.tr _ _ _ hxy (p2.1 b hb)
 refine ⟨p1,List.pairwise_cons.2 ⟨q2,p2⟩,fun a ha b hb=>?_⟩
 rcases e0D.1 hb with rfl | hb
 ·exact q1 a ha
 ·exact p3 a ha b hb
theorem b6Q {α:Type} (c:α→α→Int) (P:List α) (x:α):∀ (R:List α) (Q:List α),∃ A1 A2,R.reverse=A1++A2∧dn c P.length (P.length+R.length) (P++R.reverse++x::Q)=P++A1++x::A2++Q ∧
  (A2=[]∨∃ y r,A2=y::r∧c x y<0)∧(A1=[]∨∃ y r,A1=r++[y]∧¬ c x y<0)
 | [], Q=>⟨[],[],rfl,by
   cases P with
   | nil=>simp [-bind_some, dn]
   | cons p P =>
    simp only [e0z,e0A,Nat.add_zero,List.reverse_nil,List.append_nil]
    unfold dn
    split
    ·rw [if_neg (by omega)];simp [-bind_some]
    ·simp [-bind_some],.inl rfl,.inl rfl⟩
 | y::R,Q=>by
  have g1:(P++(y::R).reverse++x::Q)[P.length+R.length+1]?=some x:=by
   rw [List.getElem?_append_right (by simp;omega)]
   simp [-bind_some]
   try (have:P.length+R.length+1 - (P.length+(R.length+1))=0:=by omega
        rw [this];rfl)
  have g0:(P++(y::R).reverse++x::Q)[P.length+R.length]?=some y:=by
   rw [e0H (by simp),List.getElem?_append_right (by omega)]
   simp [-bind_some]
  rw [e0z,← Nat.add_assoc]
  unfold dn
  rw [g1,g0]
  simp only
  by_cases hc:c x y<0
  ·rw [if_pos ⟨by omega,hc⟩]
   have hs:((P++(y::R).reverse++x::Q).set (P.length+R.length+1) y).set (P.length+R.length) x=P++R.reverse++x::(y::Q):=by
    have e1:P++(y::R).reverse++x::Q=(P++R.reverse)++y::x::Q:=by simp
    rw [e1]
    have l1:(P++R.reverse).length=P.length+R.length:=by simp
    rw [List.set_append_right _ _ (by omega),List.set_append_right _ _ (by omega),l1]
    have:P.length+R.length+1 - (P.length+R.length)=1:=by omega
    rw [this,Nat.sub_self]
    rfl
   rw [hs]
   obtain ⟨A1,A2,h1,h2,h3,h4⟩:=b6Q c P x R (y::Q)
   refine ⟨A1,A2++[y],by simp [-bind_some, h1],by rw [h2];simp [-bind_some],?_,h4⟩
   rcases h3 with rfl | ⟨u,r,rfl,hu⟩
   ·exact .inr ⟨y,[],rfl,hc⟩
   ·exact .inr ⟨u,r++[y],rfl,hu⟩
  ·rw [if_neg (fun hh=>hc hh.2)]
   exact ⟨(y::R).reverse,[],by simp,by simp,.inl rfl,.inr ⟨y,R.reverse,by simp,hc⟩⟩
theorem c7O {α:Type} (c:α→α→Int) (P A Q:List α) (x:α):∃ A1 A2,A=A1++A2∧dn c P.length (P.length+A.length) (P++A++x::Q)=P++A1++x::A2++Q ∧
  (A2=[]∨∃ y r,A2=y::r∧c x y<0)∧(A1=[]∨∃ y r,A1=r++[y]∧¬ c x y<0):=by
 have:=b6Q c P x A.reverse Q
 simpa using this
theorem c2x {α:Type} {c:α→α→Int} {S Pre:α→α→Prop} (o:SOrd c S Pre) (P Q:List α):∀ (B A:List α),A.Pairwise S→(∀ x∈A,∀ y∈B,Pre x y)→B.Pairwise Pre →
  ∃ C,isr c P.length (P.length+A.length) B.length (P++A++B++Q)=P++C++Q∧C.Perm (A++B)∧C.Pairwise S
 | [],A,hA,_,_=>⟨A,by simp [-bind_some, isr],by simp,hA⟩
 | x::B,A,hA,hp,hB=>by
  rw [List.pairwise_cons] at hB
  obtain ⟨A1,A2,rfl,h2,h3,h4⟩:=c7O c P A (B++Q) x
  have hA':(A1++x::A2).Pairwise S:=c9g o hA (fun y hy=>hp y hy x (by simp)) h3 h4
  have e1:P++(A1++A2)++x::B++Q=P++(A1++A2)++x::(B++Q):=by simp
  have hpm:(A1++x::A2).Perm (x::(A1++A2)):=List.perm_middle
  obtain ⟨C,q1,q2,q3⟩:=c2x o P Q B (A1++x::A2) hA' (fun u hu v hv=>by
   rcases e0D.1 (hpm.mem_iff.1 hu) with rfl | hu
   ·exact hB.1 v hv
   ·exact hp u hu v (by simp [-bind_some, hv])) hB.2
  refine ⟨C,?_,q2.trans ?_,q3⟩
  ·rw [e0z]
   unfold isr
   rw [e1,h2,← q1]
   have e2:P.length+(A1++A2).length+1=P.length+(A1++x::A2).length:=by simp;omega
   have e3:P++A1++x::A2++(B++Q)=P++(A1++x::A2)++B++Q:=by simp
   rw [e2,e3]
  ·have:((A1++x::A2)++B).Perm ((x::(A1++A2))++B):=hpm.append_right B
   refine this.trans ?_
   simpa using (List.perm_middle (l₁:=A1++A2) (l₂:=B) (a:=x)).symm
def U8 (z:Int):Prop:=0≤z∧z<256
theorem U8.u32 {z:Int} (h:U8 z):U32 z:=⟨h.1,by have:=h.2;omega⟩
def num (l:List Int):Int:=l.foldl (fun v b=>v*256+b) 0
theorem a6s (n:Int):IntKind.wrap .u8 n=n % 256:=by
 unfold IntKind.wrap
 simp [-bind_some, IntKind.signed,IntKind.bits,IntKind.min,IntKind.max]
theorem d5G (a b c d:Int):num [a,b,c,d]=((a*256+b)*256+c)*256+d:=by simp [-bind_some, num]
theorem b4Y {n:Int} (h:U32 n):num (a2A n)=n:=by
 unfold a2A
 rw [d5G]
 simp only [a6s]
 rw [Int.fdiv_eq_ediv_of_nonneg _ (by decide),Int.fdiv_eq_ediv_of_nonneg _ (by decide),Int.fdiv_eq_ediv_of_nonneg _ (by decide)]
 have e1:(2:Int) ^ 24=16777216:=by decide
 have e2:(2:Int) ^ 16=65536:=by decide
 have e3:(2:Int) ^ 8=256:=by decide
 rw [e1,e2,e3]
 unfold U32 at h
 omega
theorem b7k (n:Int):∀ z∈a2A n,U8 z:=by
 intro z hz
 unfold a2A at hz
 simp only [a6s,e0D,List.not_mem_nil,or_false] at hz
 unfold U8
 rcases hz with rfl | rfl | rfl | rfl <;> omega
theorem c4J {a b c d:Int} (ha:U8 a) (hb:U8 b) (hc:U8 c) (hd:U8 d):U32 (num [a,b,c,d]):=by
 rw [d5G]
 unfold U8 U32 at *
 omega
def rdN:Nat→List Int→List (List Int) × Nat
 | 0,_=>([],0)
 | k+1,r=>if r.length<8∨(num (r.take 4)).toNat<1∨8388608<(num (r.take 4)).toNat∨r.length - 8<(num (r.take 4)).toNat∨num ((r.drop 4).take 4)≠crc (r.take 4++(r.drop 8).take (num (r.take 4)).toNat) then ([],0)
  else ((r.drop 8).take (num (r.take 4)).toNat::(rdN k (r.drop (8+(num (r.take 4)).toNat))).1,8+(num (r.take 4)).toNat+(rdN k (r.drop (8+(num (r.take 4)).toNat))).2)
theorem b5i:∀ (k k':Nat) (r:List Int),r.length≤k→r.length≤k'→rdN k r=rdN k' r
 | 0,0,r,_,_=>rfl
 | 0,k'+1,r,h,_=>by
  unfold rdN
  rw [if_pos (.inl (by omega))]
 | k+1,0,r,_,h=>by
  unfold rdN
  rw [if_pos (.inl (by omega))]
 | k+1,k'+1,r,h,h'=>by
  unfold rdN
  split
  ·rfl
  ·rename_i hc
   have hl:(r.drop (8+(num (r.take 4)).toNat)).length≤k:=by rw [e0B];omega
   have hl':(r.drop (8+(num (r.take 4)).toNat)).length≤k':=by rw [e0B];omega
   rw [b5i k k' _ hl hl']
def rd (r:List Int):List (List Int) × Nat:=rdN r.length r
def Stop (r:List Int):Prop:=r.length<8∨(num (r.take 4)).toNat<1∨8388608<(num (r.take 4)).toNat∨r.length - 8<(num (r.take 4)).toNat∨num ((r.drop 4).take 4)≠crc (r.take 4++(r.drop 8).take (num (r.take 4)).toNat)
theorem b9f {r:List Int} (h:Stop r):rd r=([],0):=by
 unfold rd
 cases hr:r.length with
 | zero=>rfl
 | succ k =>
  unfold rdN
  unfold Stop at h
  rw [if_pos h]
theorem c9h {r:List Int} (h:¬ Stop r):rd r=((r.drop 8).take (num (r.take 4)).toNat::(rd (r.drop (8+(num (r.take 4)).toNat))).1,8+(num (r.take 4)).toNat+(rd (r.drop (8+(num (r.take 4)).toNat))).2):=by
 have h8:¬ r.length<8:=fun hh=>h (.inl hh)
 obtain ⟨k,hk⟩:∃ k,r.length=k+1:=⟨r.length - 1,by omega⟩
 have:rd r=rdN (k+1) r:=by unfold rd;rw [hk]
 rw [this]
 unfold rdN
 unfold Stop at h
 rw [if_neg h]
 have hl:(r.drop (8+(num (r.take 4)).toNat)).length≤k:=by rw [e0B];omega
 rw [b5i k _ _ hl (Nat.le_refl _)]
 rfl
def a3i (p:List Int):List Int:=a2A p.length++a2A (crc (a2A p.length++p))++p
def a4u (ps:List (List Int)):List Int:=(ps.map a3i).flatten
def b0A (p:List Int):Prop:=1≤p.length∧p.length≤8388608∧∀ z∈p,U8 z
theorem a8c (p:List Int):(a3i p).length=8+p.length:=by simp [-bind_some, a3i,a2K];omega
theorem b1O (p t:List Int):(a3i p++t).take 4=a2A p.length:=by simp [-bind_some, a3i,a2A,List.take]
theorem b6W (p t:List Int):((a3i p++t).drop 4).take 4=a2A (crc (a2A p.length++p)):=by simp [-bind_some, a3i,a2A,List.take]
theorem b0V (p t:List Int):(a3i p++t).drop 8=p++t:=by simp [-bind_some, a3i,a2A]
theorem c4I {p:List Int} (h:b0A p) (t:List Int):(num ((a3i p++t).take 4)).toNat=p.length:=by
 rw [b1O,b4Y ⟨by omega,by have:=h.2.1;omega⟩]
 simp [-bind_some]
theorem c9i {p:List Int} (h:b0A p) (t:List Int):rd (a3i p++t)=(p::(rd t).1,8+p.length+(rd t).2):=by
 have hn:=c4I h t
 have hs:¬ Stop (a3i p++t):=by
  have h1:=h.1;have h2:=h.2.1
  have hl:(a3i p++t).length=8+p.length+t.length:=by simp [-bind_some, a8c]
  have ht:(p++t).take p.length=p:=by simp
  unfold Stop
  rw [hn,b6W,b1O,b0V,b4Y (b6F _),ht,hl]
  rintro (h8 | h8 | h8 | h8 | h8)
  ·omega
  ·omega
  ·omega
  ·omega
  ·exact h8 rfl
 rw [c9h hs,hn,b0V]
 have:(a3i p++t).drop (8+p.length)=t:=by rw [← a8c p];simp [-bind_some]
 rw [this]
 simp [-bind_some]
theorem b9e:∀ (ps:List (List Int)),(∀ p∈ps,b0A p)→∀ t,rd (a4u ps++t)=(ps++(rd t).1,(a4u ps).length+(rd t).2)
 | [],_,t=>by simp [-bind_some, a4u]
 | p::ps,h,t=>by
  have e:a4u (p::ps)=a3i p++a4u ps:=by simp [-bind_some, a4u]
  rw [e,List.append_assoc,c9i (h p (by simp)),b9e ps (fun q hq=>h q (by simp [-bind_some, hq])) t]
  simp [-bind_some, a8c]
  omega
theorem b8b:∀ (ps:List (List Int)),(∀ p∈ps,b0A p)→∀ z∈a4u ps,U8 z
 | [],_,z,hz=>by simp [-bind_some, a4u] at hz
 | p::ps,h,z,hz=>by
  have e:a4u (p::ps)=a3i p++a4u ps:=by simp [-bind_some, a4u]
  rw [e] at hz
  rcases e0E.1 hz with hz | hz
  ·unfold a3i at hz
   rcases e0E.1 hz with hz | hz
   ·rcases e0E.1 hz with hz | hz
    ·exact b7k _ z hz
    ·exact b7k _ z hz
   ·exact (h p (by simp)).2.2 z hz
  ·exact b8b ps (fun q hq=>h q (by simp [-bind_some, hq])) z hz
theorem a7V (ps:List (List Int)) (p:List Int):a4u (ps++[p])=a4u ps++a3i p:=by simp [-bind_some, a4u]
def a3X:Nat→Int→List Int
 | 0,_=>[]
 | n+1,v=>IntKind.wrap .u8 (v.fdiv (2 ^ (8*n)))::a3X n v
theorem a1f:∀ (n:Nat) (v:Int),(a3X n v).length=n
 | 0,v=>rfl
 | n+1,v=>by simp [-bind_some, a3X,a1f n v]
theorem b9a (v:Int):a3X 4 v=a2A v:=by
 unfold a2A
 simp [-bind_some, a3X,Int.fdiv_eq_ediv_of_nonneg]
theorem a3s:∀ (n:Nat) (v:Int),∀ z∈a3X n v,U8 z
 | 0,v,z,hz=>by cases hz
 | n+1,v,z,hz=>by
  rcases e0D.1 hz with rfl | hz
  ·rw [a6s];unfold U8;omega
  ·exact a3s n v z hz
def sby (s:Str):List Int:=s.map fun c=>(c.toNat:Int)
theorem b2J (s:Str):(sby s).length=s.length:=by simp [-bind_some, sby]
theorem c9S (s:Str):∀ z∈sby s,U8 z:=by
 intro z hz
 obtain ⟨c,_,rfl⟩:=e0F.1 hz
 have:=c.toNat_lt
 unfold U8
 omega
theorem c1z (s:Str):a1g s=(sby s).map byr:=by simp [-bind_some, a1g,sby,byr,List.map_map,Function.comp_def]
structure Bw (n0:Nat) (h:Hp) (d:D) (h':Hp) (l:List Int) (d':D):Prop where
 ow:Own h' n0 ty5 1 (l.map byr) d'
 len:h.length≤h'.length
 old:∀ q,q<h.length→¬ d.inOb q→h'[q]?=h[q]?
 new:∀ q,d'.inOb q→d.inOb q∨h.length≤q
theorem Bw.trans {n0:Nat} {h h1 h2:Hp} {d d1 d2:D} {l1 l2:List Int} (a:Bw n0 h d h1 l1 d1) (b:Bw n0 h1 d1 h2 l2 d2):Bw n0 h d h2 l2 d2 :=
 ⟨b.ow,Nat.le_trans a.len b.len,fun q hq hd=>(b.old q (Nat.lt_of_lt_of_le hq a.len) fun hx=>by rcases a.new q hx with h1 | h1;exact hd h1;omega).trans (a.old q hq hd),
  fun q hq=>by rcases b.new q hq with h1 | h1;exact a.new q h1;exact .inr (Nat.le_trans a.len h1)⟩
theorem Bw.refl {n0:Nat} {h:Hp} {d:D} {l:List Int} (ow:Own h n0 ty5 1 (l.map byr) d):Bw n0 h d h l d:=⟨ow,Nat.le_refl _,fun _ _ _=>rfl,fun _ hq => .inl hq⟩
theorem Bw.low {n0:Nat} {h h':Hp} {d d':D} {l l0:List Int} (b:Bw n0 h d h' l d') (ow:Own h n0 ty5 1 (l0.map byr) d) (hn:n0≤h.length):∀ q,q<n0→h'[q]?=h[q]?:=fun q hq=>b.old q (by omega) fun hx=>by have:=(ow.lt hx).1;omega
theorem b5t {n0:Nat} {h:Hp} {d y:D} {l m:List Int} (hn:n0≤h.length) (ow:Own h n0 ty5 1 (l.map byr) d) (hy:a1a h 1 y=some (m.map byr)) (hl:l.length+m.length≤1000000000):∃ d' h',a0q tab h a0L a0L d y=some (d',h')∧Bw n0 h d h' (l++m) d':=by
 have key:=@b2Q h n0 hn (l.map byr) d y ow _ hy (by simp;omega) _ (fun r=>some r) (fun r=>Bw n0 h d r.2 (l++m) r.1) (fun x' h' a b _ c e => .some ⟨by rw [e0o];exact a,b,c,e⟩)
 obtain ⟨⟨x',g⟩,e1,B⟩:=key
 refine ⟨x',g,?_,B⟩
 cases hq:a0q tab h a0L a0L d y with
 | none=>rw [hq] at e1;cases e1
 | some r=>rw [hq] at e1;exact e1
theorem d0J (h:Hp) (x:D) (s:Str):a0q tab h a0L ty9 x (.str s)=a0q tab h a0L a0L x (.sl 1 true (a1g s)):=id rfl
theorem c7t {n0:Nat} {h:Hp} {d:D} {l:List Int} (hn:n0≤h.length) (ow:Own h n0 ty5 1 (l.map byr) d) (s:Str) (hl:l.length+s.length≤1000000000):∃ d' h',a0q tab h a0L ty9 d (.str s)=some (d',h')∧Bw n0 h d h' (l++sby s) d':=by
 rw [d0J,c1z]
 exact b5t hn ow (a1e _ _ _ _) (by rw [b2J];exact hl)
theorem d5v (v:Int) (n0:Nat):∀ (k:Nat),k≤8→∀ (h:Hp) (l:List Int) (d a:D),n0≤h.length→Own h n0 ty5 1 (l.map byr) d→l.length+k≤1000000000→∃ d' h' b,a0J (a7f (.int .u64 v)) [d,.int .i64 ((k:Int) - 1),a] h=some (.ext 0,[d',b,.bool false],h')∧Bw n0 h d h' (l++a3X k v) d':=by
 intro k
 induction k with
 | zero =>
  intro _ h l d a hn ow hr
  rw [a1r]
  refine ⟨d,h,_,by simp [-bind_some, a7f];rfl,?_⟩
  simpa [-bind_some, a3X] using Bw.refl ow
 | succ k ih =>
  intro hk h l d a hn ow hr
  have hg:(0:Int)≤((k+1:Nat):Int) - 1:=by omega
  have hw1:IntKind.wrap .i64 (8*(((k+1:Nat):Int) - 1))=8*(k:Int):=by rw [wrap_i64 (by omega) (by omega)];omega
  have hw2:IntKind.wrap .i64 (((k+1:Nat):Int) - 1 - 1)=(k:Int) - 1:=by rw [wrap_i64 (by omega) (by omega)];omega
  have hw3:IntKind.wrap .u64 (8*(k:Int))=8*(k:Int):=a1Q (by omega) (by omega)
  have h8:¬ (8*(k:Int))<0:=by omega
  have hmn:min (8*(k:Int)).toNat IntKind.u64.bits=8*k:=by
   have:IntKind.u64.bits=64:=rfl
   rw [this];omega
  obtain ⟨x',g,e1,B1⟩:=b5t (y := .sl 1 true [byr (IntKind.wrap .u8 (v.fdiv (2 ^ (8*k))))]) (m:=[IntKind.wrap .u8 (v.fdiv (2 ^ (8*k)))]) hn ow (a1e _ _ _ _) (by simp;omega)
  obtain ⟨d',h',b,e2,B2⟩:=ih (by omega) g _ x' (.bool true) (Nat.le_trans hn B1.len) B1.ow (by simp;omega)
  refine ⟨d',h',b,?_,?_⟩
  ·rw [a1r]
   simp only [a7f,a0e,a0m,bs,a2Y,decide_eq_true hg,a0d,if_true,a4R,hw1,b1Z,hw3,a2E,h8,if_false,hmn,a7l,b3D,show ∀ z,([[D.int .u8 z]]:List (List D))=[byr z] from fun _=>rfl,e1,a0N,hw2]
   exact e2
  ·have:=B1.trans B2
   simpa [-bind_some, a3X] using this
theorem b9o (v:Int) (k:Nat) (hk:k≤8) (n0:Nat) (h:Hp) (l:List Int) (d:D) (hn:n0≤h.length) (ow:Own h n0 ty5 1 (l.map byr) d) (hr:l.length≤999999000):∃ d' h',R a3N [d,.int .u64 v,.int .i64 k] h=some (d',h')∧Bw n0 h d h' (l++a3X k v) d':=by
 obtain ⟨d',h',b,e1,B⟩:=d5v v n0 k hk h l d .any hn ow (by omega)
 refine ⟨d',h',?_,B⟩
 rw [d2m]
 have hw:IntKind.wrap .i64 ((k:Int) - 1)=(k:Int) - 1:=by rw [wrap_i64 (by omega) (by omega)]
 simp only [c6Q,bs,a0N,hw,e0h,e1,a0l,a0k,a0e,a0j]
theorem c8D (v:Int) (n0:Nat):∀ (k:Nat),k≤8→∀ (h:Hp) (l:List Int) (d a:D),n0≤h.length→Own h n0 ty5 1 (l.map byr) d→l.length+k≤1000000000→∃ d' h' b,a0J (a3Y (.int .u64 v)) [d,.int .i64 ((k:Int) - 1),a] h=some (.ext 0,[d',b,.bool false],h')∧Bw n0 h d h' (l++a3X k v) d':=by
 intro k
 induction k with
 | zero =>
  intro _ h l d a hn ow hr
  rw [a1r]
  refine ⟨d,h,_,by simp [-bind_some, a3Y];rfl,?_⟩
  simpa [-bind_some, a3X] using Bw.refl ow
 | succ k ih =>
  intro hk h l d a hn ow hr
  have hg:(0:Int)≤((k+1:Nat):Int) - 1:=by omega
  have hw1:IntKind.wrap .i64 (8*(((k+1:Nat):Int) - 1))=8*(k:Int):=by rw [wrap_i64 (by omega) (by omega)];omega
  have hw2:IntKind.wrap .i64 (((k+1:Nat):Int) - 1 - 1)=(k:Int) - 1:=by rw [wrap_i64 (by omega) (by omega)];omega
  have h8:¬ (8*(k:Int))<0:=by omega
  have hmn:min (8*(k:Int)).toNat IntKind.u64.bits=8*k:=by
   have:IntKind.u64.bits=64:=rfl
   rw [this];omega
  obtain ⟨x',g,e1,B1⟩:=b5t (y := .sl 1 true [byr (IntKind.wrap .u8 (v.fdiv (2 ^ (8*k))))]) (m:=[IntKind.wrap .u8 (v.fdiv (2 ^ (8*k)))]) hn ow (a1e _ _ _ _) (by simp;omega)
  obtain ⟨d',h',b,e2,B2⟩:=ih (by omega) g _ x' (.bool true) (Nat.le_trans hn B1.len) B1.ow (by simp;omega)
  refine ⟨d',h',b,?_,?_⟩
  ·rw [a1r]
   simp only [a3Y,a0e,a0m,bs,a2Y,decide_eq_true hg,a0d,if_true,a4R,hw1,a2E,h8,if_false,hmn,a7l,b3D,show ∀ z,([[D.int .u8 z]]:List (List D))=[byr z] from fun _=>rfl,e1,a0N,hw2]
   exact e2
  ·have:=B1.trans B2
   simpa [-bind_some, a3X] using this
theorem b9m (v:Int) (k:Nat) (hk:k≤8) (n0:Nat) (h:Hp) (l:List Int) (d:D) (hn:n0≤h.length) (ow:Own h n0 ty5 1 (l.map byr) d) (hr:l.length≤999999000):∃ d' h',R a4z [d,.int .u64 v,.int .i64 k] h=some (d',h')∧Bw n0 h d h' (l++a3X k v) d':=by
 obtain ⟨d',h',b,e1,B⟩:=c8D v n0 k hk h l d .any hn ow (by omega)
 refine ⟨d',h',?_,B⟩
 rw [c7P]
 have hw:IntKind.wrap .i64 ((k:Int) - 1)=(k:Int) - 1:=by rw [wrap_i64 (by omega) (by omega)]
 simp only [c3q,bs,a0N,hw,e0h,e1,a0l,a0k,a0e,a0j]
def pI (n:Int):List Int:=a3X 8 (IntKind.wrap .u64 n)
def pN (n:Nat):List Int:=a3X 4 (IntKind.wrap .u64 n)
def pS (s:Str):List Int:=pN s.length++sby s
theorem a1i (n:Int):(pI n).length=8:=a1f _ _
theorem a1N (n:Nat):(pN n).length=4:=a1f _ _
theorem a1x (s:Str):(pS s).length=4+s.length:=by simp [-bind_some, pS,a1N,b2J]
theorem d6p (n:Int) (n0:Nat) (h:Hp) (l:List Int) (d:D) (hn:n0≤h.length) (ow:Own h n0 ty5 1 (l.map byr) d) (hr:l.length≤999999000):∃ d' h',R a4A [d,.int .i64 n] h=some (d',h')∧Bw n0 h d h' (l++pI n) d':=by
 obtain ⟨d',h',e1,B⟩:=b9o (IntKind.wrap .u64 n) 8 (by omega) n0 h l d hn ow hr
 refine ⟨d',h',?_,B⟩
 rw [d2q]
 have e1:R a3N [d,.int .u64 (IntKind.wrap .u64 n),.int .i64 8] h=some (d',h'):=e1
 simp only [c6T,bs,a2D,e1,a0j]
theorem d6o (s:Str) (n0:Nat) (h:Hp) (l:List Int) (d:D) (hn:n0≤h.length) (ow:Own h n0 ty5 1 (l.map byr) d) (hr:l.length+s.length≤999998000):∃ d' h',R a6j [d,.str s] h=some (d',h')∧Bw n0 h d h' (l++pS s) d':=by
 obtain ⟨d1,h1,e1,B1⟩:=b9o (IntKind.wrap .u64 s.length) 4 (by omega) n0 h l d hn ow (by omega)
 obtain ⟨d2,h2,e2,B2⟩:=c7t (Nat.le_trans hn B1.len) B1.ow s (by simp [-bind_some, a1f];omega)
 have B:=B1.trans B2
 refine ⟨d2,h2,?_,by simpa [-bind_some, pS,pN] using B⟩
 rw [d2p]
 have e1:R a3N [d,.int .u64 (IntKind.wrap .u64 s.length),.int .i64 4] h=some (d1,h1):=e1
 simp only [c6S,bs,a5I,a2D,e1,e2,a0j]
end Go.Proofs.YthaajlepgblimaaGreatDoor

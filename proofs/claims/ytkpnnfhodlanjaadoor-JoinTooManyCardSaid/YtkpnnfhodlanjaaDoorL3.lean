/- Laws, on plain data, about functions that the statement reaches. -/
import Derived.Test.YtkpnnfhodlanjaaDoorL2
set_option linter.unusedSimpArgs false
set_option linter.unusedVariables false
set_option linter.unnecessarySimpa false
set_option maxRecDepth 100000
namespace Go.Proofs.YtkpnnfhodlanjaaDoor
open Go.Eng Go.Pi
open Option (bind_some)
theorem b2A (n0:Nat) (h:Hp) (n:Nat) (p:Ev × Ev):∀ d∈prE p,frz n0 h (n+1) d=d:=fun d hd=>by
 rcases c0s.1 hd with hd | hd
 ·exact a6m _ _ _ _ d hd
 ·exact a6m _ _ _ _ d hd
theorem b4O (n:Nat) (p:Ev × Ev):∀ d∈prE p,Ok n d:=fun d hd=>by
 rcases c0s.1 hd with hd | hd
 ·exact a8D n _ d hd
 ·exact a8D n _ d hd
theorem b7J (L R:List Ev) (dL dR:D) (key:Str) (w:Int) (h:Hp) (hL:RdE h L dL) (hR:RdE h R dR) (hl:L.length≤1000) (hr:R.length≤1000) (heL:∀ e∈L,JE e) (heR:∀ e∈R,JE e) (hk:b5N key) :
  (2000<(prs key w L R).length∧R1 a5I [dL,dR,.str key,.int .i64 w] h=some (.tup [.nils,.int .i64 4],h)) ∨
  ((prs key w L R).length≤2000∧∃ d,R1 a5I [dL,dR,.str key,.int .i64 w] h=some (.tup [d,.int .i64 0],h)∧SlOf 20 prE (prs key w L R) d):=by
 suffices Wp (R1 a5I [dL,dR,.str key,.int .i64 w] h) (fun p=>p.2=h∧((2000<(prs key w L R).length∧p.1 = .tup [.nils,.int .i64 4])∨((prs key w L R).length≤2000∧∃ d,p.1 = .tup [d,.int .i64 0]∧SlOf 20 prE (prs key w L R) d))) by
  obtain ⟨⟨x,h'⟩,h1,rfl,⟨h2,rfl⟩ | ⟨h2,d,rfl,h3⟩⟩:=this
  ·exact .inl ⟨h2,h1⟩
  ·exact .inr ⟨h2,d,h1,h3⟩
 obtain ⟨dA,A,eA,hA,pA,sA⟩:=b5z L dL key h hL hl heL hk
 obtain ⟨dB,B,eB,hB,pB,sB⟩:=b5z R dR key h hR hr heR hk
 have tm:∀ (l:List Ev) (C:List Kd),(∀ e∈l,JE e)→C.Perm (kdL key l)→∀ y∈C,0≤y.e.a5∧y.e.a5≤253402300799999:=fun l C hl hC y hy=>by
  obtain ⟨i,_,h2,_⟩:=a3C (hC.mem_iff.1 hy)
  have:=hl y.e (c0k h2)
  exact ⟨this.2.2.1,this.2.2.2⟩
 have lenA:A.length≤1000:=by rw [pA.length_eq];have:=a4Y key L;omega
 have lenB:B.length≤1000:=by rw [pB.length_eq];have:=a4Y key R;omega
 have hp:=b0f w pA pB
 have hlen:(A.flatMap (a4l w B)).length=(prs key w L R).length:=by rw [hp.length_eq,c0d,← a9b,c0d]
 have hasc:=b2s key w L R
 have hPm:∀ p∈kps key w L R,(∃ i:Nat,p.1.ix=i∧L[i]?=some p.1.e)∧∃ i:Nat,p.2.ix=i∧R[i]?=some p.2.e:=fun p hp=>by
  unfold kps at hp
  obtain ⟨x,hx,hp⟩:=List.mem_flatMap.1 hp
  obtain ⟨y,hy,rfl⟩:=c0t.1 hp
  obtain ⟨i,h1,h2,_⟩:=a3C hx
  obtain ⟨j,h3,h4,_⟩:=a3C (List.mem_filter.1 hy).1
  exact ⟨⟨i,h1,h2⟩,⟨j,h3,h4⟩⟩
 rw [b6i]
 simp only [b3r,eA,eB,bs,a3j hA,b9Y]
 refine b6X hA hB lenA lenB (tm L A heL pA) (tm R B heR pB) sA sB h ?_ ?_
 ·intro dF rest g ow hl2 kp
  rw [hlen] at hl2
  simp only [a0o,a0p,a0g,a0i,bs,b2E,b9Y]
  rcases ow with ⟨rfl,hnil⟩ | ⟨o,hno,rfl,ho⟩
  ·have hnil:A.flatMap (a4l w B)=[]:=by simpa using hnil
   obtain ⟨y,ey⟩:=b4U .nils (.fn (.func a3v) [] []) g (.nils _ _)
   have hz:prs key w L R=[]:=List.eq_nil_of_length_eq_zero (by rw [← hlen,hnil];rfl)
   simp only [ey,bs,b0J,b9Y]
   rw [a1C]
   simp only [a3g,a0g,a0i,bs,a0r,Int.lt_irrefl,decide_false,a0b,b9Z,if_false,a0o,a0p,a0H]
   have hsc:scope h g (.tup [.nils,.int .i64 0])=some (.tup [.nils,.int .i64 0],h):=a1G (by simp) (.tup _ (by simp;exact ⟨.nils,.int _ _⟩)) kp.1 kp.2
   rw [hsc]
   exact .some ⟨rfl,.inr ⟨hl2,.nils,rfl,by rw [hz];exact .nils _ _⟩⟩
  ·rw [c0d,a7p]
   have nd:Nd prc (A.flatMap (a4l w B)):=Nd.pm (hasc.imp fun {a b} hab => .inl hab) hp
   simp only [bs]
   refine Wp.bind (b7q prcO b5U (N:=(A.flatMap (a4l w B)).length) (by omega) rfl ho nd) ?_
   rintro ⟨y,g'⟩ ⟨C,c1,c2,c3,c4⟩
   simp only at c3 c4
   have hC:C=(kps key w L R).map kpP:=a5U (R:=fun x y=>¬ prc y x<0) (fun x y h1 h2=>by
    rw [a5V] at h1 h2
    have e1:x.l=y.l:=by omega
    have e2:x.r=y.r:=by omega
    cases x;cases y;simp at e1 e2;simp [-bind_some, e1,e2]) c2 (hasc.imp fun {a b} hab=>prcO.asm _ _ hab) (c1.trans hp)
   subst hC
   have kp':Keep h g':=⟨by have:=kp.1;have:=c4.1;omega,fun q hq=>by rw [c4.2 q (by omega)];exact kp.2 q hq⟩
   have hN:(A.flatMap (a4l w B)).length=(kps key w L R).length:=by rw [hp.length_eq,c0d]
   rw [hN]
   simp only [bs]
   refine b4D h hL hR hPm (by omega) o g' c3 hno kp' _ _ ?_
   intro d rest g2 ow2 kp2
   rw [a9b] at ow2
   simp only [a0o,a0p,a0g,bs,a0H]
   have hs:=b1w (n0:=h.length) (n:=2) ow2 (Nat.le_refl _) fun p _=>b2A _ _ _ p
   have hsc:scope h g2 (.tup [d,.int .i64 0])=some (.tup [frz h.length g2 3 d,.int .i64 0],h):=a1G (by simp) (.tup _ (by simp;exact ⟨a5j hs fun p _=>b4O _ p,.int _ _⟩)) kp2.1 kp2.2
   rw [hsc]
   exact .some ⟨rfl,.inr ⟨hl2,_,rfl,hs⟩⟩
 ·intro rest g hl2 kp
  rw [hlen] at hl2
  simp only [a0Q,a1L,a1r,a0g,a0i,bs,a0H]
  have hsc:scope h g (.tup [.nils,.int .i64 4])=some (.tup [.nils,.int .i64 4],h):=a1G (by simp) (.tup _ (by simp;exact ⟨.nils,.int _ _⟩)) kp.1 kp.2
  rw [hsc]
  exact .some ⟨rfl,.inl ⟨hl2,rfl⟩⟩
def evZ (a0 a2 a5:Int) (s7:Str):Ev:=⟨a0,0,a2,0,[],.nils,a5,0,s7,[],[],.nils,.nils _ _,by simp,.nils _ _,by simp⟩
theorem b4T (x y:Ev) (w:Int) (h:Hp) (hx:0≤x.a5∧x.a5≤253402300799999) (hy:0≤y.a5∧y.a5≤253402300799999):R a3X [.agg (evr x),.agg (evr y),.int .i64 w] h=some (.bool (decide (x.a5 - y.a5≤w)&&decide (y.a5 - x.a5≤w)),h):=by
 have q:∀ e:Ev,a0e tab a1h 5 (.fptr (evr e))=some (.fptr [.int .i64 e.a5,.int .i64 e.a6,.str e.s7,.str e.s8,e.fd]):=fun e=>id rfl
 have l:∀ e:Ev,a0f tab h ty3 (.fptr [.int .i64 e.a5,.int .i64 e.a6,.str e.s7,.str e.s8,e.fd])=some (.int .i64 e.a5):=fun e=>id rfl
 have w1:IntKind.wrap .i64 (x.a5 - y.a5)=x.a5 - y.a5:=wrap_i64 (by omega) (by omega)
 have w2:IntKind.wrap .i64 (y.a5 - x.a5)=y.a5 - x.a5:=wrap_i64 (by omega) (by omega)
 rw [b6j]
 simp only [b3s,a2S,bs,q,l,a0n,w1,w2,a0O,b9Y]
 cases hd:decide (x.a5 - y.a5≤w) with
 | true=>simp only [a0u,if_true,bs,q,l,a0n,w1,w2,a0O,a0l,a0y,Bool.true_and,b9Y]
 | false=>simp only [a0u,a1n,reduceCtorEq,b9Z,if_false,bs,a0l,a0y,Bool.false_and,b9Y]
theorem b7f (h:Hp):R a5H [] h=some (.bool true,h):=by
 have b5:a1o tab a1h [5] [.int .i64 5]=some (.agg (evr (evZ 0 0 5 []))):=id rfl
 have b7:a1o tab a1h [5] [.int .i64 7]=some (.agg (evr (evZ 0 0 7 []))):=id rfl
 have h1:∀ g,R a3X [.agg (evr (evZ 0 0 5 [])),.agg (evr (evZ 0 0 7 [])),.int .i64 2] g=some (.bool true,g):=fun g=>b4T _ _ 2 g ⟨by decide,by decide⟩ ⟨by decide,by decide⟩
 have h2:∀ g,R a3X [.agg (evr (evZ 0 0 5 [])),.agg (evr (evZ 0 0 7 [])),.int .i64 1] g=some (.bool false,g):=fun g=>b4T _ _ 1 g ⟨by decide,by decide⟩ ⟨by decide,by decide⟩
 rw [b6h]
 simp only [b3q,b5,b7,bs,h1,a0u,a0w,if_true,h2,a0Y,c0h,a0l,a0y]
def a5p (hst:Int) (n:Nat):List Ev:=(List.range n).map fun (i:Nat)=>evZ hst (i:Int) 0 [116]
theorem a1U (hst:Int) (n:Nat):(a5p hst n).length=n:=by simp [-bind_some, a5p]
theorem a8C (hst:Int) (n:Nat):a5p hst (n+1)=a5p hst n++[evZ hst n 0 [116]]:=by simp [-bind_some, a5p,List.range_succ]
theorem a4S {hst:Int} {n:Nat} {e:Ev} (h:e∈a5p hst n):∃ i:Nat,e=evZ hst i 0 [116]:=by
 obtain ⟨i,_,rfl⟩:=c0t.1 h
 exact ⟨i,rfl⟩
theorem b2C {key:Str} {w:Int} {L R:List Ev} (h:∀ x∈L,∀ y∈R,mtE key w x y=true):(prs key w L R).length=L.length*R.length:=by
 unfold prs
 induction L with
 | nil=>simp [-bind_some]
 | cons x L ih =>
  have h1:R.filter (mtE key w x)=R:=List.filter_eq_self.2 fun y hy=>h x (by simp) y hy
  rw [List.flatMap_cons,c0c,ih fun y hy=>h y (by simp [-bind_some, hy]),c0d,h1,c0n,Nat.add_mul]
  omega
theorem b9y (i k:Nat):mtE [64,116,114,97,99,101] 0 (evZ 1 i 0 [116]) (evZ 2 k 0 [116])=true:=by
 have h1:∀ a b:Int,a3a (evZ a b 0 [116]) [64,116,114,97,99,101]=([116],true):=fun a b=>rfl
 unfold mtE
 rw [h1,h1]
 rfl
theorem b3U {g:Hp} {n0:Nat} (hn0:n0≤g.length) {hst:Int} {i:Nat} (hi:i≤1000) {x:D} (ow:Own g n0 a1h 10 ((a5p hst i).map evr) x) {β:Type} {f:D × Hp→Option β} {Q:β→Prop}
  (k:∀ x' g',Own g' n0 a1h 10 ((a5p hst (i+1)).map evr) x'→g.length≤g'.length→(∀ q,q<n0→g'[q]?=g[q]?)→(∀ q,q<g.length→¬ x.inOb q→g'[q]?=g[q]?)→Wp (f (x',g')) Q) :
  Wp ((a1o tab a1h [0,2,7] [.int .i64 hst,.int .i64 (i:Int),.str [116]]).bind fun t=>(a2w tab a2H 1 [0] [t]).bind fun u=>(a1a tab g a2H a2H x u).bind f) Q:=by
 have hb:a1o tab a1h [0,2,7] [.int .i64 hst,.int .i64 (i:Int),.str [116]]=some (.agg (evr (evZ hst i 0 [116]))):=id rfl
 have hs:a2w tab a2H 1 [0] [.agg (evr (evZ hst i 0 [116]))]=some (.sl 10 true [evr (evZ hst i 0 [116])]):=id rfl
 rw [hb]
 simp only [bs,hs]
 refine b7G (n0:=n0) (ys:=[evr (evZ hst i 0 [116])]) hn0 ow (a2T _ _ _ _) (by rw [c0d,a1U];simp [-bind_some];omega) fun x9 g3 o3 l3 b3 k3 _=>?_
 refine k x9 g3 ?_ l3 b3 k3
 rw [a8C,c0e]
 exact o3
theorem u8b {n:Int} (h:(decide (IntKind.u8.min≤n)&&decide (n≤IntKind.u8.max))=true):0≤n∧n<256:=by
 have h1:IntKind.u8.min=0:=rfl
 have h2:IntKind.u8.max=255:=rfl
 rw [h1,h2] at h
 simp at h
 omega
theorem b2u (n m:Int) (hn:0≤n∧n<256) (hm:0≤m∧m<256):∃ h',R1 a8I [.int .u8 n,.int .u8 m] []=some (.bool true,h'):=by
 suffices Wp (R1 a8I [.int .u8 n,.int .u8 m] []) (fun p=>p.1 = .bool true) by
  obtain ⟨⟨x,h'⟩,h1,rfl⟩:=this
  exact ⟨h',h1⟩
 have cnt:∀ n:Int,0≤n∧n<256→∃ c:Nat,c≤60∧IntKind.wrap .i64 (1+Int.tmod n 60)=(c:Int)∧a1J tab ty5 ty3 (.int .u8 n)=some (.int .i64 n):=fun n hn=>by
  have h1:Int.tmod n 60=n % 60:=Int.tmod_eq_emod_of_nonneg hn.1
  refine ⟨(1+n % 60).toNat,by omega,?_,?_⟩
  ·rw [h1,wrap_i64 (by omega) (by omega)];omega
  ·have hw:IntKind.wrap .i64 n=n:=wrap_i64 (by omega) (by omega)
   simp [-bind_some, b1V,hw]
 obtain ⟨c,c60,hc,cvn⟩:=cnt n hn
 obtain ⟨e,e60,he,cvm⟩:=cnt m hm
 rw [b6g]
 simp only [b3p,bs,b2D,b7f,a0Y,c0g,a0b,b9Z,if_false,b9Y]
 refine Wp.loop (fun k ds g=>∃ (i:Nat) (x a:D),ds=[x,.int .i64 (i:Int),a]∧k+i=c∧Own g 0 a1h 10 ((a5p 1 i).map evr) x)
  (fun r=>r.1 = .ext 0∧∃ x rest,r.2.1=x::rest∧Own r.2.2 0 a1h 10 ((a5p 1 c).map evr) x) c ⟨0,_,_,rfl,by omega,.inl ⟨rfl,rfl⟩⟩ ?_ ?_
 ·rintro k ds g ⟨i,x,a,rfl,hk,ow⟩
  simp only [a6z,a0g,a0i,bs,cvn,a6Y,show ¬ (60:Int)=0 by omega,if_false,a0k,hc,a0r,b9Y]
  refine Wp.dif ?_ ?_
  ·intro h0
   have h0:i<c:=by
    have:(i:Int)<(c:Int):=by simpa using h0
    omega
   have hw:=wi_ i (by omega)
   refine b3U (Nat.zero_le _) (by omega) ow fun x' g' o' _ _ _=>?_
   simp only [bs,a0k,hw]
   exact .some (.inl ⟨rfl,k - 1,by omega,i+1,_,_,rfl,by omega,o'⟩)
  ·intro h0
   have h0:i=c:=by
    have:¬ (i:Int)<(c:Int):=by simpa using h0
    omega
   subst h0
   exact .some (.inr ⟨by simp,rfl,_,_,rfl,ow⟩)
 rintro ⟨ex,ds,g⟩ ⟨rfl,x,rest,rfl,ow⟩
 simp only at ow
 simp only [a0o,a0p,a0g,a0i,bs,b9Y]
 refine Wp.loop (fun k ds g'=>∃ (i:Nat) (y a:D),ds=[y,.int .i64 (i:Int),a]∧k+i=e∧Own g' g.length a1h 10 ((a5p 2 i).map evr) y∧Keep g g')
  (fun r=>r.1 = .ext 2∧∃ y rest,r.2.1=y::rest∧Own r.2.2 g.length a1h 10 ((a5p 2 e).map evr) y∧Keep g r.2.2) e ⟨0,_,_,rfl,by omega,.inl ⟨rfl,rfl⟩,.refl _⟩ ?_ ?_
 ·rintro k ds g' ⟨i,y,a,rfl,hk,ow',kp⟩
  simp only [a6A,a0g,a0i,bs,cvm,a6Y,show ¬ (60:Int)=0 by omega,if_false,a0k,he,a0r,b9Y]
  refine Wp.dif ?_ ?_
  ·intro h0
   have h0:i<e:=by
    have:(i:Int)<(e:Int):=by simpa using h0
    omega
   have hw:=wi_ i (by omega)
   refine b3U kp.1 (by omega) ow' fun x' g2 o' l' b' _=>?_
   simp only [bs,a0k,hw]
   exact .some (.inl ⟨rfl,k - 1,by omega,i+1,_,_,rfl,by omega,o',⟨Nat.le_trans kp.1 l',fun q hq=>(b' q hq).trans (kp.2 q hq)⟩⟩)
  ·intro h0
   have h0:i=e:=by
    have:¬ (i:Int)<(e:Int):=by simpa using h0
    omega
   subst h0
   exact .some (.inr ⟨by simp,rfl,_,_,rfl,ow',kp⟩)
 rintro ⟨ex,ds,g'⟩ ⟨rfl,y,rest',rfl,ow',kp⟩
 simp only at ow' kp
 simp only [a0o,a0p,a0g,a0i,bs,b9Y]
 have ow2:Own g' 0 a1h 10 ((a5p 1 c).map evr) x:=ow.keep fun q _ hq=>kp.2 q (ow.lt hq).2
 have hall:(prs [64,116,114,97,99,101] 0 (a5p 1 c) (a5p 2 e)).length=c*e:=by
  rw [b2C fun x hx y hy=>?_,a1U,a1U]
  obtain ⟨i,rfl⟩:=a4S hx
  obtain ⟨k,rfl⟩:=a4S hy
  exact b9y i k
 have hje:∀ (hst:Int),0≤hst∧hst≤9→∀ k,∀ z∈a5p hst k,JE z:=fun hst hh k z hz=>by
  obtain ⟨i,rfl⟩:=a4S hz
  exact ⟨hh.1,hh.2,Int.le_refl 0,by show (0:Int)≤253402300799999;decide⟩
 have ce:c*e≤60*60:=Nat.mul_le_mul c60 e60
 have hw:IntKind.wrap .i64 ((c:Int)*(e:Int))=((c*e:Nat):Int):=by
  rw [show (c:Int)*(e:Int)=((c*e:Nat):Int) by simp]
  exact wrap_i64 (by omega) (by omega)
 have l1:a0X tab a2H x=some (.int .i64 (c:Int)):=by have:=b1r ow2;rwa [c0d,a1U] at this
 have l2:a0X tab a2H y=some (.int .i64 (e:Int)):=by have:=b1r ow';rwa [c0d,a1U] at this
 rcases b7J (a5p 1 c) (a5p 2 e) x y [64,116,114,97,99,101] 0 g' (.own ow2) (.own ow') (by rw [a1U];omega) (by rw [a1U];omega) (hje 1 (by decide) c) (hje 2 (by decide) e) (by unfold b5N;decide) with ⟨h1,h2⟩ | ⟨h1,d,h2,h3⟩
 ·rw [hall] at h1
  have d0:decide ((2000:Int)<((c*e:Nat):Int))=true:=decide_eq_true (by omega)
  simp only [h2,bs,a0K,c0a,c0b,l1,l2,a1A,hw,a1c,d0,a0b,if_true,a1z,decide_true,a0u,b0I,a0l,a0y,b9Y]
  have hsc:scope [] g' (.bool true)=some (.bool true,[]):=a1G (by simp) (.bool _) (Nat.zero_le _) fun q hq=>by simp at hq
  rw [hsc]
  exact .some rfl
 ·rw [hall] at h1
  have d0:decide ((2000:Int)<((c*e:Nat):Int))=false:=decide_eq_false (by omega)
  have l3:a0X tab a2p d=some (.int .i64 ((c*e:Nat):Int)):=by rw [b0L h3,hall]
  simp only [h2,bs,a0K,c0a,c0b,l1,l2,a1A,hw,a1c,d0,a0b,b9Z,if_false,if_true,a1z,decide_true,a0u,l3,a0l,a0y,b9Y]
  have hsc:scope [] g' (.bool true)=some (.bool true,[]):=a1G (by simp) (.bool _) (Nat.zero_le _) fun q hq=>by simp at hq
  rw [hsc]
  exact .some rfl
end Go.Proofs.YtkpnnfhodlanjaaDoor

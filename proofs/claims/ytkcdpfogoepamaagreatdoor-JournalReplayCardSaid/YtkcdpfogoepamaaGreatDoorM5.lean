/- Part 5 of the texts that the theorem needs: an interpreter on data, proved sound; the functions on data; laws about them. -/
import Derived.Test.YtkcdpfogoepamaaGreatDoorM4
set_option linter.unusedSimpArgs false
set_option linter.unusedVariables false
set_option linter.unnecessarySimpa false
set_option maxRecDepth 100000
namespace Go.Eng
abbrev eP:=@Bool.true_eq_false
abbrev im:=@List.pairwise_cons
abbrev jd:=@List.pairwise_append
abbrev j5:=@Decidable.not_not
abbrev j8:=@List.map_set
abbrev k9:=@or_false
abbrev l3:=@true_or
abbrev mV:=@false_or
abbrev np:=@List.mem_singleton
abbrev oZ:=@or_self
abbrev o0:=@or_true
abbrev q3:=@List.mem_iff_getElem?
abbrev w6:=@Int.add_mul
abbrev w9:=@List.all_cons
abbrev BV:=@List.length_set
abbrev B0:=@List.singleton_append
abbrev Ce:=@UInt8.lt_iff_toNat_lt
end Go.Eng
namespace Go.Proofs.YtkcdpfogoepamaaGreatDoor
open Go.Eng Go.Pi
open Option renaming bind_some → a7N
theorem QH (e:Ev) (m:Int) (h:J):R yf [.agg (bG e),.int .i64 m] h=some (.int .i64 (ig e m),h):=by
 apply Wp.val;have E:∀(c:J) (u:Int),h.length≤c.length→(∀b,b<h.length→c[b]?=h[b]?)→scope h c (.int .i64 u)=some (.int .i64 u,h):=λc u w x=>ff (by simp) (.int _ _) w x
 rw[UC];simp only[Jl,gq,bs,aL,bG,lU,lA,jh,eU,hX e.ft,e8,dE,cP];by_cases G:e.ls.length=0
 ·have v:(e.ls.length:Int)=0:=by omega
  simp only[v,cM,aK,aN,E h _ (bB _) (λ_ _=>rfl)];exact .some (by simp[-a7N,ig,G])
 by_cases ac:40<e.ls.length
 ·have v:¬(e.ls.length:Int)=0:=by omega
  have I:(40:Int)<(e.ls.length:Int):=by omega
  simp only[v,I,cM,bT,aU,aJ,aK,aN,E h _ (bB _) (λ_ _=>rfl)];exact .some (by simp[-a7N,ig,G,ac])
 have v:¬(e.ls.length:Int)=0:=by omega
 have I:¬(40:Int)<(e.ls.length:Int):=by omega
 have aj:ig e m=jP e.a3 m e.a2 e.ls:=by simp[-a7N,ig,G,ac]
 rw[aj];generalize ak:jP e.a3 m e.a2 e.ls=z;simp only[v,I,cM,bT,aU,aJ,aK,aN];refine Wp.loop (λD F c=>h.length≤c.length∧(∀b,b<h.length→c[b]?=h[b]?)∧∃T V X aa ab ai u,∃t:Int,∃d:Nat,F=[T,.int .i64 t,V,X,aa,.int .i64 d,ab,ai,u]∧D+d=e.ls.length∧jP e.a3 m t (e.ls.drop d)=z)
   (λf=>h.length≤f.2.2.length∧(∀b,b<h.length→f.2.2[b]?=h[b]?)∧((f.1 = .ext 1∧z=0)∨(f.1 = .ret∧Z 0 f.2.1 = .int .i64 z))) e.ls.length ⟨bB _,λ_ _=>rfl,_,_,_,_,_,_,_,_,0,rfl,rfl,ak⟩ ?_ ?_
 ·rintro D F c ⟨al,K,T,V,X,aa,ab,ai,u,t,d,rfl,ao,a⟩;simp only[Jm,aW,bL,bs,aL,lU,iB,jh,eU,hX e.ft,bS];refine Wp.dF ?_ ?_
  ·intro s;have s:d<e.ls.length:=fe s;have ae:e.ls[d]?=some e.ls[d]:=dG s;have ag:=eR d (by omega);have k:IntKind.wrap .i64 ((e.ls.length:Int) - 1)=(e.ls.length:Int) - 1:=bJ (by omega) (by omega);have M:(e.ls.drop (d+1)=[])↔(d:Int)=(e.ls.length:Int) - 1:=by
    rw[BM];omega
   rw[hS s]at a;generalize e.ls[d]=f at ae a;generalize af:e.ls.drop (d+1)=ap at a M;simp only[m0 e.ft,jJ,aN,eQ,ae,hU,bs,vW];generalize C:aG c dD 3 [[.int .i64 0,.int .i64 0,.str []]]=H;have ah:H[c.length]?=some (.row dD 3 [[.int .i64 0,.int .i64 0,.str []]]):=by rw[← C];exact PC _ _ _ _
   have ad:∀b,b<c.length→H[b]?=c[b]?:=λb N=>by rw[← C];exact PE _ _ _ _ N
   have am:H.length=c.length+1:=by rw[← C];exact PD _ _ _ _
   clear C;refine a6Y ah (by rfl) (by rfl) (by simp) (by rfl) λA P Q=>?_
   replace P:A[c.length]?=some (.row dD 3 [cR f]):=P;have q:h.length≤A.length:=by have:=Q.1;omega
   have p:∀b,b<h.length→A[b]?=h[b]?:=λb N=>((Q.2 b (by omega)).trans (ad b (by omega))).trans (K b N)
   clear ah ad am Q K;have o:A.row c.length 0=some [.int .i64 f.off,.int .i64 f.len,.str f.fj]:=dM P;simp only[bs,nH,nI,mh,eS,iC,j1,o,jS,il,jT,eB,k,e8,dH,gn,dE,bS];unfold jP at a;by_cases i:f.off=t
   ·by_cases j:f.len<1
    ·rw[cC (λg=>g.2.1 j)]at a;simp only[i,j,dU,eF,bT,cM,bZ,aN,aJ,aU,reduceCtorEq,bs,bW,aK,iB,eU,nH,nI,mh,eS,iC,j1,o,jS,il,jT,eB,k,e8,dH,gn,dE,bS];exact .some (.inr ⟨by simp,q,p,.inr ⟨rfl,by simp[-a7N,a]⟩⟩)
    ·by_cases l:IntKind.wrap .i64 (e.a3 - t)<f.len
     ·rw[cC (λg=>g.2.2.1 l)]at a;simp only[i,j,l,dU,eF,bT,cM,bZ,aN,aJ,aU,reduceCtorEq,bs,bW,aK,iB,eU,nH,nI,mh,eS,iC,j1,o,jS,il,jT,eB,k,e8,dH,gn,dE,bS];exact .some (.inr ⟨by simp,q,p,.inr ⟨rfl,by simp[-a7N,a]⟩⟩)
     ·by_cases y:(d:Int)=(e.ls.length:Int) - 1
      ·have L:decide ((d:Int)=(e.ls.length:Int) - 1)=true:=by simpa using y
       by_cases r:f.len<IntKind.wrap .i64 (e.a3 - t)
       ·rw[cC (λg=>g.2.2.2 ⟨M.2 y,r⟩)]at a;simp only[i,j,l,L,dU,eF,fw,bT,cM,bZ,fq,aN,aJ,aU,reduceCtorEq,bs,bW,aK,iB,eU,nH,nI,mh,eS,iC,j1,o,jS,il,jT,eB,k,e8,dH,gn,dE,bS,r];exact .some (.inr ⟨by simp,q,p,.inr ⟨rfl,by simp[-a7N,a]⟩⟩)
       ·rw[bO ⟨i,j,l,λg=>r g.2⟩]at a;by_cases n:m<(f.fj.length:Int)
        ·rw[bO n]at a;simp only[i,j,l,L,dU,eF,fw,bT,cM,bZ,fq,aN,aJ,aU,reduceCtorEq,bs,bW,aK,iB,eU,nH,nI,mh,eS,iC,j1,o,jS,il,jT,eB,k,e8,dH,gn,dE,bS,r,n];exact .some (.inr ⟨by simp,q,p,.inr ⟨rfl,by simp[-a7N,a]⟩⟩)
        ·rw[cC n]at a;simp only[i,j,l,L,dU,eF,fw,bT,cM,bZ,fq,aN,aJ,aU,reduceCtorEq,bs,bW,aK,iB,eU,nH,nI,mh,eS,iC,j1,o,jS,il,jT,eB,k,e8,dH,gn,dE,bS,r,n,cO,ag];exact .some (.inl ⟨rfl,D - 1,by omega,q,p,_,_,_,_,_,_,_,_,d+1,rfl,by omega,by rw[af];exact a⟩)
      ·rw[bO ⟨i,j,l,λg=>y (M.1 g.1)⟩]at a;have r:True:=trivial;by_cases n:m<(f.fj.length:Int)
       ·rw[bO n]at a;simp only[i,j,l,y,dU,eF,fw,bT,cM,bZ,fq,aN,aJ,aU,reduceCtorEq,bs,bW,aK,iB,eU,nH,nI,mh,eS,iC,j1,o,jS,il,jT,eB,k,e8,dH,gn,dE,bS,r,n];exact .some (.inr ⟨by simp,q,p,.inr ⟨rfl,by simp[-a7N,a]⟩⟩)
       ·rw[cC n]at a;simp only[i,j,l,y,dU,eF,fw,bT,cM,bZ,fq,aN,aJ,aU,reduceCtorEq,bs,bW,aK,iB,eU,nH,nI,mh,eS,iC,j1,o,jS,il,jT,eB,k,e8,dH,gn,dE,bS,r,n,cO,ag];exact .some (.inl ⟨rfl,D - 1,by omega,q,p,_,_,_,_,_,_,_,_,d+1,rfl,by omega,by rw[af];exact a⟩)
   ·rw[cC (λg=>i g.1)]at a;simp only[i,dU,fw,bT,cM,bZ,aN,aJ,aU,reduceCtorEq,bs,bW,aK,iB,eU,nH,nI,mh,eS,iC,j1,o,jS,il,jT,eB,k,e8,dH,gn,dE,bS];exact .some (.inr ⟨by simp,q,p,.inr ⟨rfl,by simp[-a7N,a]⟩⟩)
  ·intro s;have s:¬d<e.ls.length:=by
    have:¬(d:Int)<e.ls.length:=by simpa using s
    omega
   rw[kD (by omega)]at a;exact .some (.inr ⟨by simp,al,K,.inl ⟨rfl,a.symm⟩⟩)
 ·rintro⟨an,F,c⟩ ⟨w,x,B⟩;simp only at w x B;rcases B with⟨rfl,rfl⟩|⟨rfl,B⟩
  ·simp only[dA,cN,bs,cP,E c 0 w x];exact .some rfl
  ·simp only[jQ,jG,jX,aW,bs,B,cP,E c z w x];exact .some rfl
def dn{α:Type}(c:α→α→Int)(a:Nat):Nat→List α→List α
 |0,l=>l
 | j+1,l=>match l[j+1]?,l[j]? with
  |some x,some y=>if a<j+1∧c x y<0 then dn c a j ((l.set (j+1) y).set j x)else l
  |_,_=>l
theorem xM{α:Type}(c:α→α→Int)(a:Nat):∀(j:Nat) (l:List α),(dn c a j l).length=l.length
 |0,l=>rfl
 | j+1,l=>by
  unfold dn;split
  ·split
   ·rw[xM c a j];simp[-a7N]
   ·rfl
  ·rfl
def jO{α:Type}(c:α→α→Int)(a:Nat):Nat→Nat→List α→List α
 |_,0,l=>l
 |i,n+1,l=>jO c a (i+1) n (dn c a i l)
theorem OC{α:Type}(c:α→α→Int)(a:Nat):∀(n i:Nat) (l:List α),(jO c a i n l).length=l.length
 |0,i,l=>rfl
 | n+1,i,l=>by
  unfold jO;rw[OC c a n,xM]
theorem zZ{α:Type}(f:α→List D)(l:List α)(i:Nat)(x:α):(l.map f).set i (f x)=(l.set i x).map f:=by rw[j8]
theorem GR{h:J}{a k T z:Nat}{rows:List (List D)}{p:aD × aD}(c:h[a]?=some (.row T z rows))(b:rows[k]?=some (aM p)):Y tab h bE (.ptr a k 0)=some (.agg (aM p)):=by
 rw[ze,dM c,b];rfl
theorem a0N(c:aD × aD→aD × aD→Int)(cmp:D)(K:∀x y g,hj R cmp [.agg (aM x),.agg (aM y)] g=some (.int .i64 (c x y),g))(f N a:Nat)(af:N≤1000000000){G:Type}{z:bK→Option G}{Q:G→Prop}
  (l:List (aD × aD)) (m:l.length=N) (j:Nat) (u:j<N) (h:J) (e:h[f]?=some (.row bE 2 (l.map aM))) (b:D)
  (k:∀x y h',h'[f]?=some (.row bE 2 ((dn c a j l).map aM))→bM f h h'→Wp (z (.ext 2,[x,y],h')) Q) :
  Wp ((cA (A3 (.aZ 2 f 0 N) (.int .i64 a) cmp) [.int .i64 j,b] h).bind z) Q:=by
 generalize d:dn c a j l=p at k;refine Wp.loop (λw q g=>∃b,∃j:Nat,∃v:List (aD × aD),w=j∧q=[.int .i64 j,b]∧v.length=N∧j<N∧g[f]?=some (.row bE 2 (v.map aM))∧bM f h g∧dn c a j v=p)
  (λo=>o.1 = .ext 2∧(∃x y,o.2.1=[x,y])∧o.2.2[f]?=some (.row bE 2 (p.map aM))∧bM f h o.2.2) j ⟨b,j,l,rfl,rfl,m,u,e,.refl _ _,d⟩ ?_ ?_
 ·clear e m u d l j;rintro w q g ⟨b,j,l,rfl,rfl,m,u,e,sm,d⟩;simp only[A3,aW,bL,bs,aL,dE];cases w with
  | zero =>
   have L:¬(a:Int)<((0:Nat):Int):=by omega
   have d:l=p:=d;subst d;simp only[L,bT,bZ,gk,aU,aJ,reduceCtorEq,bs,bW,aK];exact .some (.inr ⟨by simp,rfl,⟨_,_,rfl⟩,e,sm⟩)
  | succ j =>
   have r:l[j+1]?=some l[j+1]:=dG (by omega);have i:l[j]?=some l[j]:=dG (by omega);unfold dn at d;rw[r,i]at d;simp only at d;generalize l[j+1]=x at r d;generalize l[j]=y at i d;by_cases A:a<j+1
   ·have s:(a:Int)<((j+1:Nat):Int):=by omega
    have M:IntKind.wrap .i64 (((j+1:Nat):Int) - 1)=(j:Int):=by
     rw[bJ (by omega) (by omega)];omega
    have P:(0:Int)≤((j+1:Nat):Int)∧((j+1:Nat):Int)<(N:Int):=by omega
    have B:(0:Int)≤(j:Int)∧(j:Int)<(N:Int):=by omega
    have C:(l.map aM)[j+1]?=some (aM x):=by rw[eE,r];rfl
    have T:(l.map aM)[j]?=some (aM y):=by rw[eE,i];rfl
    simp only[s,cM,bZ,gk,aN,mm,P,B,jq,eS,eQ,eB,M,bs,GR e C,GR e T,K,bS,bW];by_cases n:c x y<0
    ·rw[bO ⟨A,n⟩]at d;simp only[n,cM,aK,aN];refine nY e C (by rfl) (by simp[-a7N,aM]) (by rfl) λad E X=>?_
     rw[show dZ (aM x) 0 (cX (.agg (aM y)))=aM y from id rfl,zZ]at E;have V:((l.set (j+1) y).map aM)[j]?=some (aM y):=by
      rw[eE,kZ (by omega),i];rfl
     try simp only[bs,B,jq,aN,eS,eQ]
     refine nY E V (by rfl) (by simp[-a7N,aM]) (by rfl) λae F aa=>?_
     rw[show dZ (aM y) 0 (cX (.agg (aM x)))=aM x from id rfl,zZ]at F
     try simp only[bs]
     exact .some (.inl ⟨rfl,j,by omega,_,j,_,rfl,rfl,by simpa using m,by omega,F,(sm.trans X).trans aa,d⟩)
    ·rw[cC (λt=>n t.2)]at d;subst d;simp only[n,bT,aK,aU,aJ];exact .some (.inr ⟨by simp,rfl,⟨_,_,rfl⟩,e,sm⟩)
   ·rw[cC (λt=>A t.1)]at d;subst d;have s:¬(a:Int)<((j+1:Nat):Int):=by omega
    simp only[s,bT,bZ,gk,aU,aJ,reduceCtorEq,bs,bW,aK];exact .some (.inr ⟨by simp,rfl,⟨_,_,rfl⟩,e,sm⟩)
 ·rintro⟨x,q,g⟩ ⟨rfl,⟨ab,ac,rfl⟩,H,I⟩;exact k ab ac g H I
theorem a3G(c:aD × aD→aD × aD→Int)(cmp:D)(C:∀x y g,hj R cmp [.agg (aM x),.agg (aM y)] g=some (.int .i64 (c x y),g))(f N a b:Nat)(A:N≤1000000000)(M:a<b∨(a=b∧b≤N))(P:b≤N)
  (l:List (aD × aD)) (E:l.length=N) (h:J) (F:h[f]?=some (.row bE 2 (l.map aM))) :
  ∃d h',R rH [.aZ 2 f 0 N,.int .i64 a,.int .i64 b,cmp] h=some (d,h')∧h'[f]?=some (.row bE 2 ((jO c a (a+1) (b - (a+1)) l).map aM))∧bM f h h':=by
 suffices Wp (R rH [.aZ 2 f 0 N,.int .i64 a,.int .i64 b,cmp] h) (λu=>u.2[f]?=some (.row bE 2 ((jO c a (a+1) (b - (a+1)) l).map aM))∧bM f h u.2) by
  obtain⟨⟨x,h'⟩,o,p⟩:=this;exact⟨x,h',o,p⟩
 rw[Nf];have G:=eR a (by omega);simp only[A1,bs,aL,cO,G];generalize i:jO c a (a+1) (b - (a+1)) l=m;refine Wp.loop (λt n g=>∃v w z,∃e:Nat,∃j:List (aD × aD),n=[.int .i64 e,v,w,z]∧t=b - e∧j.length=N∧g[f]?=some (.row bE 2 (j.map aM))∧bM f h g∧jO c a e (b - e) j=m)
  (λq=>q.1 = .ext 0∧q.2.2[f]?=some (.row bE 2 (m.map aM))∧bM f h q.2.2) (b - (a+1)) ⟨_,_,_,a+1,l,rfl,rfl,E,F,.refl _ _,i⟩ ?_ ?_
 ·rintro t n g ⟨v,w,z,e,j,rfl,rfl,r,s,sm,i⟩;simp only[A2,aW,bL,bs,aL,bS];refine Wp.dF ?_ ?_
  ·intro k;have k:e<b:=by
    have:(e:Int)<(b:Int):=by simpa using k
    omega
   have B:b - e=(b - (e+1))+1:=by omega
   rw[B]at i;unfold jO at i;have H:=eR e (by omega);refine a0N c cmp C f N a A j r e (by omega) g s _ λx y L I K=>?_
   simp only[dA,ga,cN,bs,aW,cO,H];exact .some (.inl ⟨rfl,b - (e+1),by omega,_,_,_,e+1,_,rfl,rfl,by rw[xM];exact r,I,sm.trans K,i⟩)
  ·intro k;have k:¬e<b:=by
    have:¬(e:Int)<(b:Int):=by simpa using k
    omega
   rw[show b - e=0 by omega]at i;have i:j=m:=i;subst i;exact .some (.inr ⟨by simp,rfl,s,sm⟩)
 ·rintro⟨x,n,g⟩ ⟨rfl,o,p⟩;simp only[dA,lz,bs];exact .some ⟨o,p⟩
theorem Cy:∀(a b:aD),Lib.compareBytes a b<0↔Op.bytesLess a b=true
 |[],[]=>by simp[-a7N,Lib.compareBytes,Op.bytesLess]
 |[],_::_=>by simp[-a7N,Lib.compareBytes,Op.bytesLess]
 |_::_,[]=>by simp[-a7N,Lib.compareBytes,Op.bytesLess]
 | x::a,y::b=>by
  have g:=Cy a b;simp only[Lib.compareBytes,Op.bytesLess];by_cases c:x<y
  ·simp[-a7N,c]
  ·by_cases d:y<x
   ·have e:¬x=y:=λf=>by subst f;exact c d
    simp[-a7N,c,d,e]
   ·have e:x=y:=by
      apply UInt8.toNat_inj.1;have:=mt Ce.2 c;have:=mt Ce.2 d;omega
    subst e;simp[-a7N,c,g]
def cF(x y:aD × aD):Int:=Lib.compareBytes x.1 y.1
theorem a3D(a b:aD)(h:J):R Dr [.str a,.str b] h=some (.int .i64 (Lib.compareBytes a b),h):=by
 rw[UM];simp only[Jv,bs,UQ,JA,a6Z,cP]
theorem a3C(x y:aD × aD)(h:J):R rG [.agg (aM x),.agg (aM y)] h=some (.int .i64 (cF x y),h):=by
 rw[UL];simp only[Ju,bs,gq,rB,rC,a3D,cP,cF]
theorem SE(x y:aD × aD)(h:J):hj R (.fn (.func rG) [] []) [.agg (aM x),.agg (aM y)] h=some (.int .i64 (cF x y),h):=by
 rw[re];exact a3C x y h
theorem OG(cs:List D)(i:Int)(a:0≤i)(b:i<256)(c:i.toNat<cs.length):aO tab Ao (.aE cs) (.int .u8 i)=some (.aE (cs.drop i.toNat)):=by
 have:=ZV (T:=tab) (t:=Ao) (n:=256) (z:=1) (i:=H8) (j:=iE) (id rfl) (id rfl) (id rfl) (id rfl) (by omega) (cs:=cs) (k :=.u8) a b (by omega)
 rwa [B6]at this
theorem OO:pL.length=256:=by decide
theorem GK:nO.length=256:=by simp[-a7N,nO,OO]
theorem OP(i:Nat)(hi:i<256):∃z,nO.drop i = .int .u8 z::nO.drop (i+1)∧pL[i]?=some z:=by
 have b:=OO;have a:=GK;refine⟨pL[i]'(by omega),?_,dG (by omega)⟩;rw[hS (by omega)];simp[-a7N,nO]
def OR(z:Int):Bool:=decide (IntKind.wrap .u8 (BitVec.ofInt IntKind.u8.bits z &&& BitVec.ofInt IntKind.u8.bits 2).toNat≠0)
def OS(z:Int):Bool:=decide (IntKind.wrap .u8 (BitVec.ofInt IntKind.u8.bits z &&& BitVec.ofInt IntKind.u8.bits 3).toNat≠0)
theorem ON:∀i:Fin 256,(pL[i.val]?).map OR=some (mo i.val)∧(pL[i.val]?).map OS=some (sT i.val||mo i.val):=by decide
theorem a3F(c:UInt8)(h:J):R Dt [.int .u8 c.toNat] h=some (.bool (mo c.toNat),h):=by
 have a:c.toNat<256:=c.toNat_lt;obtain⟨g,f,d⟩:=OP c.toNat a;have b:=(ON ⟨c.toNat,a⟩).1;simp only[d,hU,mJ]at b;have e:=GK;rw[UO];simp only[Jx,bs,OG nO c.toNat (by omega) (by omega) (by rw[e];simpa using a),eQ,f,tw,xH,dH,cP,← b,OR]
theorem HG(c:UInt8)(h:J):R Du [.int .u8 c.toNat] h=some (.bool (pY c.toNat),h):=by
 have a:c.toNat<256:=c.toNat_lt;obtain⟨i,f,d⟩:=OP c.toNat a;have b:=(ON ⟨c.toNat,a⟩).2;simp only[d,hU,mJ]at b;have e:=GK;rw[UP];simp only[OS]at b;simp only[Jy,bs,OG nO c.toNat (by omega) (by omega) (by rw[e];simpa using a),eQ,f,tw,xH,dH,e8,pY,b];cases g:(sT c.toNat||mo c.toNat)<;>simp[-a7N]
theorem OT(s:aD)(h:J)(u:Nat)(E:h[u]?=some (.row cD 1 (iU s)))(D:s.length≤9223372036854775807){y:Type}(n:bK→Option y)(X:Bool→Option y)(C:J)
   (z:∀r,n (.ret,.bool false::r,h)=X false) (A:∀r,n (.ext 0,r,h)=X true):∀(i d:aD),s=d++i→∀a b e f,
   (cA (sn (.aZ 1 u 0 s.length,C) (.int .i64 s.length)) [a,b,.int .i64 d.length,e,f] h).bind n=X (i.all lG):=by
 intro i
 induction i with
 | nil =>
  rintro d rfl a b e f;rw[iX];simp[-a7N,sn,A]
 | cons c i x =>
  rintro d rfl a b e f;have w:IntKind.wrap .i64 ((d.length:Int)+1)=(d++[c]).length:=by
   rw[bJ (by omega) (by simp at D;omega)];simp[-a7N]
  have m:(d.length:Int)<(d++c::i).length:=by simp;omega
  rw[iX];generalize p:d++c::i=v at *;have B:(iU v)[d.length]?=some [.int .u8 c.toNat]:=by rw[← p];simp[-a7N,iU]
  have q:Y tab h cD (.ptr u d.length 0)=some (.int .u8 c.toNat):=by
   rw[zh,dM E,B];rfl
  have o:(0:Int)≤(d.length:Int)∧(d.length:Int)<(v.length:Int):=⟨by omega,m⟩
  cases j:pY c.toNat
  ·by_cases l:(c.toNat:Int)=46
   ·have:=x (d++[c]) (by simp[-a7N,← p]) a (.int .u8 c.toNat) (.bool true) (.bool false);simp only[← w]at this;have F:pY 46=false:=rfl;have g:=HG c h;rw[j]at g;have k:lG c=true:=by simp[-a7N,lG,j,l]
    have t:decide ((c.toNat:Int)≠46)=false:=by simp[-a7N,l]
    simp only[sn,aW,bL,bs,bS,m,cM,aK,aN,vI,o,jq,eS,eQ,q,g,gB,gb,bZ,dH,t,bW,aU,aJ,cO,w9,k,wG];exact this
   ·have g:=HG c h;rw[j]at g;have k:lG c=false:=by simp[-a7N,lG,j,l]
    have t:decide ((c.toNat:Int)≠46)=true:=by simp[-a7N,l]
    simp only[sn,aW,bL,bs,bS,m,cM,aK,aN,vI,o,jq,eS,eQ,q,g,gB,gb,bZ,dH,t,bW,w9,k,l7,z]
  ·have:=x (d++[c]) (by simp[-a7N,← p]) a (.int .u8 c.toNat) (.bool true) (.bool false);simp only[← w]at this;have g:=HG c h;rw[j]at g;have k:lG c=true:=by simp[-a7N,lG,j]
   simp only[sn,aW,bL,bs,bS,m,cM,aK,aN,vI,o,jq,eS,eQ,q,g,gB,fy,bZ,aU,aJ,reduceCtorEq,bW,cO,w9,k,wG];exact this
theorem a3A(s:aD)(h:J):R Dq [.str s] h=some (.bool (ic s),h):=by
 have q:∀(k:J) (g:Bool),h.length≤k.length→(∀p,p<h.length→k[p]?=h[p]?)→scope h k (.bool g)=some (.bool g,h):=λk g x y=>ff (by simp) (.bool _) x y
 rw[UK];cases s with
 | nil =>
  simp only[sj,bs,kc,lr,bZ,gk,reduceCtorEq,aJ,bW,aN,aK,cP,eP,q h _ (bB _) (λ_ _=>rfl)];rfl
 | cons a b =>
  have n:((a::b:aD)==[])=false:=by simp
  by_cases l:(32:Int)<((a::b).length:Int)
  ·have A:ic (a::b)=false:=by
     have:¬(a::b).length≤32:=by omega
     simp[-a7N,ic];intro C;simp at this;omega
   simp only[sj,bs,kc,n,bZ,gk,aN,gn,dE,l,cM,reduceCtorEq,aJ,bW,aK,cP,eP,aU,fq,pC,q h _ (bB _) (λ_ _=>rfl),A]
  ·have B:(a::b).length≤32:=by omega
   have i:=HU (a::b) 0 a rfl;have i:mR tab bH (.str (a::b)) (.int .i64 0)=some (.int .u8 a.toNat):=i;have j:=a3F a h;have v:Rq cD h (.str (a::b))=some (.aZ 1 h.length 0 (a::b).length,aG h cD 1 (iU (a::b))):=bO (jD (by omega) (by omega));have w:=PC h cD 1 (iU (a::b));have o:∀g,scope h (aG h cD 1 (iU (a::b))) (.bool g)=some (.bool g,h):=λg=>q _ _ (by rw[PD];omega) λp f=>PE _ _ _ _ f
   have r:∀(e:Bool),(mo a.toNat||decide ((a.toNat:Int)=95))=e→ic (a::b)=(e&&(a::b).all lG):=λe z=>by
    simp only[ic,B,cM,wG,z]
   cases f:mo a.toNat
   ·rw[f]at j;by_cases m:(a.toNat:Int)=95
    ·have t:decide ((a.toNat:Int)≠95)=false:=by simp[-a7N,m]
     rw[r true (by simp[-a7N,f,m])];simp only[sj,bs,aL,kc,n,bZ,gk,aN,gn,dE,l,bT,reduceCtorEq,aJ,bW,aK,aU,i,j,gB,gb,dH,t,v,GW];have:=OT (a::b) (aG h cD 1 (iU (a::b))) h.length w (by omega) (λc=>(some ((bX 0 c.1),[(Z 0 c.2.1),(Z 1 c.2.1),(Z 2 c.2.1),(Z 3 c.2.1),(Z 4 c.2.1)],c.2.2)).bind λd=>cI d.1 (scope h d.2.2 (.bool true)) λu=>dC u (scope h d.2.2 (aF [Z 0 d.2.1]))) (λe=>some (.bool e,h)) (aG h cD 1 (iU (a::b))) (λb=>by simp[-a7N,o]) (λb=>by simp[-a7N,o]) (a::b) [] rfl (.bool false) .any .any .any;simpa using this
    ·have t:decide ((a.toNat:Int)≠95)=true:=by simp[-a7N,m]
     rw[r false (by simp[-a7N,f,m])];simp only[sj,bs,kc,n,bZ,gk,aN,gn,dE,l,bT,reduceCtorEq,aJ,bW,aK,aU,i,j,gB,gb,dH,t,cP,q h _ (bB _) (λ_ _=>rfl),l7]
   ·rw[f]at j;rw[r true (by simp[-a7N,f])];simp only[sj,bs,aL,kc,n,bZ,gk,aN,gn,dE,l,bT,reduceCtorEq,aJ,bW,aK,aU,i,j,gB,fy,v,GW,fq];have:=OT (a::b) (aG h cD 1 (iU (a::b))) h.length w (by omega) (λc=>(some ((bX 0 c.1),[(Z 0 c.2.1),(Z 1 c.2.1),(Z 2 c.2.1),(Z 3 c.2.1),(Z 4 c.2.1)],c.2.2)).bind λd=>cI d.1 (scope h d.2.2 (.bool true)) λu=>dC u (scope h d.2.2 (aF [Z 0 d.2.1]))) (λe=>some (.bool e,h)) (aG h cD 1 (iU (a::b))) (λb=>by simp[-a7N,o]) (λb=>by simp[-a7N,o]) (a::b) [] rfl (.bool false) .any .any .any;simpa using this
def k1(h:J)(l:List (aD × aD))(d:D):Prop:=aI 2 aM l d∨∃a,d = .aZ 2 a 0 l.length∧h[a]?=some (.row bE 2 (l.map aM))
theorem zH{h:J}{l:List (aD × aD)}{d:D}(a:k1 h l d):bC tab bQ d=some (.int .i64 l.length):=by
 rcases a with a|⟨b,rfl,_⟩
 ·exact hZ a
 ·exact O8 _ _ _ _
theorem wa{h:J}{l:List (aD × aD)}{d:D}(a:k1 h l d)(i:Nat)(p:aD × aD)(b:l[i]?=some p):∃c,aO tab bQ d (.int .i64 i)=some c∧Y tab h bE c=some (.agg (aM p)) ∧
  ∃j,aB tab bE 0 c=some j∧Y tab h bH j=some (.str p.1):=by
 have m:=(bR.1 b).1;rcases a with a|⟨g,rfl,e⟩
 ·exact⟨.aE (aM p),by rw[k7 a];simp[-a7N,b],rD p h,.aE (aM p),rB p,rC p h⟩
 ·have f:(l.map aM)[i]?=some (aM p):=by rw[eE,b];rfl
  have k:(0:Int)≤(i:Int)∧(i:Int)<(l.length:Int):=by omega
  refine⟨.ptr g i 0,by rw[mm];simp[-a7N,k],GR e f,.ptr g i 0,by rw[rA],?_⟩;rw[j1,dM e,f];rfl
theorem k1.cL{h h':J}{l:List (aD × aD)}{d:D}(a:k1 h l d)(f:∀(b T z:Nat) (rows:List (List D)),h[b]?=some (Ob.row T z rows)→h'[b]?=h[b]?):k1 h' l d:=by
 rcases a with a|⟨e,rfl,c⟩
 ·exact .inl a
 ·exact .inr ⟨e,rfl,by rw[f e _ _ _ c];exact c⟩
theorem Ik(l:List (aD × aD))(d:D)(h:J)(p:aI 2 aM l d)(u:l.length≤1000000):∃d' h',R rE [d] h=some (d',h')∧h.length≤h'.length∧(∀f,f<h.length→h'[f]?=h[f]?) ∧
  ((l=[]∧aI 2 aM [] d')∨∃a,h.length≤a∧d' = .aZ 2 a 0 l.length∧h'[a]?=some (.row bE 2 (l.map aM))):=by
 rw[Uf];rcases p with⟨rfl,rfl⟩|⟨b,rfl⟩
 ·exact⟨.aA,h,by
    have e:O tab .eql bQ .aA .aA=some (.bool true):=id rfl;simp[-a7N,AG,e],bB _,λ_ _=>rfl,.inl ⟨rfl,.aA _ _⟩⟩
 ·obtain⟨g,h',k,q,s,r⟩:=uL (T:=tab) (t:=bQ) (i:=Ai) (j:=wu) (h:=h) (id rfl) (id rfl) (id rfl) (by decide) (y :=.sl 2 b (l.map aM)) (hC _ _ _ _) (jD (by have:wu.gf=32:=rfl;rw[this,fN];omega) (by rw[fN];omega));have m:dB tab h bQ bQ (.sl 2 true []) (.sl 2 b (l.map aM))=some (g,h'):=k;have e:O tab .eql bQ (.sl 2 b (l.map aM)) .aA=some (.bool false):=id rfl;refine⟨g,h',?_,q,s,?_⟩
  ·simp only[AG,bs,e,aK,aU,aJ,Sz,m,cP]
  ·rcases r with⟨rfl,c⟩|⟨rfl,c⟩|⟨a,n,rfl,o⟩
   ·have:l=[]:=by simpa using c
    exact .inl ⟨this,.inr ⟨true,rfl⟩⟩
   ·have:l=[]:=by simpa using c
    exact .inl ⟨this,.aA _ _⟩
   ·exact .inr ⟨a,n,by rw[fN];rfl,o⟩
def kP(l:List (aD × aD)):List (aD × aD):=jO cF 0 1 (l.length - 1) l
theorem Q4(l:List (aD × aD)):(kP l).length=l.length:=OC _ _ _ _ _
def kb:List (aD × aD)→Bool
 |x::y::r=>y.1==x.1||kb (y::r)
 |_=>false
def fJ(l:List (aD × aD)):Int × List (aD × aD):=if 32<l.length then(4,[])else if l.all (λa=>ic a.1)=true then(if kb (kP l)=true then(7,[])else(0,kP l))else(6,[])
theorem a0K(l:List (aD × aD))(d:D)(h:J)(I:aI 2 aM l d)(M:l.length≤1000){F:Type}{o:bK→Option F}{Q:F→Prop}(a b c e f:D)
  (E:l.all (λp=>ic p.1)=true→∀x y z w,Wp (o (.ext 0,[a,b,x,y,z,w],h)) Q) (k2:¬l.all (λp=>ic p.1)=true→∀x y z w,Wp (o (.ret,[.aA,.int .i64 6,x,y,z,w],h)) Q) :
  Wp ((cA (AV d (.int .i64 l.length)) [a,b,c,.int .i64 0,e,f] h).bind o) Q:=by
 generalize G:l.all (λp=>ic p.1)=q at E k2;refine Wp.loop (λu r s=>s=h∧∃c e f,∃g:Nat,r=[a,b,c,.int .i64 g,e,f]∧u+g=l.length∧(l.drop g).all (λp=>ic p.1)=q)
   (λx=>x.2.2=h∧((x.1 = .ext 0∧q=true∧∃p k m n,x.2.1=[a,b,p,k,m,n])∨(x.1 = .ret∧q=false∧∃p k m n,x.2.1=[.aA,.int .i64 6,p,k,m,n]))) l.length ⟨rfl,_,_,_,0,rfl,rfl,G⟩ ?_ ?_
 ·rintro u r s ⟨rfl,c,e,f,g,rfl,L,i⟩;simp only[AV,aW,bL,bs,aL,bS];refine Wp.dF ?_ ?_
  ·intro j;have j:g<l.length:=fe j;have C:l[g]?=some l[g]:=dG j;have K:=eR g (by omega);rw[hS j]at i;generalize l[g]=x at C i;have H:gM 2 (.agg (aM x))=some (.aE (aM x)):=nB 2 _ rfl;simp only[k7 I,jJ,aN,eQ,C,hU,bs,rD,H,rB x,rC,a3A,gB];simp only[w9]at i;cases B:ic x.1
   ·rw[B]at i;simp only[gb,aK,aN];exact .some (.inr ⟨by simp,rfl,.inr ⟨rfl,i.symm,_,_,_,_,rfl⟩⟩)
   ·rw[B]at i;simp only[fy,aK,aU,aJ,cO,bs,K];exact .some (.inl ⟨rfl,u - 1,by omega,rfl,_,_,_,g+1,rfl,by omega,i⟩)
  ·intro j;have j:l.length≤g:=by
    have:¬(g:Int)<l.length:=by simpa using j
    omega
   rw[kD j]at i;exact .some (.inr ⟨by simp,rfl,.inl ⟨rfl,i.symm,_,_,_,_,rfl⟩⟩)
 ·rintro⟨x,r,s⟩ ⟨v,A⟩;simp only at v A;subst v;rcases A with⟨rfl,t,p,k,m,n,rfl⟩|⟨rfl,t,p,k,m,n,rfl⟩
  ·exact E t _ _ _ _
  ·exact k2 (by rw[t];simp[-a7N]) _ _ _ _
theorem a0L(l:List (aD × aD))(d:D)(h:J)(s:k1 h l d)(T:l.length≤1000){E:Type}{p:bK→Option E}{Q:E→Prop}(a b c e:D)
  (C:kb l=false→∀x y z,Wp (p (.ext 2,[a,b,x,y,z],h)) Q) (k2:kb l=true→∀x y z,Wp (p (.ret,[.aA,.int .i64 7,x,y,z],h)) Q) :
  Wp ((cA (AW d) [a,b,.int .i64 1,c,e] h).bind p) Q:=by
 generalize M:kb l=o at C k2;refine Wp.loop (λB q r=>r=h∧∃c e,∃f:Nat,q=[a,b,.int .i64 ((f+1:Nat):Int),c,e]∧B=l.length - f∧kb (l.drop f)=o)
   (λx=>x.2.2=h∧((x.1 = .ext 2∧o=false∧∃k m n,x.2.1=[a,b,k,m,n])∨(x.1 = .ret∧o=true∧∃k m n,x.2.1=[.aA,.int .i64 7,k,m,n]))) l.length ⟨rfl,_,_,0,rfl,rfl,M⟩ ?_ ?_
 ·rintro B q r ⟨rfl,c,e,f,rfl,R,g⟩;simp only[AW,aW,bL,bs,aL,zH s,bS];refine Wp.dF ?_ ?_
  ·intro i;have i:f+1<l.length:=by
    have:((f+1:Nat):Int)<l.length:=by simpa using i
    omega
   have u:l[f+1]?=some l[f+1]:=dG i;have t:l[f]?=some l[f]:=dG (by omega);have N:IntKind.wrap .i64 (((f+1:Nat):Int)+1)=((f+1+1:Nat):Int):=by
    rw[bJ (by omega) (by omega)];omega
   have P:IntKind.wrap .i64 (((f+1:Nat):Int) - 1)=(f:Int):=by
    rw[bJ (by omega) (by omega)];omega
   rw[hS (show f<l.length by omega),hS i]at g;unfold kb at g;rw[← hS i]at g;generalize l[f+1]=x at u g;generalize l[f]=y at t g;obtain⟨X,G,_,ab,I,L⟩:=wa s (f+1) x u;obtain⟨V,F,_,aa,H,K⟩:=wa s f y t;simp only[G,F,I,H,L,K,bs,eB,P,kc];cases A:(x.1==y.1)
   ·rw[A]at g;simp only[aK,aU,aJ,cO,bs,N];exact .some (.inl ⟨rfl,l.length - (f+1),by omega,rfl,_,_,f+1,rfl,rfl,g⟩)
   ·rw[A]at g;simp only[aK,aN];exact .some (.inr ⟨by simp,rfl,.inr ⟨rfl,g.symm,_,_,_,rfl⟩⟩)
  ·intro i;have i:l.length≤f+1:=by
    have:¬((f+1:Nat):Int)<l.length:=by simpa using i
    omega
   have j:o=false:=by
    rw[← g];have:(l.drop f).length≤1:=by simp;omega
    match l.drop f,this with
    |[],_=>rfl
    |[x],_=>rfl
   exact .some (.inr ⟨by simp,rfl,.inl ⟨rfl,j,_,_,_,rfl⟩⟩)
 ·rintro⟨x,q,r⟩ ⟨v,w⟩;simp only at v w;subst v;rcases w with⟨rfl,j,k,m,n,rfl⟩|⟨rfl,j,k,m,n,rfl⟩
  ·exact C j _ _ _
  ·exact k2 j _ _ _
theorem a3B(d cmp:D)(h:J)(f:aI 2 aM [] d):∃x,R vg [d,cmp] h=some (x,h):=by
 have g:bC tab bQ d=some (.int .i64 0):=hZ f;have b:∃x,R rH [d,.int .i64 0,.int .i64 0,cmp] h=some (x,h):=by
  rw[Nf];refine⟨aF [],?_⟩;simp only[A1,bs,aL,cO,show IntKind.wrap .i64 ((0:Int)+1)=1 from rfl];rw[iX];simp[-a7N,A2]
 obtain⟨x,b⟩:=b;have a:∃x,R yg [d,.int .i64 0,cmp] h=some (x,h):=by
  rw[Nd];refine⟨aF [],?_⟩;simp only[AY,bs,aL];rw[iX];have c:¬(20:Int)≤0:=by omega
  have e:¬(20:Int)<0:=by omega
  simp only[AZ,aW,bL,bs,iw,c,bT,aK,aU,aJ,dA,cN,b];rw[iX];simp only[A0,aW,bL,bs,bS,e,bT,aK,aU,aJ,dA,lz]
 obtain⟨i,a⟩:=a;refine⟨aF [],?_⟩;rw[Nc];simp only[AX,bs,g,a]
theorem a3x(l r:List (aD × aD))(d e:D)(h:J)(y:k1 h l d)(z:k1 h r e)(M:l.length≤1000):R Dn [d,e] h=some (.bool (decide (l=r)),h):=by
 apply Wp.val;rw[UH];simp only[Jq,bs,aL,zH y,zH z,dH];by_cases k:(l.length:Int)=(r.length:Int)
 ·have N:l.length=r.length:=by omega
  simp only[k,dU,eF,bT,aK,aU,aJ];generalize F:decide (l=r)=g;refine Wp.loop (λp i j=>j=h∧∃s t u v,∃a:Nat,i=[s,t,.int .i64 a,u,v]∧p+a=r.length∧decide (l.drop a=r.drop a)=g)
   (λb=>b.2.2=h∧((b.1 = .ext 0∧g=true)∨(b.1 = .ret∧g=false∧Z 0 b.2.1 = .bool false))) r.length ⟨rfl,_,_,_,_,0,rfl,rfl,F⟩ ?_ ?_
  ·rintro p i j ⟨rfl,s,t,u,v,a,rfl,L,f⟩;simp only[Jr,aW,bL,bs,aL,bS];refine Wp.dF ?_ ?_
   ·intro c;have c:a<r.length:=fe c;have gl:l[a]?=some l[a]:=dG (by omega);have gr:r[a]?=some r[a]:=dG c;have K:=eR a (by omega);rw[hS (show a<l.length by omega),hS c]at f;generalize l[a]=b at gl f;generalize r[a]=q at gr f;obtain⟨Q,B,E,_⟩:=wa y a b gl;obtain⟨P,A,C,_⟩:=wa z a q gr;simp only[B,A,E,C,bs,N2];by_cases o:b=q
    ·subst o;simp only[dU,eF,bT,aK,aU,aJ,cO,bs,K];exact .some (.inl ⟨rfl,p - 1,by omega,rfl,_,_,_,_,a+1,rfl,by omega,by rw[← f];simp[-a7N]⟩)
    ·have m:decide (b≠q)=true:=by simpa using o
     simp only[m,aK,aN];exact .some (.inr ⟨by simp,rfl,.inr ⟨rfl,by rw[← f];simp[-a7N,o],rfl⟩⟩)
   ·intro c;have c:r.length≤a:=by
     have:¬(a:Int)<r.length:=by simpa using c
     omega
    rw[kD c,kD (by omega)]at f;exact .some (.inr ⟨by simp,rfl,.inl ⟨rfl,by rw[← f];simp[-a7N]⟩⟩)
  ·rintro⟨b,i,j⟩ ⟨w,x⟩;simp only at w x;subst w;rcases x with⟨rfl,n⟩|⟨rfl,n,I⟩
   ·simp only[dA,cN,bs,cP,n];exact .some rfl
   ·simp only[jQ,jG,jX,aW,bs,I,cP,n];exact .some rfl
 ·have m:decide ((l.length:Int)≠(r.length:Int))=true:=by simpa using k
  have H:decide (l=r)=false:=by
   simp[-a7N];intro G;subst G;exact k rfl
  simp only[m,aK,aN,cP,H];exact .some rfl
theorem a0M(l:List (aD × aD))(d:D)(p:D)(j:aD × aD→Bool)(h:J)(A:k1 h l d)(C:l.length≤9223372036854775807)(s:∀x,hj R p [.agg (aM x)] h=some (.bool (j x),h)){u:Type}(k:bK→Option u)(X:Int→Option u)
   (y:∀v r,k (.ret,.int .i64 v::r,h)=X v) (z:∀r,k (.ext 0,r,h)=X (-1)):∀(i c:List (aD × aD)),l=c++i→∀a b e f,
   (cA (uq d p (.int .i64 l.length)) [a,b,.int .i64 c.length,e,f] h).bind k=X (idx j c.length i):=by
 intro i
 induction i with
 | nil =>
  rintro c rfl a b e f;rw[iX];simp[-a7N,uq,z,idx]
 | cons g i F =>
  rintro c rfl a b e f;have E:IntKind.wrap .i64 ((c.length:Int)+1)=(c++[g]).length:=by
   rw[bJ (by omega) (by simp at C;omega)];simp[-a7N]
  have t:(c.length:Int)<(c++g::i).length:=by simp;omega
  rw[iX];generalize q:c++g::i=w at *;have B:w[c.length]?=some g:=by rw[← q];exact vB _ _ _
  obtain⟨G,n,o,_⟩:=wa A _ _ B;by_cases m:j g=true
  ·simp[-a7N,uq,n,o,t,s,m,y,idx]
  ·have:=F (c++[g]) (by simp[-a7N,← q]) a (.int .i64 c.length) (.bool true) (.bool (j g));simp only[← E]at this;simp[-a7N,uq,n,o,t,s,m,idx];simp[-a7N,m]at this;exact this
theorem a3E(l:List (aD × aD))(d:D)(a:D)(b:aD × aD→Bool)(h:J)(c:k1 h l d)(g:l.length≤9223372036854775807)(f:∀x,hj R a [.agg (aM x)] h=some (.bool (b x),h)):
   R Ds [d,a] h=some (.int .i64 (idx b 0 l),h):=by
 rw[UN];simp only[Jw,bs,zH c,aL];rw[show(0:Int)=(([]:List (aD × aD)).length:Int)from rfl,a0M l d a b h c g f _ (λe=>some (.int .i64 e,h)) (λe i=>by simp) (λi=>by simp) l [] rfl];rfl
theorem a3z(p:aD × aD)(h:J):R ve [.agg (aM p)] h=some (.bool (decide (2000<p.2.length)),h):=by
 rw[UJ];simp[-a7N,Jt,aM];omega
theorem a3y(l:List (aD × aD))(d:D)(h:J)(a:k1 h l d)(b:l.length≤9223372036854775807):R Dp [d,.fn (.func ve) [] []] h=some (.bool (l.any λp=>decide (2000<p.2.length)),h):=by
 rw[UI];simp only[Js,bs,a3E l d (.fn (.func ve) [] []) (λp=>decide (2000<p.2.length)) h a b (λc=>by rw[re];exact a3z c h),mO,cP];rw[GA]
theorem a3v(l:eV)(h:J):R u9 [.agg (cR l)] h=some (.bool (!(l.fj==[])),h):=by
 rw[UE];simp[-a7N,Jo,cR]
theorem a3u(l:List eV)(d:D)(h:J)(a:aI 3 cR l d)(b:l.length≤9223372036854775807):R Dm [d,.fn (.func u9) [] []] h=some (.bool (l.any λp => !(p.fj==[])),h):=by
 rw[UD];simp only[Jn,bs,Qu l d (.fn (.func u9) [] []) (λp => !(p.fj==[])) h a b (λc=>by rw[re];exact a3v c h),mO,cP];rw[GA]
def pq(e:Ev):Int:=
 if(!gX e || !(decide (0≤e.a5)&&decide (e.a5≤253402300799999)))=true then 2
 else if e.a6<1∨Int.tmod 5040 e.a6≠0 then 21
 else if ig e 2000≠0 then ig e 2000
 else if 32<e.s7.length∨32<e.s8.length then 3
 else if(fJ e.fs).1≠0 then(fJ e.fs).1
 else if(fJ e.fs).2≠e.fs then 19
 else if((fJ e.fs).2.any λa=>decide (2000<a.2.length))=true then 3 else 0
theorem Q0(l:List (aD × aD)):(fJ l).2.length≤l.length:=by
 unfold fJ;split
 ·simp[-a7N]
 ·split
  ·split
   ·simp[-a7N]
   ·simp[-a7N,Q4]
  ·simp[-a7N]
theorem a4S(l:List (aD × aD)):(fJ l).2.length≤32:=by
 by_cases a:32<l.length
 ·simp[-a7N,fJ,a]
 ·have:=Q0 l;omega
theorem a3s(e:Ev)(h:J)(ad:∀p:J,∃d' h',R vd [e.fd] p=some (.bD [d',.int .i64 (fJ e.fs).1],h')∧p.length≤h'.length∧(∀b,b<p.length→h'[b]?=p[b]?)∧((fJ e.fs).1=0→k1 h' (fJ e.fs).2 d')):R u7 [.agg (bG e)] h=some (.int .i64 (pq e),h):=by
 apply Wp.val;have a:∀(i:J) (d:Int),h.length≤i.length→(∀b,b<h.length→i[b]?=h[b]?)→scope h i (.int .i64 d)=some (.int .i64 d,h):=λi d aa ab=>ff (by simp) (.int _ _) aa ab
 have P:=HF e.a5 0 253402300799999 h;rw[UA];simp only[Jj,gq,bs,aL,kJ,QG,cP];have af:aB tab aC 5 (.aE (bG e))=some (.aE [.int .i64 e.a5,.int .i64 e.a6,.str e.s7,.str e.s8,e.fd]):=id rfl;have ag:aB tab aC 6 (.aE (bG e))=some (.aE [.int .i64 e.a6,.str e.s7,.str e.s8,e.fd]):=id rfl;have ah:aB tab aC 7 (.aE (bG e))=some (.aE [.str e.s7,.str e.s8,e.fd]):=id rfl;have ai:aB tab aC 8 (.aE (bG e))=some (.aE [.str e.s8,e.fd]):=id rfl;have aj:aB tab aC 9 (.aE (bG e))=some (.aE [e.fd]):=id rfl;unfold pq;generalize aq:gX e=f;generalize ar:(decide (0≤e.a5)&&decide (e.a5≤253402300799999))=z at P ⊢;have first:∀{T:Type} (t:D→D × J→D→Option T) (k:T→Prop),(∀S p x,p.2=h→x = .bool (!f || !z)→Wp (t S p x) k)→Wp ((fS .not (.bool f)).bind λc=>(W c false (some (.aE [.int .i64 e.a5,.int .i64 e.a6,.str e.s7,.str e.s8,e.fd]))).bind λak=>(W c false (Y tab h U ak)).bind λal=>(gQ c false h (R tc [al,.int .i64 0,.int .i64 253402300799999] h)).bind λQ=>(W c false (fS .not Q.1)).bind λam=>(cV c (.bool true) am).bind λan=>t c Q an) k:=λt k I=>by
  cases f
  ·simp only[gB,gb,bs,bZ,gk,reduceCtorEq,aJ,bW,aN];exact I _ _ _ rfl rfl
  ·simp only[gB,fy,bs,bZ,gk,aN,eU,P,bW,aU,aJ];exact I _ _ _ rfl (by simp)
 simp only[af,ag,ah,ai,aj];refine first _ _ λS p x K ae=>?_
 subst ae;obtain⟨au,p⟩:=p;simp only at K;subst K;clear first
 simp only[aK];by_cases A:(!f || !z)=true
 ·simp only[A,aN,a _ _ (bB _) (λ_ _=>rfl)];exact .some rfl
 simp only[A,aJ,aU,eU,gW,lW,bs,bS,gn,dE,qk,dH];by_cases l:e.a6<1
 ·simp only[l,l3,cM,aN,bZ,reduceCtorEq,aJ,eP,bs,bW,aK,a _ _ (bB _) (λ_ _=>rfl)];exact .some rfl
 have B:¬e.a6=0:=by omega
 by_cases C:¬Int.tmod 5040 e.a6=0
 ·have m:=C;simp only[l,B,m,dU,fw,o0,cM,bT,aN,bZ,aJ,aU,bs,bW,aK,eU,qk,dH,a _ _ (bB _) (λ_ _=>rfl)];exact .some rfl
 have m:Int.tmod 5040 e.a6=0:=j5.1 C;simp only[l,B,m,dU,eF,oZ,bT,aN,bZ,aJ,aU,bs,bW,aK,eU,qk,dH,QH];generalize ao:ig e 2000=y;by_cases E:¬y=0
 ·have n:=E;simp only[n,dU,fw,cM,aN,a _ _ (bB _) (λ_ _=>rfl)];exact .some rfl
 have n:y=0:=j5.1 E;subst n;simp only[dU,eF,bT,aU,aJ,aN];by_cases o:32<e.s7.length
 ·have g:(32:Int)<(e.s7.length:Int):=by omega
  simp only[o,g,l3,cM,aN,bZ,reduceCtorEq,aJ,eP,bs,bW,aK,a _ _ (bB _) (λ_ _=>rfl)];exact .some rfl
 have g:¬(32:Int)<(e.s7.length:Int):=by omega
 by_cases F:32<e.s8.length
 ·have q:(32:Int)<(e.s8.length:Int):=by omega
  simp only[o,g,F,q,o0,cM,bT,aN,bZ,aJ,aU,bs,gW,gn,dE,bW,a _ _ (bB _) (λ_ _=>rfl)];exact .some rfl
 have q:¬(32:Int)<(e.s8.length:Int):=by omega
 obtain⟨d',h',M,v,u,w⟩:=ad p;simp only[o,g,F,q,oZ,bT,aN,bZ,aJ,aU,bs,gW,gn,dE,bW,aK,M,fU,fC,fV];have N:=a4S e.fs;generalize ap:fJ e.fs=X at M w N;obtain⟨d,j⟩:=X;simp only at w N ⊢;by_cases G:¬d=0
 ·have r:=G;simp only[r,dU,fw,cM,aN,a _ _ v u,aK,dH,bs];exact .some rfl
 have r:d=0:=j5.1 G;subst r;have L:=w rfl;have ac:k1 h' e.fs e.fd :=.inl e.gH;simp only[dU,eF,bT,aU,aJ,aK,dH,a3x j e.fs d' e.fd h' L ac (by omega),bs,gB,a3y j d' h' L (by omega)];by_cases H:¬j=e.fs
 ·have s:=H;simp only[s,fw,bT,gb,aN,a _ _ v u,aK,dH,bs];exact .some rfl
 have s:j=e.fs:=j5.1 H;subst s;simp only[eF,cM,fy,aJ,aU,a _ _ v u,aK,dH,bs];split
 ·exact .some rfl
 ·exact .some rfl
def j0(i:It):Int:=
 if i.r=[]then pq i.e
 else if 32<i.r.length then 3
 else if gX i.e=false then 2
 else if ig i.e 60000=9∨ig i.e 60000=4∨ig i.e 60000=19 then ig i.e 60000
 else if i.e.a5≠0∨i.e.a6≠0∨i.e.s7≠[]∨i.e.s8≠[]∨i.e.fs.length≠0∨(i.e.ls.any λa => !(a.fj==[]))=true then 19 else 0
theorem a3r(i:It)(h:J)(C:R u7 [.agg (bG i.e)] h=some (.int .i64 (pq i.e),h)):R pv [.agg (aT i)] h=some (.int .i64 (j0 i),h):=by
 have B:gM 10 (.agg (bG i.e))=some (.aE (bG i.e)):=nB 10 _ rfl;have E:aB tab aC 4 (.aE (bG i.e))=some (.aE [i.e.ld,.int .i64 i.e.a5,.int .i64 i.e.a6,.str i.e.s7,.str i.e.s8,i.e.fd]):=id rfl;have F:aB tab aC 5 (.aE (bG i.e))=some (.aE [.int .i64 i.e.a5,.int .i64 i.e.a6,.str i.e.s7,.str i.e.s8,i.e.fd]):=id rfl;have G:aB tab aC 6 (.aE (bG i.e))=some (.aE [.int .i64 i.e.a6,.str i.e.s7,.str i.e.s8,i.e.fd]):=id rfl;have H:aB tab aC 7 (.aE (bG i.e))=some (.aE [.str i.e.s7,.str i.e.s8,i.e.fd]):=id rfl;have I:aB tab aC 8 (.aE (bG i.e))=some (.aE [.str i.e.s8,i.e.fd]):=id rfl;have K:aB tab aC 9 (.aE (bG i.e))=some (.aE [i.e.fd]):=id rfl;rw[Uz];simp only[Ji,gq,bs,pG,pH,pJ,kJ,B,kc,cP];unfold j0;by_cases l:i.r=[]
 ·simp only[l,lr,aK,aN,C,bs]
 have x:(i.r==[])=false:=by simpa using l
 simp only[l,x,aK,aU,aJ,gn,bs,dE];by_cases q:32<i.r.length
 ·have m:(32:Int)<(i.r.length:Int):=by omega
  simp only[q,m,cM,aN]
 have m:¬(32:Int)<(i.r.length:Int):=by omega
 simp only[q,m,bT,aU,aJ,QG,bs,gB];cases L:gX i.e
 ·simp only[gb,aK,aN]
 simp only[fy,aK,aU,eP,aJ,QH,bs,e8];generalize ig i.e 60000=k;by_cases a:k=9
 ·subst a;simp[-a7N]
 by_cases b:k=4
 ·subst b;simp[-a7N]
 by_cases c:k=19
 ·subst c;simp[-a7N]
 simp only[a,b,c,oZ,bT,bZ,aN,bs,bW,aK,aU,aJ,F,G,H,I,K,E,eU,gW,lW,jh,dH];have f:(i.e.fs.length:Int)=0↔i.e.fs.length=0:=by omega
 have d:=a3u i.e.ls i.e.ld h i.e.ft i.e.qB;generalize (i.e.ls.any λD => !(D.fj==[]))=w at d ⊢;by_cases s:¬i.e.a5=0
 ·simp only[a,b,c,e8,s,dU,eF,fw,l3,o0,mV,k9,cM,bT,bZ,gk,fq,pC,reduceCtorEq,aN,aJ,aU,eP,bs,bW,aK,eU,gW,lW,jh,dH,ly,hZ i.e.gH,f,d,lr,fy,gb,oZ]
 have g:i.e.a5=0:=j5.1 s;by_cases t:¬i.e.a6=0
 ·simp only[a,b,c,e8,g,t,dU,eF,fw,l3,o0,mV,k9,cM,bT,bZ,gk,fq,pC,reduceCtorEq,aN,aJ,aU,eP,bs,bW,aK,eU,gW,lW,jh,dH,ly,hZ i.e.gH,f,d,lr,fy,gb,oZ]
 have j:i.e.a6=0:=j5.1 t;by_cases o:¬i.e.s7=[]
 ·have y:(i.e.s7==[])=false:=by simpa using o
  simp only[a,b,c,e8,g,j,o,y,dU,eF,fw,l3,o0,mV,k9,cM,bT,bZ,gk,fq,pC,reduceCtorEq,aN,aJ,aU,eP,bs,bW,aK,eU,gW,lW,jh,dH,ly,hZ i.e.gH,f,d,lr,fy,gb,oZ]
 have n:i.e.s7=[]:=j5.1 o;by_cases p:¬i.e.s8=[]
 ·have z:(i.e.s8==[])=false:=by simpa using p
  simp only[a,b,c,e8,g,j,n,p,z,dU,eF,fw,l3,o0,mV,k9,cM,bT,bZ,gk,fq,pC,reduceCtorEq,aN,aJ,aU,eP,bs,bW,aK,eU,gW,lW,jh,dH,ly,hZ i.e.gH,f,d,lr,fy,gb,oZ]
 have u:i.e.s8=[]:=j5.1 p;by_cases v:¬i.e.fs.length=0
 ·simp only[a,b,c,e8,g,j,n,u,v,dU,eF,fw,l3,o0,mV,k9,cM,bT,bZ,gk,fq,pC,reduceCtorEq,aN,aJ,aU,eP,bs,bW,aK,eU,gW,lW,jh,dH,ly,hZ i.e.gH,f,d,lr,fy,gb,oZ]
 have A:i.e.fs.length=0:=j5.1 v;simp only[a,b,c,e8,g,j,n,u,A,dU,eF,fw,l3,o0,mV,k9,cM,bT,bZ,gk,fq,pC,reduceCtorEq,aN,aJ,aU,eP,bs,bW,aK,eU,gW,lW,jh,dH,ly,hZ i.e.gH,f,d,lr,fy,gb,oZ];cases w<;>simp[-a7N,d]
theorem a1C(a b:Ev):decide (jF [hA a.a5 b.a5,hA a.a0 b.a0,hA a.a1 b.a1,hA a.a2 b.a2]<0)=ie a b:=by
 have d:∀e f:Int,(hA e f=0↔e=f)∧(hA e f<0↔e<f):=λe f=>by
  unfold hA;split
  ·constructor<;>constructor<;>intro i<;>omega
  ·split
   ·constructor<;>constructor<;>intro i<;>omega
   ·constructor<;>constructor<;>intro i<;>omega
 simp only[jF,d,ie];by_cases c:a.a5=b.a5
 ·by_cases g:a.a0=b.a0
  ·by_cases h:a.a1=b.a1
   ·by_cases j:a.a2=b.a2
    ·simp[-a7N,c,g,h,j]
    ·simp[-a7N,c,g,h,j,d]
   ·simp[-a7N,c,g,h,d]
  ·simp[-a7N,c,g,d]
 ·simp[-a7N,c,d]
theorem HD(a b:Ev)(h:J):R yd [.agg (bG a),.agg (bG b)] h=some (.bool (ie a b),h):=by
 have c:aI 1 inr [hA a.a5 b.a5,hA a.a0 b.a0,hA a.a1 b.a1,hA a.a2 b.a2] (.sl 1 true [[.int .i64 (hA a.a5 b.a5)],[.int .i64 (hA a.a0 b.a0)],[.int .i64 (hA a.a1 b.a1)],[.int .i64 (hA a.a2 b.a2)]]) :=.inr ⟨true,rfl⟩;rw[Uy];simp only[Jh,bs,gq,bG,mT,mU,lA,C2,eU,HM,SB,HL _ _ h c (by simp),bS,iN,cP,a1C]
theorem a1A(a:Ev):ie a a=false:=by simp[-a7N,ie]
theorem Pc(a b:Ev):ie a b=true↔(a.a5<b.a5∨(a.a5=b.a5∧(a.a0<b.a0∨(a.a0=b.a0∧(a.a1<b.a1∨(a.a1=b.a1∧a.a2<b.a2)))))):=by
 unfold ie;split
 ·split
  ·split
   ·simp[-a7N];omega
   ·simp[-a7N];omega
  ·simp[-a7N];omega
 ·simp[-a7N];omega
structure cB where
 h:Int
 r:aD
 n:Int
def cY(t:cB):List D:=[.int .i64 t.h,.str t.r,.int .i64 t.n]
theorem Ab(m:cB)(h:J):Y tab h eK (.aE (cY m))=some (.agg (cY m)):=id rfl
theorem l2(n0:Nat)(h:J)(n:Nat)(p:cB):∀d∈cY p,cS n0 h n d=d:=by simp[-a7N,cY]
theorem lI(n:Nat)(p:cB):∀d∈cY p,Ok n d:=by
 intro d a;simp[-a7N,cY]at a;rcases a with rfl|rfl|rfl<;>constructor
def qi(a b:aD):Int:=if Op.bytesLess a b=true then -1 else if a=b then 0 else 1
theorem a2Y(s:aD)(h:J):R x1 [.str s] h=some (.bool false,h):=by
 rw[T8];simp[-a7N,IL]
theorem s91(a b:aD)(h:J):R DT [.str a,.str b] h=some (.int .i64 (qi a b),h):=by
 rw[VZ];simp only[Lh,bs,a2Y,aK,aU,aJ,Tk,HT,qi,cP];cases d:Op.bytesLess a b
 ·by_cases c:a=b<;>simp[-a7N,c]
 ·simp[-a7N]
def h8(a b:cB):Int:=jF [hA a.h b.h,qi a.r b.r]
theorem s88(a b:cB)(h:J):R yJ [.agg (cY a),.agg (cY b)] h=some (.int .i64 (h8 a b),h):=by
 have f:∀c d:Int,dL tab iR 2 [0,1] [.int .i64 c,.int .i64 d]=some (.sl 1 true ([c,d].map inr)):=λc d=>id rfl
 have e:=HL [hA a.h b.h,qi a.r b.r] (.sl 1 true [inr (hA a.h b.h),inr (qi a.r b.r)]) h (aI.mk 1 inr [hA a.h b.h,qi a.r b.r] true) (by simp);rw[VX];simp[-a7N,Ld,cY,HM,s91,f,e,h8]
def pa(h:J)(l:List cB)(d:D):Prop:=aI 3 cY l d∨∃a,d = .aZ 3 a 0 l.length∧h[a]?=some (.row eK 3 (l.map cY))
theorem a2H{h:J}{l:List cB}{d:D}(a:pa h l d):bC tab dN d=some (.int .i64 l.length):=by
 rcases a with a|⟨b,rfl,_⟩
 ·exact oU a
 ·exact a1q _ _ _ _
theorem P8{h:J}{l:List cB}{d:D}(a:pa h l d)(i:Nat)(p:cB)(b:l[i]?=some p):∃c,aO tab dN d (.int .i64 i)=some c∧Y tab h eK c=some (.agg (cY p)):=by
 have k:=(bR.1 b).1;rcases a with a|⟨j,rfl,f⟩
 ·exact⟨.aE (cY p),by rw[vK a];simp[-a7N,b],Ab p h⟩
 ·have g:(l.map cY)[i]?=some (cY p):=by rw[eE,b];rfl
  have e:(0:Int)≤(i:Int)∧(i:Int)<(l.length:Int):=by omega
  refine⟨.ptr j i 0,by rw[GH];simp[-a7N,e],?_⟩;rw[a1g,dM f,g];rfl
theorem s87(l:List cB)(d:D)(t:cB)(y:D)(c:cB→Int)(h:J)(p:pa h l d)(ad:l.length≤1000000)(z:∀x,hj R y [.agg (cY x),.agg (cY t)] h=some (.int .i64 (c x),h))
   (k:Nat) (I:k≤l.length) (G:∀i x,l[i]?=some x→i<k→c x<0) (h2:∀i x,l[i]?=some x→k≤i→0≤c x) :
   R DS [d,.agg (cY t),y] h=some (.bD [.int .i64 k,.bool (match l[k]? with|some x=>decide (c x=0)|none=>false)],h):=by
 apply Wp.val;rw[VW];simp only[Lb,gq,bs,aL,a2H p];refine Wp.loop (λB m n=>n=h∧∃u v w,∃b a:Nat,m=[.int .i64 b,.int .i64 a,u,v,w]∧b≤k∧k≤a∧a≤l.length∧B=a - b)
   (λx=>x.1 = .ext 0∧x.2.2=h∧Z 0 x.2.1 = .int .i64 k) l.length ⟨rfl,_,_,_,0,l.length,rfl,by omega,I,bB _,rfl⟩ ?_ ?_
 ·rintro B m n ⟨rfl,u,v,w,b,a,rfl,M,H,L,rfl⟩;simp only[Lc,aW,bL,bs,aL,bS];refine Wp.dF ?_ ?_
  ·intro j;have j:b<a:=fe j;have P:IntKind.wrap .i64 ((b:Int)+a)=((b+a:Nat):Int):=by
    rw[bJ (by omega) (by omega)];omega
   have Q:IntKind.wrap .u64 ((b+a:Nat):Int)=((b+a:Nat):Int):=by
    unfold IntKind.wrap;simp[-a7N,IntKind.signed,IntKind.bits,IntKind.min,IntKind.max];omega
   have T:(((b+a:Nat):Int)).fdiv (2 ^ (min (Int.toNat 1) IntKind.u64.bits))=(((b+a) / 2:Nat):Int):=by
    rw[show(2:Int) ^ (min (Int.toNat 1) IntKind.u64.bits)=2 by decide];rw[sr _ (by omega)];omega
   have X:IntKind.wrap .i64 (((b+a) / 2:Nat):Int)=(((b+a) / 2:Nat):Int):=bJ (by omega) (by omega);have aa:IntKind.wrap .i64 ((((b+a) / 2:Nat):Int)+1)=(((b+a) / 2+1:Nat):Int):=by
    rw[bJ (by omega) (by omega)];omega
   have N:(b+a) / 2<l.length:=by omega
   have ae:b≤(b+a) / 2:=by omega
   have af:(b+a) / 2<a:=by omega
   generalize (b+a) / 2=e at *;have f:l[e]?=some l[e]:=dG N;generalize l[e]=x at f;obtain⟨ab,r,s⟩:=P8 p e x f;simp only[cO,P,nF,oI,bs,Q,ke,show ¬(1:Int)<0 by omega,aJ,T,X,r,s,Ab,z,bS];by_cases o:c x<0
   ·have A:e<k:=by
      rcases gG e k with g|g
      ·exact g
      ·have:=h2 e x f g;omega
    simp only[o,cM,aK,aN,bs,aa,ga,aW,bL];exact .some (.inl ⟨rfl,a - (e+1),by omega,rfl,_,_,_,e+1,a,rfl,by omega,H,L,rfl⟩)
   ·have A:k≤e:=by
      rcases gG e k with g|g
      ·exact absurd (G e x f g) o
      ·exact g
    simp only[o,bT,aK,aU,aJ,bs,ga,aW,bL];exact .some (.inl ⟨rfl,e - b,by omega,rfl,_,_,_,b,e,rfl,M,A,by omega,rfl⟩)
  ·intro j;have j:b=k:=by
    have:¬(b:Int)<a:=by simpa using j
    omega
   subst j;exact .some (.inr ⟨by simp,rfl,rfl,rfl⟩)
 ·rintro⟨ac,m,n⟩ ⟨C,E,F⟩;simp only at C E F;subst C;subst E;simp only[dA,cN,aW,F,bs,bS];by_cases K:k<l.length
  ·have f:l[k]?=some l[k]:=dG K;have q:(k:Int)<l.length:=by omega
   generalize l[k]=x at f;obtain⟨ab,r,s⟩:=P8 p k x f;simp only[q,cM,bZ,aN,bs,r,s,Ab,gk,z,e8,bW,gp,f];exact .some rfl
  ·have f:l[k]?=none:=qc (by omega);have q:¬(k:Int)<l.length:=by omega
   simp only[q,bT,bZ,aU,aJ,bs,gk,bW,gp,f];exact .some rfl
theorem s80(l:List cB)(d:D)(a:Int)(b:aD)(h:J)(f:pa h l d)(j:l.length≤1000000)
   (k:Nat) (g:k≤l.length) (c:∀i x,l[i]?=some x→i<k→h8 x ⟨a,b,0⟩<0) (h2:∀i x,l[i]?=some x→k≤i→0≤h8 x ⟨a,b,0⟩) :
   R DP [d,.int .i64 a,.str b] h=some (.bD [.int .i64 k,.bool (match l[k]? with|some x=>decide (h8 x ⟨a,b,0⟩=0)|none=>false)],h):=by
 have e:eD tab eK [0,1] [.int .i64 a,.str b]=some (.agg (cY ⟨a,b,0⟩)):=id rfl;rw[VS];simp only[K6,bs,e,aL];rw[s87 l d ⟨a,b,0⟩ (.fn (.func yJ) [] []) (λx=>h8 x ⟨a,b,0⟩) h f j (λx=>by rw[re];exact s88 x _ h) k g c h2];rfl
theorem q8:∀a:aD,Op.bytesLess a a=false
 |[]=>rfl
 |x::a=>by simp[-a7N,Op.bytesLess,q8 a]
theorem sI:∀{a b c:aD},Op.bytesLess a b=true→Op.bytesLess b c=true→Op.bytesLess a c=true
 |_,[],_,h,_=>by cases ‹aD›<;>simp[-a7N,Op.bytesLess]at h
 |_,_::_,[],_,h=>by simp[-a7N,Op.bytesLess]at h
 |[],_::_,_::_,_,_=>rfl
 | x::a,y::b,z::c,h,k=>by
  simp only[Op.bytesLess,o5,xK,gJ,beq_iff_eq]at h k ⊢;rcases h with h|⟨rfl,h⟩
  ·rcases k with k|⟨rfl,k⟩
   ·exact .inl (UInt8.lt_trans h k)
   ·exact .inl h
  ·rcases k with k|⟨rfl,k⟩
   ·exact .inl k
   ·exact .inr ⟨rfl,sI h k⟩
theorem sH:∀{a b:aD},Op.bytesLess a b=false→a≠b→Op.bytesLess b a=true
 |[],[],_,h=>absurd rfl h
 |[],_::_,h,_=>by simp[-a7N,Op.bytesLess]at h
 |_::_,[],_,_=>rfl
 | x::a,y::b,h,k=>by
  simp only[Op.bytesLess,Bool.or_eq_false_iff,decide_eq_false_iff_not,Bool.and_eq_false_iff,beq_eq_false_iff_ne]at h;simp only[Op.bytesLess,o5,xK,gJ,beq_iff_eq];by_cases d:x=y
  ·subst d;refine .inr ⟨rfl,sH (h.2.resolve_left λc=>c rfl) λc=>k (by rw[c])⟩
  ·left;have e:=mt Ce.2 h.1;have f:x.toNat≠y.toNat:=λc=>d (UInt8.toNat_inj.1 c)
   exact Ce.2 (by omega)
def kl(a b:cB):Prop:=a.h<b.h∨(a.h=b.h∧Op.bytesLess a.r b.r=true)
theorem oG(a b:cB):h8 a b<0↔kl a b:=by
 unfold h8 jF jF jF hA qi kl;by_cases d:a.h<b.h
 ·simp[-a7N,d]
 ·by_cases e:b.h<a.h
  ·have c:¬a.h=b.h:=by omega
   simp[-a7N,d,e,c]
  ·have c:a.h=b.h:=by omega
   cases g:Op.bytesLess a.r b.r
   ·by_cases f:a.r=b.r<;>simp[-a7N,c,f]
   ·simp[-a7N,c]
theorem pj(a b:cB):h8 a b=0↔a.h=b.h∧a.r=b.r:=by
 unfold h8 jF jF jF hA qi;by_cases e:a.h<b.h
 ·have c:¬a.h=b.h:=by omega
  simp[-a7N,e,c]
 ·by_cases g:b.h<a.h
  ·have c:¬a.h=b.h:=by omega
   simp[-a7N,e,g,c]
  ·have c:a.h=b.h:=by omega
   cases f:Op.bytesLess a.r b.r
   ·by_cases d:a.r=b.r<;>simp[-a7N,c,d]
   ·have d:¬a.r=b.r:=λi=>by rw[i,q8]at f;cases f
    simp[-a7N,c,d]
theorem GM{a b c:cB}(h:kl a b)(k:kl b c):kl a c:=by
 unfold kl at *;rcases h with h|⟨h,d⟩<;>rcases k with k|⟨k,e⟩
 ·left;omega
 ·left;omega
 ·left;omega
 ·exact .inr ⟨by omega,sI d e⟩
theorem a0y{a b:cB}(h:¬kl a b)(k:¬(a.h=b.h∧a.r=b.r)):kl b a:=by
 unfold kl at *;by_cases c:a.h=b.h
 ·right;refine⟨c.symm,sH ?_ λd=>k ⟨c,d⟩⟩;cases e:Op.bytesLess a.r b.r
  ·rfl
  ·exact absurd (.inr ⟨c,e⟩) h
 ·left;have:¬a.h<b.h:=λd=>h (.inl d)
  omega
def gx(l:List cB):Prop:=l.Pairwise kl
def kT(a:cB):List cB→Nat
 |[]=>0
 |x::r=>if h8 x a<0 then kT a r+1 else 0
theorem tv(a:cB):∀l,kT a l≤l.length
 |[]=>bB _
 | x::r=>by
  unfold kT;split
  ·have:=tv a r;simp[-a7N];omega
  ·simp[-a7N]
theorem vN(b:cB):∀(l:List cB) (i:Nat) (x:cB),l[i]?=some x→i<kT b l→h8 x b<0
 | y::r,0,x,a,hi=>by
  unfold kT at hi;simp at a;subst a;split at hi
  ·assumption
  ·omega
 | y::r,i+1,x,a,hi=>by
  unfold kT at hi;simp at a;split at hi
  ·exact vN b r i x a (by omega)
  ·omega
theorem zb(c:cB):∀(l:List cB),gx l→∀(i:Nat) (x:cB),l[i]?=some x→kT c l≤i→0≤h8 x c
 | y::r,f,i,x,b,hi=>by
  unfold kT at hi;have e:=im.1 f;split at hi
  ·cases i with
   |zero=>omega
   |succ i=>exact zb c r e.2 i x (by simpa using b) (by omega)
  ·rename_i d;rcases Int.lt_or_le (h8 x c) 0 with a|a
   ·exfalso;cases i with
    |zero=>simp at b;subst b;exact d a
    | succ i =>
     have g:r[i]?=some x:=by simpa using b
     exact d ((oG _ _).2 (GM (e.1 x (eW g)) ((oG _ _).1 a)))
   ·exact a
def h7(l:List cB)(b:Int)(c:aD)(n:Int)(k:Nat):List cB:=match l[k]? with
 |some a=>if h8 a ⟨b,c,0⟩=0 then l.set k ⟨a.h,a.r,IntKind.wrap .i64 (a.n+n)⟩else l.take k++[⟨b,c,IntKind.wrap .i64 (0+n)⟩]++l.drop k
 |none=>l.take k++[⟨b,c,IntKind.wrap .i64 (0+n)⟩]++l.drop k
def fk(l:List cB)(a:Int)(b:aD)(n:Int):List cB:=if n<1 then l else h7 l a b n (kT ⟨a,b,0⟩ l)
theorem Rn(l:List cB)(d:D)(h:J)(p:aI 3 cY l d)(u:l.length≤1000000):∃d' h',R vw [d] h=some (d',h')∧h.length≤h'.length∧(∀f,f<h.length→h'[f]?=h[f]?) ∧
  ((l=[]∧(d' = .aA∨d' = .sl 3 true []))∨∃a,h.length≤a∧d' = .aZ 3 a 0 l.length∧h'[a]?=some (.row eK 3 (l.map cY))):=by
 rw[Nr];rcases p with⟨rfl,rfl⟩|⟨b,rfl⟩
 ·exact⟨.aA,h,by
    have e:O tab .eql dN .aA .aA=some (.bool true):=id rfl;simp[-a7N,ux,e],bB _,λ_ _=>rfl,.inl ⟨rfl,.inl rfl⟩⟩
 ·obtain⟨g,h',k,q,s,r⟩:=uL (T:=tab) (t:=dN) (i:=kS) (j:=h4) (h:=h) (id rfl) (id rfl) (id rfl) (by decide) (y :=.sl 3 b (l.map cY)) (hC _ _ _ _) (jD (by have:h4.gf=32:=rfl;rw[this,fN];omega) (by rw[fN];omega));have m:dB tab h dN dN (.sl 3 true []) (.sl 3 b (l.map cY))=some (g,h'):=k;have e:O tab .eql dN (.sl 3 b (l.map cY)) .aA=some (.bool false):=id rfl;refine⟨g,h',?_,q,s,?_⟩
  ·simp only[ux,bs,e,aK,aU,aJ,Mb,m,cP]
  ·rcases r with⟨rfl,c⟩|⟨rfl,c⟩|⟨a,n,rfl,o⟩
   ·have:l=[]:=by simpa using c
    exact .inl ⟨this,.inr rfl⟩
   ·have:l=[]:=by simpa using c
    exact .inl ⟨this,.inl rfl⟩
   ·exact .inr ⟨a,n,by rw[fN];rfl,o⟩
theorem zi{n:Nat}(a:n≤1000001):eY n h4.gf=true:=jD (by have:h4.gf=32:=rfl;rw[this];omega) (by omega)
theorem ny(l:List cB)(a:Int)(b:aD)(n:Int):(fk l a b n).length≤l.length+1:=by
 unfold fk;split
 ·omega
 ·have c:=tv ⟨a,b,0⟩ l;generalize kT ⟨a,b,0⟩ l=d at c;unfold h7;split
  ·split
   ·simp[-a7N]
   ·simp[-a7N];omega
  ·simp[-a7N];omega
theorem oy {l:List cB} (i:gx l) (e:Int) (g:aD) (n:Int):gx (fk l e g n):=by
 unfold fk;split
 ·exact i
 ·have G := tv ⟨e,g,0⟩ l;have x:=vN ⟨e,g,0⟩ l;have r:=zb ⟨e,g,0⟩ l i;generalize kT ⟨e,g,0⟩ l=a at G x r;have z : (∀c,l[a]?=some c→¬h8 c ⟨e,g,0⟩=0)→gx (l.take a++[⟨e,g,IntKind.wrap .i64 (0+n)⟩]++l.drop a):=λu=>by
   have B:∀c∈l.take a,kl c ⟨e,g,0⟩:=λc f=>by
    obtain⟨h,b⟩:=q3.1 f;rw[gw]at b;split at b
    ·exact(oG _ _).1 (x h c b (by assumption))
    ·cases b
   have A:∀c∈l.drop a,kl ⟨e,g,0⟩ c:=λc f=>by
    obtain⟨h,b⟩:=q3.1 f;rw[ko]at b;have K:=r (a+h) c b (by omega);refine a0y (λk=>?_) λk=>?_
    ·have:=(oG _ _).2 k;omega
    ·have D:=(pj c ⟨e,g,0⟩).2 k;cases h with
     |zero=>exact u c b D
     | succ h =>
      have H:=(bR.1 b).1;have d:l[a]?=some (l[a]'(by omega)):=dG (by omega);generalize l[a]'(by omega)=o at d;have t:kl o c:=by
       have:=om.1 i a (a+(h+1)) (by omega) H (by omega);rw[dG (by omega)]at d b;injection d with d;injection b with b
       rwa [d,b]at this
      have:=r a o d (bB _);have I:h8 o ⟨e,g,0⟩<0:=by
       rw[oG];unfold kl at t ⊢;rw[k.1,k.2]at t;exact t
      omega
   unfold gx;rw[gF,jd];refine⟨i.sublist (LC _ _),?_,λw y q j=>?_⟩
   ·rw[B0,im];exact⟨λq j=>A q j,i.sublist (List.drop_sublist _ _)⟩
   ·rw[B0,fc]at j;rcases j with rfl|j
    ·exact B w y
    ·exact GM (B w y) (A q j)
  unfold h7;cases d:l[a]? with
  |none=>exact z λc f=>by rw[d]at f;cases f
  | some o =>
   simp only;split
   ·have L:=(bR.1 d).1;unfold gx at i ⊢;rw[om]at i ⊢;have C:l[a]=o:=(bR.1 d).2;intro h v b F E;have m:=i h v (by simpa using b) (by simpa using F) E;simp only[List.getElem_set];by_cases s:a=h
    ·subst s;have p:¬a=v:=by omega
     simp only[aN,p,aJ];rw[C]at m;exact m
    ·by_cases p:a=v
     ·subst p;simp only[s,aJ,aN];rw[C]at m;exact m
     ·simp only[s,p,aJ];exact m
   ·rename_i u;exact z λc f=>by
     rw[d]at f;injection f with f;subst f;exact u
theorem Q8{l:List cB}{d:D}(b:aI 3 cY l d)(n0:Nat)(h:J)(n:Nat):cS n0 h n d=d:=by
 cases n with
 |zero=>rfl
 | succ n =>
  rcases b with⟨rfl,_⟩|⟨e,rfl⟩
  ·simp[-a7N]
  ·refine Oe λf c=>?_
   obtain⟨a,_,rfl⟩:=g8.1 c;exact l2 _ _ _ a
def gr:List Ev→List Ev→Bool
 |[],_=>true
 |_::_,[]=>false
 |x::a,y::b=>if kO x y=true then gr a b else gr (x::a) b
def qE(x:cB)(a:Int)(b:aD):Bool:=decide (x.h<a)||(decide (x.h=a)&&Op.bytesLess x.r b)
theorem OQ(x:cB)(a:Int)(b:aD):qE x a b=true↔h8 x ⟨a,b,0⟩<0:=by
 rw[oG];simp[-a7N,qE,kl]
theorem OM(b:cB):∀(l:List cB) (x:cB),l[kT b l]?=some x→¬h8 x b<0
 | y::r,x,a=>by
  unfold kT at a;split at a
  ·exact OM b r x (by simpa using a)
  ·rename_i c;simp at a;subst a;exact c
theorem R0(l:List cB)(d:D)(g:Int)(m:aD)(h:J)(b:aI 3 cY l d)(i:Nat)(x:cB)(hi:l[i]?=some x)(o:l.length≤1000000)(a:D):
  o8 d (.int .i64 g) (.str m) [.int .i64 i,a] h=if qE x g m=true then some (.aQ,[.int .i64 ((i+1:Nat):Int),.bool true],h)else some (.ext 0,[.int .i64 i,.bool false],h):=by
 have p:i<l.length:=(bR.1 hi).1;have f:(i:Int)<l.length:=by omega
 have j:=eR i (by omega);have e:aO tab dN d (.int .i64 i)=some (.aE (cY x)):=by rw[vK b];simp[-a7N,hi]
 by_cases c:x.h<g
 ·simp[-a7N,o8,oU b,f,e,cY,qE,c,j]
 ·by_cases k:x.h=g
  ·cases n:Op.bytesLess x.r m
   ·simp[-a7N,o8,oU b,f,e,cY,qE,c,k,n,j]
   ·simp[-a7N,o8,oU b,f,e,cY,qE,c,k,n,j]
  ·simp[-a7N,o8,oU b,f,e,cY,qE,c,k,j]
theorem l60(l:List cB)(d:D)(e:Int)(f:aD)(h:J)(s:aI 3 cY l d)(z:l.length≤1000000){v:Type}{p:bK→Option v}{Q:v→Prop}(a:D)
  (q:∀b,Wp (p (.ext 0,[.int .i64 (kT ⟨e,f,0⟩ l:Nat),b],h)) Q):Wp ((cA (o8 d (.int .i64 e) (.str f)) [.int .i64 0,a] h).bind p) Q:=by
 have y:=tv ⟨e,f,0⟩ l;have t:=vN ⟨e,f,0⟩ l;have u:=OM ⟨e,f,0⟩ l;generalize kT ⟨e,f,0⟩ l=g at y t u q;refine Wp.loop (λo r i=>i=h∧∃a,∃c:Nat,r=[.int .i64 c,a]∧o+c=g) (λB=>∃b,B=(.ext 0,[.int .i64 (g:Nat),b],h)) g ⟨rfl,_,0,rfl,rfl⟩ ?_ ?_
 ·rintro o r i ⟨rfl,a,c,rfl,C⟩;by_cases x:c<l.length
  ·have k:l[c]?=some l[c]:=dG x;generalize l[c]=n at k;rw[R0 l d e f i s c n k z];by_cases j:qE n e f=true
   ·rw[bO j];have:c≠g:=λm=>by subst m;exact u n k ((OQ _ _ _).1 j)
    exact .some (.inl ⟨rfl,o - 1,by omega,rfl,_,c+1,rfl,by omega⟩)
   ·rw[cC j];have:c=g:=by
     rcases gG c g with m|m
     ·exact absurd ((OQ _ _ _).2 (t c n k m)) j
     ·omega
    subst this;exact .some (.inr ⟨by simp,_,rfl⟩)
  ·have:c=g:=by omega
   subst this;have A:¬(c:Int)<l.length:=by omega
   have w:o8 d (.int .i64 e) (.str f) [.int .i64 c,a] i=some (.ext 0,[.int .i64 c,.bool false],i):=by
    simp[-a7N,o8,oU s,A]
   rw[w];exact .some (.inr ⟨by simp,_,rfl⟩)
 ·rintro _ ⟨b,rfl⟩;exact q b
theorem LX(h:J)(rows:List (List D))(r:List D)(b:Bool)(i:rows.length≤1000000):dB tab h dN dN (.sl 3 true rows) (.sl 3 b [r])=some (.aZ 3 h.length 0 (rows.length+1),aG h eK 3 (rows++[r])):=by
 have a:tab dN=some kS:=rfl;have c:kS.td = .sl eK:=rfl;have d:tab eK=some h4:=rfl;have e:h4.V=3:=rfl;have g:eY (rows.length+1) h4.gf=true:=zi (by omega);have f:Nat.blt 0 3=true:=rfl;simp[-a7N,dB,ix,gA,a,c,d,e,f,g]
theorem RS(h:J)(r:List D)(b:Bool):dB tab h dN dN .aA (.sl 3 b [r])=some (.aZ 3 h.length 0 1,aG h eK 3 [r]):=by
 have a:tab dN=some kS:=rfl;have c:kS.td = .sl eK:=rfl;have d:tab eK=some h4:=rfl;have e:h4.V=3:=rfl;have g:eY 1 h4.gf=true:=zi (by omega);have f:Nat.blt 0 3=true:=rfl;simp[-a7N,dB,ix,gA,a,c,d,e,f,g]
theorem S2{h:J}{n0:Nat}{rows:List (List D)}{x:D}(u:aR h n0 eK 3 rows x)(v:rows.length≤1000000)(i:Nat)(hi:i≤rows.length)(r:List D)(b:Bool)(B:n0≤h.length):
  ∃y c,lQ tab h dN false true [x,.int .i64 i,.int .i64 i]=some (y,c)∧h.length≤c.length∧(∀a,a<n0→c[a]?=h[a]?)∧∃z h2,dB tab c dN dN y (.sl 3 b [r])=some (z,h2)∧aR h2 n0 eK 3 (rows.take i++[r]) z∧h.length≤h2.length∧∀a,a<n0→h2[a]?=h[a]?:=by
 have d:tab dN=some kS:=rfl;have e:kS.td = .sl eK:=rfl;have f:tab eK=some h4:=rfl;have j:h4.V=3:=rfl;have k:∀(y:D) (c:J),h.length≤c.length→(∀a,a<n0→c[a]?=h[a]?)→dB tab c dN dN y (.sl 3 b [r])=some (.aZ 3 c.length 0 ((rows.take i).length+1),aG c eK 3 (rows.take i++[r])) →
   ∃z h2,dB tab c dN dN y (.sl 3 b [r])=some (z,h2)∧aR h2 n0 eK 3 (rows.take i++[r]) z∧h.length≤h2.length∧∀a,a<n0→h2[a]?=h[a]?:=λy c w p o =>
  ⟨_,_,o,.inr ⟨c.length,by omega,by simp,fO _ _ _ _⟩,by simp[-a7N,aG];omega,λa l=>by rw[eT _ _ _ _ (by omega)];exact p a l⟩
 rcases u with⟨rfl,rfl⟩|⟨n,C,rfl,m⟩
 ·have g:i=0:=by simpa using hi
  subst g;refine⟨.aA,h,by simp[-a7N,lQ,eN,ia,kf,d,e,f],bB _,λ_ _=>rfl,k _ _ (bB _) (λ_ _=>rfl) (by simpa using RS h r b)⟩
 ·by_cases g:i=0
  ·subst g;refine⟨.sl 3 true [],h,by simp[-a7N,lQ,eN,ia,kf,d,e,f,j],bB _,λ_ _=>rfl,k _ _ (bB _) (λ_ _=>rfl) (by simpa using LX h [] r b (by simp))⟩
  ·have A:=(bR.1 m).1;have s:(i:Int)≤(rows.length:Int):=by omega
   have q:¬(i:Int)=0:=by omega
   refine⟨.sl 3 true (rows.take i),h.set n .dead,?_,by simp,λa l=>by rw[kZ (by omega)],k _ _ (by simp) (λa l=>by rw[kZ (by omega)]) (LX _ _ r b (by simp;omega))⟩;have t:eN tab dN false true true [.aZ 3 n 0 rows.length,.int .i64 i,.int .i64 i]=none:=by
    simp[-a7N,eN,ia,kf,d,e,f,j,q];intro _;exact g
   simp only[lQ,t,m,d,e,f,j,qT,jJ,s,bB,jq,aN,eQ]
theorem zS (l:List cB) (d:D) (b:Int) (a:aD) (n:Int) (h:J) (g:aI 3 cY l d) (X:l.length≤1000000) (aw:n≤9223372036854775807) :
  ∃d',R rL [d,.int .i64 b,.str a,.int .i64 n] h=some (d',h)∧aI 3 cY (fk l b a n) d':=by
 suffices Wp (R rL [d,.int .i64 b,.str a,.int .i64 n] h) (λy=>y.2=h∧aI 3 cY (fk l b a n) y.1) by
  obtain⟨⟨c,ba⟩,p,rfl,N⟩:=this;exact⟨c,p,N⟩
 rw[rr];simp only[K1,bs,iw];refine Wp.dF (λu=>?_) (λu=>?_)
 ·have u:n≤0:=by simpa using u
  have G:n<1:=by omega
  have C:fk l b a n=l:=by simp[-a7N,fk,G]
  rw[C];simp only[bs,cP];rw[ff (d':=d) (Q8 g _ _ _) (e7 g λf _=>lI _ f) (bB _) λ_ _=>rfl];exact .some ⟨rfl,g⟩
 ·have u:¬n≤0:=by simpa using u
  have G:¬n<1:=by omega
  have C:fk l b a n=h7 l b a n (kT ⟨b,a,0⟩ l):=by simp[-a7N,fk,G]
  rw[C];simp only[bs,aL];refine l60 l d b a h g X _ λa9=>?_
  have P:=tv ⟨b,a,0⟩ l;generalize kT ⟨b,a,0⟩ l=k at P;have I:IntKind.wrap .i64 n=n:=bJ (by omega) aw;simp only[dA,cN,aW,bs,aL];refine Rs (n0:=h.length) (bB _) (aR.aA _ _ _ _) (mB _ g) (by simp;omega) λa8 p K a2 L _ _=>?_
  rw[kp]at K;simp only[bs,oU g,bS];have insert:h7 l b a n k=l.take k++[⟨b,a,n⟩]++l.drop k →
    Wp ((lQ tab p dN false true [a8,.int .i64 (k:Nat),.int .i64 (k:Nat)]).bind λah=>(eD tab eK [0,1,2] [.int .i64 b,.str a,.int .i64 n]).bind λa5=>(dL tab dN 1 [0] [a5]).bind λa6 =>
     (dB tab ah.2 dN dN ah.1 a6).bind λai=>(eN tab dN true false false [d,.int .i64 (k:Nat)]).bind λa7=>(dB tab ai.2 dN dN ai.1 a7).bind λaj=>scope h aj.2 (aF [aj.1])) (λy=>y.2=h∧aI 3 cY (h7 l b a n k) y.1):=λe=>by
   rw[e];obtain⟨bg,N,ao,bc,bb,bi,B,an,a4,bd,ar⟩:=S2 K (by simpa using X) k (by simpa using P) [.int .i64 b,.str a,.int .i64 n] true a2;obtain⟨bh,az,ad⟩:=tV (T:=tab) (t:=dN) (i:=kS) (j:=h4) (id rfl) (id rfl) (id rfl) (id rfl) g (k :=.i64) (n:=(k:Nat)) (by omega) (by omega);rw[eQ]at ad;simp only[ao,bs,R7,Mc,an,az];refine Rs (n0:=h.length) (by omega) a4 (mB _ ad) (by simp;omega) λbf aq ag be am _ _=>?_
   have ay:(l.map cY).take k++[[.int .i64 b,.str a,.int .i64 n]]++(l.drop k).map cY=(l.take k++[(⟨b,a,n⟩:cB)]++l.drop k).map cY:=by
    rw[gL,gL,nn];rfl
   rw[ay]at ag;have x:=gS (n0:=h.length) (n:=3) ag (bB _) (λf _=>l2 _ aq _ f);simp only[cP];rw[ff rfl (e7 x λf _=>lI _ f) (by omega) (λo w=>((am o w).trans (ar o w)).trans (L o w))];exact .some ⟨rfl,x⟩
  by_cases Q:k<l.length
  ·have m:l[k]?=some l[k]:=dG Q;generalize l[k]=c at m;have F:(k:Int)<l.length:=by omega
   have E:aO tab dN d (.int .i64 (k:Nat))=some (.aE (cY c)):=by rw[vK g];simp[-a7N,m]
   have ap:aB tab eK 0 (.aE (cY c))=some (.aE (cY c)):=id rfl;have a1:Y tab p U (.aE (cY c))=some (.int .i64 c.h):=id rfl;have M:aB tab eK 1 (.aE (cY c))=some (.aE [.str c.r,.int .i64 c.n]):=id rfl;have ae:Y tab p bH (.aE [.str c.r,.int .i64 c.n])=some (.str c.r):=id rfl;simp only[F,cM,bZ,aN,bs,E,ap,a1,e8,bW];by_cases s:c.h=b
   ·by_cases z:c.r=a
    ·have e:h7 l b a n k=l.set k ⟨c.h,c.r,IntKind.wrap .i64 (c.n+n)⟩:=by
       have q:h8 c ⟨b,a,0⟩=0:=(pj _ _).2 ⟨s,z⟩;simp[-a7N,h7,m,q]
     have H:(c.r==a)=true:=by simpa using z
     simp only[s,cM,aN,E,M,ae,bs,kc,H,bW,aK,bZ];obtain⟨af,ax,ac,aa⟩:=m5 K (i:=k) (by simpa using Q);rw[fN]at ac;subst ac;have au:(0:Int)≤(k:Int)∧(k:Int)<(l.length:Int):=by omega
     have ab:(l.map cY)[k]?=some (cY c):=by rw[eE,m];rfl
     simp only[GH,au,jq,aN,NS,eQ,eS,iC,dM aa,ab,bs];simp only[cY,jS,il,jT,bs,cO];refine lJ (off:=2) (v :=.int .i64 (IntKind.wrap .i64 (c.n+n))) aa ab rfl (by simp[-a7N,cY]) rfl λB ak al=>?_
     have a0:(l.map cY).set k (dZ (cY c) 2 (cX (.int .i64 (IntKind.wrap .i64 (c.n+n)))))=(h7 l b a n k).map cY:=by
      rw[e,j8];rfl
     rw[a0]at ak;have av:(h7 l b a n k).length=l.length:=by rw[e];simp[-a7N]
     have a3:aR B h.length eK 3 ((h7 l b a n k).map cY) (.aZ 3 af 0 l.length) :=.inr ⟨af,ax,by simp[-a7N,av],ak⟩;have x:=gS (n0:=h.length) (n:=3) a3 (bB _) (λf _=>l2 _ B _ f);simp only[bs,cP];rw[ff rfl (e7 x λf _=>lI _ f) (by have:=al.1;omega) (λo w=>(al.2 o (by omega)).trans (L o w))];exact .some ⟨rfl,x⟩
    ·have e:h7 l b a n k=l.take k++[⟨b,a,n⟩]++l.drop k:=by
       have q:¬h8 c ⟨b,a,0⟩=0:=λA=>z ((pj _ _).1 A).2
       simp[-a7N,h7,m,q,I]
     have H:(c.r==a)=false:=by simpa using z
     simp only[s,cM,aN,E,M,ae,bs,kc,H,bW,aK,bZ,aU,aJ];exact insert e
   ·have e:h7 l b a n k=l.take k++[⟨b,a,n⟩]++l.drop k:=by
      have q:¬h8 c ⟨b,a,0⟩=0:=λA=>s ((pj _ _).1 A).1
      simp[-a7N,h7,m,q,I]
    simp only[s,bT,bZ,aU,aJ,bs,bW,aK,fq];exact insert e
  ·have m:l[k]?=none:=qc (by omega);have F:¬(k:Int)<l.length:=by omega
   have e:h7 l b a n k=l.take k++[⟨b,a,n⟩]++l.drop k:=by simp[-a7N,h7,m,I]
   simp only[F,bT,bZ,aU,aJ,bs,bW,aK,fq];exact insert e
def sm(f:cB→Int):List cB→Int
 |[]=>0
 |t::r=>f t+sm f r
theorem a4v(l:List cB)(c d:D)(h:J)(i:aI 3 cY l c)(m:aI 3 cY l d)(z:l.length≤1000000):R DM [c,d] h=some (.bool true,h):=by
 apply Wp.val;rw[VN];simp only[KW,bs,aL,oU i,oU m,dH,dU,eF,bT,aK,aU,aJ];refine Wp.loop (λk e f=>f=h∧∃q r s,∃a:Nat,e=[q,.int .i64 a,r,s]∧k+a=l.length)
  (λp=>p.1 = .ext 0∧p.2.2=h) l.length ⟨rfl,_,_,_,0,rfl,rfl⟩ ?_ ?_
 ·rintro k e f ⟨rfl,q,r,s,a,rfl,y⟩;simp only[KX,aW,bL,bs,aL,oU i,bS];refine Wp.dF ?_ ?_
  ·intro g;have g:a<l.length:=fe g;have j:l[a]?=some l[a]:=dG g;generalize l[a]=b at j;have v:aO tab dN c (.int .i64 a)=some (.aE (cY b)):=by rw[vK i];simp[-a7N,j]
   have w:aO tab dN d (.int .i64 a)=some (.aE (cY b)):=by rw[vK m];simp[-a7N,j]
   have u:=eR a (by omega);have t:O tab .neq eK (.agg (cY b)) (.agg (cY b))=some (.bool false):=by
    have:=Sn b.h b.h b.r b.r b.n b.n;simpa[-a7N,cY]using this
   simp only[v,w,Ab,t,bs,aK,aU,aJ,cO,u];exact .some (.inl ⟨rfl,k - 1,by omega,rfl,_,_,_,a+1,rfl,by omega⟩)
  ·intro _;exact .some (.inr ⟨by simp,rfl,rfl⟩)
 ·rintro⟨x,e,f⟩ ⟨n,o⟩;simp only at n o;subst n;subst o;simp only[dA,cN,bs,cP];exact .some rfl
def ml(a b:bY):Prop:=a.h<b.h∨(a.h=b.h∧a.f<b.f)
theorem sO(a b:bY):gV a b<0↔ml a b:=by
 unfold gV jF jF jF hA ml;by_cases d:a.h<b.h
 ·simp[-a7N,d]
 ·by_cases g:b.h<a.h
  ·have c:¬a.h=b.h:=by omega
   simp[-a7N,d,g,c]
  ·have c:a.h=b.h:=by omega
   by_cases e:a.f<b.f
   ·simp[-a7N,c,e]
   ·by_cases i:b.f<a.f<;>simp[-a7N,c,e,i]
theorem ri(a b:bY):gV a b=0↔a.h=b.h∧a.f=b.f:=by
 unfold gV jF jF jF hA;by_cases d:a.h<b.h
 ·have c:¬a.h=b.h:=by omega
  simp[-a7N,d,c]
 ·by_cases g:b.h<a.h
  ·have c:¬a.h=b.h:=by omega
   simp[-a7N,d,g,c]
  ·have c:a.h=b.h:=by omega
   by_cases e:a.f<b.f
   ·have:¬a.f=b.f:=by omega
    simp[-a7N,c,e,this]
   ·by_cases i:b.f<a.f
    ·have:¬a.f=b.f:=by omega
     simp[-a7N,c,e,i,this]
    ·have:a.f=b.f:=by omega
     simp[-a7N,c,this]
def gi(l:List bY):Prop:=l.Pairwise ml
def kM(a:bY):List bY→Nat
 |[]=>0
 |x::r=>if gV x a<0 then kM a r+1 else 0
theorem tu(a:bY):∀l,kM a l≤l.length
 |[]=>bB _
 | x::r=>by
  unfold kM;split
  ·have:=tu a r;simp[-a7N];omega
  ·simp[-a7N]
theorem vM(b:bY):∀(l:List bY) (i:Nat) (x:bY),l[i]?=some x→i<kM b l→gV x b<0
 | y::r,0,x,a,hi=>by
  unfold kM at hi;simp at a;subst a;split at hi
  ·assumption
  ·omega
 | y::r,i+1,x,a,hi=>by
  unfold kM at hi;simp at a;split at hi
  ·exact vM b r i x a (by omega)
  ·omega
theorem GI(b:bY):∀(l:List bY) (x:bY),l[kM b l]?=some x→¬gV x b<0
 | y::r,x,a=>by
  unfold kM at a;split at a
  ·exact GI b r x (by simpa using a)
  ·rename_i c;simp at a;subst a;exact c
theorem G5{a b c:bY}(h:ml a b)(k:ml b c):ml a c:=by
 unfold ml at *;omega
theorem y9(c:bY):∀(l:List bY),gi l→∀(i:Nat) (x:bY),l[i]?=some x→kM c l≤i→0≤gV x c
 | y::r,f,i,x,b,hi=>by
  unfold kM at hi;have e:=im.1 f;split at hi
  ·cases i with
   |zero=>omega
   |succ i=>exact y9 c r e.2 i x (by simpa using b) (by omega)
  ·rename_i d;rcases Int.lt_or_le (gV x c) 0 with a|a
   ·exfalso;cases i with
    |zero=>simp at b;subst b;exact d a
    | succ i =>
     have g:r[i]?=some x:=by simpa using b
     exact d ((sO _ _).2 (G5 (e.1 x (eW g)) ((sO _ _).1 a)))
   ·exact a
def iO(l:List bY)(a:bY):Bool:=match l[kM a l]? with
 |some b=>decide (gV b a=0)
 |none=>false
def j2(l:List bY)(b a:Int):Int:=match l[kM ⟨b,a,0⟩ l]? with
 |some c=>if gV c ⟨b,a,0⟩=0 then c.o else 0
 |none=>0
def qH(x:bY)(a b:Int):Bool:=decide (x.h<a)||(decide (x.h=a)&&decide (x.f<b))
theorem Px(x:bY)(b a:Int):qH x b a=true↔gV x ⟨b,a,0⟩<0:=by
 rw[sO];simp[-a7N,qH,ml]
theorem RY(l:List bY)(d:D)(j m:Int)(h:J)(b:aI 3 cZ l d)(i:Nat)(x:bY)(hi:l[i]?=some x)(p:l.length≤1000000)(a:D):
  p7 d (.int .i64 j) (.int .i64 m) [.int .i64 i,a] h=if qH x j m=true then some (.aQ,[.int .i64 ((i+1:Nat):Int),.bool true],h)else some (.ext 0,[.int .i64 i,.bool false],h):=by
 have q:i<l.length:=(bR.1 hi).1;have g:(i:Int)<l.length:=by omega
 have k:=eR i (by omega);have e:aO tab dV d (.int .i64 i)=some (.aE (cZ x)):=by rw[tq b];simp[-a7N,hi]
 by_cases c:x.h<j
 ·simp[-a7N,p7,oT b,g,e,cZ,qH,c,k]
 ·by_cases n:x.h=j
  ·by_cases o:x.f<m
   ·simp[-a7N,p7,oT b,g,e,cZ,qH,c,n,o,k]
   ·simp[-a7N,p7,oT b,g,e,cZ,qH,c,n,o,k]
  ·simp[-a7N,p7,oT b,g,e,cZ,qH,c,n,k]
theorem QI(l:List bY)(d:D)(c b:Int)(h:J)(r:aI 3 cZ l d)(E:l.length≤1000000):R yj [d,.int .i64 c,.int .i64 b] h=some (.bD [.int .i64 (kM ⟨c,b,0⟩ l:Nat),.bool (iO l ⟨c,b,0⟩)],h):=by
 apply Wp.val;rw[UX];simp only[JK,bs,aL];have B:=tu ⟨c,b,0⟩ l;have x:=vM ⟨c,b,0⟩ l;have y:=GI ⟨c,b,0⟩ l;unfold iO;generalize kM ⟨c,b,0⟩ l=e at B x y;refine Wp.loop (λu w m=>m=h∧∃s,∃a:Nat,w=[.int .i64 a,s]∧u+a=e) (λG=>∃v,G=(.ext 0,[.int .i64 (e:Nat),v],h)) e ⟨rfl,_,0,rfl,rfl⟩ ?_ ?_
 ·rintro u w m ⟨rfl,s,a,rfl,H⟩;by_cases A:a<l.length
  ·have g:l[a]?=some l[a]:=dG A;generalize l[a]=i at g;rw[RY l d c b m r a i g E];by_cases j:qH i c b=true
   ·rw[bO j];have:a≠e:=λk=>by subst k;exact y i g ((Px _ _ _).1 j)
    exact .some (.inl ⟨rfl,u - 1,by omega,rfl,_,a+1,rfl,by omega⟩)
   ·rw[cC j];have:a=e:=by
     rcases gG a e with k|k
     ·exact absurd ((Px _ _ _).2 (x a i g k)) j
     ·omega
    subst this;exact .some (.inr ⟨by simp,_,rfl⟩)
  ·have:a=e:=by omega
   subst this;have F:¬(a:Int)<l.length:=by omega
   have z:p7 d (.int .i64 c) (.int .i64 b) [.int .i64 a,s] m=some (.ext 0,[.int .i64 a,.bool false],m):=by
    simp[-a7N,p7,oT r,F]
   rw[z];exact .some (.inr ⟨by simp,_,rfl⟩)
 ·rintro _ ⟨v,rfl⟩;simp only[dA,cN,aW,bs,oT r,bS];by_cases C:e<l.length
  ·have g:l[e]?=some l[e]:=dG C;generalize l[e]=i at g;have p:(e:Int)<l.length:=by omega
   have t:aO tab dV d (.int .i64 (e:Nat))=some (.aE (cZ i)):=by rw[tq r];simp[-a7N,g]
   have j:=ri i ⟨c,b,0⟩;by_cases n:i.h=c
   ·by_cases q:i.f=b
    ·have o:gV i ⟨c,b,0⟩=0:=j.2 ⟨n,q⟩;simp[-a7N,p,t,cZ,n,q,g,o];exact .some rfl
    ·have o:¬gV i ⟨c,b,0⟩=0:=λk=>q (j.1 k).2
     simp[-a7N,p,t,cZ,n,q,g,o];exact .some rfl
   ·have o:¬gV i ⟨c,b,0⟩=0:=λk=>n (j.1 k).1
    simp[-a7N,p,t,cZ,n,g,o];exact .some rfl
  ·have g:l[e]?=none:=qc (by omega);have p:¬(e:Int)<l.length:=by omega
   simp[-a7N,p,g];exact .some rfl
theorem a3H(l:List bY)(d j:D)(b a:Int)(h:J)(f:aI 3 cZ l d)(n:l.length≤1000000):R Dw [.agg [d,j],.int .i64 b,.int .i64 a] h=some (.int .i64 (j2 l b a),h):=by
 rw[UU];have c:=QI l d b a h f n;unfold iO at c;unfold j2;generalize kM ⟨b,a,0⟩ l=g at c;simp only[JH,gq,bs,C1,GN,c,fU,fC,fV];cases k:l[g]? with
 |none=>simp[-a7N]
 | some i =>
  have m:aO tab dV d (.int .i64 (g:Nat))=some (.aE (cZ i)):=by rw[tq f];simp[-a7N,k]
  by_cases e:gV i ⟨b,a,0⟩=0
  ·simp[-a7N,e,m,cZ]
  ·simp[-a7N,e]
def oH(l:List cB)(a:Int)(b:aD):Int:=match l[kT ⟨a,b,0⟩ l]? with
 |some c=>if h8 c ⟨a,b,0⟩=0 then c.n else 0
 |none=>0
theorem S8{h:J}{o:Nat}(P:CD h o):∃x h',R yi [.ptr o 0 0] h=some (x,h')∧CD h' o∧bM o h h'∧∃l:List cB,aI 3 cY l x∧gx l∧l.length≤5:=by
 suffices Wp (R yi [.ptr o 0 0] h) (λg=>CD g.2 o∧bM o h g.2∧∃l:List cB,aI 3 cY l g.1∧gx l∧l.length≤5) by
  obtain⟨⟨x,h'⟩,m,p⟩:=this;exact⟨x,h',m,p⟩
 rw[UW];simp only[JI,bs,aL];obtain⟨au,m,H,D,ad,C,aj⟩:=hP P 5 (by omega) (by omega);refine Wp.step H ?_;obtain⟨s,rfl⟩:=lM C;simp only[bs];refine Wp.loop (λn f c=>CD c o∧bM o h c∧∃x A,∃d:Nat,∃l:List cB,f=[x,.int .i64 d,A]∧n=d∧aI 3 cY l x∧gx l∧l.length+d≤4)
  (λe=>e.1 = .ext 0∧CD e.2.2 o∧bM o h e.2.2∧∃l:List cB,aI 3 cY l (Z 0 e.2.1)∧gx l∧l.length≤5) s ⟨D,ad,_,_,s,[],rfl,rfl,aI.aA _ _,List.Pairwise.nil,by simp;omega⟩ ?_ ?_
 ·rintro n f c ⟨j,z,x,A,d,l,rfl,rfl,r,q,ao⟩;simp only[JJ,aW,bL,bs,aL,dE];refine Wp.dF ?_ ?_
  ·intro k;have k:0<n:=fe k;have X:IntKind.wrap .i64 ((n:Int) - 1)=((n - 1:Nat):Int):=by
    rw[bJ (by omega) (by omega)];omega
   obtain⟨a,p,I,E,ae,ah,ai⟩:=hP j 2 (by omega) (by omega);refine Wp.step I ?_;simp only[cO,bJ (n:=1+a) (by omega) (by omega),bs,a1R];obtain⟨B,am,K,F,af,t,aa⟩:=hP E 4 (by omega) (by omega);refine Wp.step K ?_;obtain⟨i,ap,T⟩:=qJ Ps B t aa;simp only[tp,t,aN,eE,T,hU,bs,gW];obtain⟨b,N,L,G,ag,aq,ar⟩:=hP F 9 (by omega) (by omega);refine Wp.step L ?_;obtain⟨ak,M,Q⟩:=zS l x (1+a) i (1+b) N r (by omega) (by omega);simp only[cO,bJ (n:=1+b) (by omega) (by omega),bs,M];refine Wp.dY trivial ?_;simp only[bs,eB,X];have an:=ny l (1+a) i (1+b);exact .some (.inl ⟨rfl,n - 1,by omega,G,((z.trans ae).trans af).trans ag,_,_,n - 1,fk l (1+a) i (1+b),rfl,rfl,Q,oy q _ _ _,by omega⟩)
  ·intro _;exact .some (.inr ⟨by simp,rfl,j,z,l,r,q,by omega⟩)
 ·rintro⟨al,f,c⟩ ⟨u,v,w,l,y,ab,ac⟩;simp only at u v w y;subst u;simp only[dA,cN,bs,cP];exact .some ⟨v,w,l,y,ab,ac⟩
structure nj (h g:J) (o:Nat) (ms:List bY) (x:D):Prop where
 len:h.length+2≤g.length
 gr:lL h.length o h g
 cd:CD g o
 p2:g[h.length]?=some (.row aX 2 [[.aA,.aA]])
 p3:g[h.length+1]?=some (.row aX 2 [[x,.aA]])
 own:aR g (h.length+2) eO 3 (ms.map cZ) x
theorem nj.next{h g g':J}{o:Nat}{b:List bY}{x:D}(R:nj h g o b x)(d:o<h.length)(c:CD g' o)(a:bM o g g'):nj h g' o b x:=
 ⟨by have:=a.1;have:=R.len;omega,R.gr.trans a.grow,c,(a.2 _ (by omega)).trans R.p2,(a.2 _ (by omega)).trans R.p3,R.own.same a (by omega)⟩
theorem a0O{h:J}{o:Nat}(B:o<h.length)(ad:D × J)(a0:ad.1 = .ptr (h.length+1) 0 0)(K:List D)(j:Int)(aw:Z 0 K = .int .i64 j)(M:J)(k:List bY)(ah:D)(am:nj h M o k ah)(bf:k.length≤100)(av:gi k)(az:∀m∈k,m.h<j)
  {ak:Type} {F:bK→Option ak} {Q:ak→Prop} (a b:D)
  (ao:∀f c e g d x,nj h g o d x→d.length≤k.length+3→gi d→(∀m∈d,m.h≤j)→Wp (F (.ext 2,[f,c,e],g)) Q) :
  Wp ((cA (A8 (.ptr o 0 0) ad K) [.int .i64 5,a,b] M).bind F) Q:=by
 refine Wp.loop (λn A g=>∃ai aj x,∃f:Int,∃d:List bY,A=[.int .i64 f,ai,aj]∧5≤f∧f+n=8∧nj h g o d x∧(d.length:Int)≤k.length+(f - 5)∧gi d∧(∀m∈d,m.h<j∨(m.h=j∧m.f<f)))
  (λv=>v.1 = .ext 2∧(∃f c e,v.2.1=[f,c,e])∧∃d x,nj h v.2.2 o d x∧d.length≤k.length+3∧gi d∧∀m∈d,m.h≤j) 3 ⟨_,_,ah,5,k,rfl,by omega,by omega,am,by omega,av,λm i =>.inl (az m i)⟩ ?_ ?_
 ·rintro n A g ⟨ai,aj,x,f,d,rfl,be,bg,R,X,t,p⟩;simp only[A8,aW,bL,bs,aL];obtain⟨af,bb,ap,H,a5,a8,a9⟩:=hP R.cd 3 (by omega) (by omega);refine Wp.step ap ?_;have G:=R.next B H a5;simp only[cO,bJ (n:=5+af) (by omega) (by omega),bs,iw];refine Wp.dF ?_ ?_
  ·intro T;have T:f≤5+af:=by simpa using T
   have a2:IntKind.wrap .i64 (f+1)=f+1:=bJ (by omega) (by omega);obtain⟨bi,bc,aq,I,a6,bj,bk⟩:=hP H 2 (by omega) (by omega);refine Wp.step aq ?_;have z:=G.next B I a6;simp only[e8,bs];refine Wp.join (P:=λv=>∃y s q,v=(.aQ,[],y)∧nj h y o q s∧(q.length:Int)≤k.length+(f+1 - 5)∧gi q∧∀m∈q,m.h<j∨(m.h=j∧m.f<f+1)) ?_ ?_ ?_
   ·intro _;have ab:∀{L:J},L[h.length+1]?=some (.row aX 2 [[x,.aA]])→Y tab L dV (.ptr (h.length+1) 0 (0+0))=some x:=λC=>by rw[zd,dM C];rfl
    simp only[a0,xO,ab z.p3,bs,aw];obtain⟨ag,bd,ar,an,a7,bl,bm⟩:=hP I 60 (by omega) (by omega);refine Wp.step ar ?_;have l:=z.next B an a7;simp only[bs,L3,L8];refine Aq l.len l.own (hC _ _ _ _) (by simp;omega) λs y ac bh w _ _=>?_
    simp only[bs,ab l.p3];refine Wp.dY trivial ?_;have E:=fT (jj ac);refine Aw (off:=0+0) ((w (h.length+1) (by omega)).trans l.p3) rfl (by rw[E.1];rfl) (by simp) E.2 λN ae r=>?_
    rw[E.1]at ae;have a3:aR N (h.length+2) eO 3 ((d++[(⟨j,f,ag⟩:bY)]).map cZ) s:=by
     rw[gL];exact ac.cL λu C _=>r.2 u (by omega)
    refine .some ⟨N,s,d++[⟨j,f,ag⟩],rfl,⟨by have:=r.1;have:=l.len;omega,l.gr.trans ⟨by have:=r.1;omega,λu C _=>(r.2 u (by omega)).trans (w u (by omega))⟩,l.cd.cL ((r.2 o (by omega)).trans (w o (by omega))),(r.2 _ (by omega)).trans ((w _ (by omega)).trans l.p2),ae,a3⟩,by simp;omega,?_,λm i=>?_⟩
    ·unfold gi;rw[jd];refine⟨t,by simp,λa4 a1 u aa=>?_⟩;simp only[np]at aa;subst aa;exact p a4 a1
    ·rcases fp.1 i with i|i
     ·have:=p m i;omega
     ·simp only[np]at i;subst i;right;exact⟨rfl,by show f<f+1;omega⟩
   ·intro _;exact .some ⟨_,x,d,rfl,z,by omega,t,λm i=>by have:=p m i;omega⟩
   rintro _ ⟨y,s,q,rfl,al,ax,au,ay⟩;simp only[cN,ga,bs,a2];exact .some (.inl ⟨rfl,n - 1,by omega,_,_,s,f+1,q,rfl,by omega,by omega,al,ax,au,ay⟩)
  ·intro _;exact .some (.inr ⟨by simp,rfl,⟨_,_,_,rfl⟩,d,x,G,by omega,t,λm i=>by have:=p m i;omega⟩)
 ·rintro⟨ba,A,g⟩ ⟨rfl,⟨f,c,e,rfl⟩,d,x,R,X,t,p⟩;exact ao f c e g d x R X t p
theorem oW(n0:Nat)(h:J)(n:Nat)(p:bY):∀d∈cZ p,cS n0 h n d=d:=by simp[-a7N,cZ]
theorem oX(n:Nat)(p:bY):∀d∈cZ p,Ok n d:=by
 intro d a;simp[-a7N,cZ]at a;rcases a with rfl|rfl|rfl<;>constructor
theorem S7{h:J}{o:Nat}(M:CD h o):∃j c h',R yh [.ptr o 0 0] h=some (.agg [j,c],h')∧CD h' o∧bM o h h'∧∃(a:List bY) (g:List cB),aI 3 cZ a j∧gi a∧a.length≤6∧aI 3 cY g c∧gx g∧g.length≤5:=by
 suffices Wp (R yh [.ptr o 0 0] h) (λF=>∃j c,F.1 = .agg [j,c]∧CD F.2 o∧bM o h F.2∧∃(a:List bY) (g:List cB),aI 3 cZ a j∧gi a∧a.length≤6∧aI 3 cY g c∧gx g∧g.length≤5) by
  obtain⟨⟨b,h'⟩,A,j,c,rfl,af⟩:=this;exact⟨j,c,h',A,af⟩
 have u:=M.lt;have B:(aG h aX 2 [[.aA,.aA]]).length=h.length+1:=by simp[-a7N,aG]
 have H:nj h (aG (aG h aX 2 [[.aA,.aA]]) aX 2 [[.aA,.aA]]) o [] .aA:=by
  have Q:∀e,e<h.length→(aG (aG h aX 2 [[.aA,.aA]]) aX 2 [[.aA,.aA]])[e]?=h[e]?:=λe m=>by
   rw[eT _ _ _ _ (by omega),eT _ _ _ _ m]
  refine⟨by simp[-a7N,aG],⟨by simp[-a7N,aG],λe m _=>Q e m⟩,M.cL (Q o u),?_,?_,aR.aA _ _ _ _⟩
  ·rw[eT _ _ _ _ (by omega)];exact fO _ _ _ _
  ·rw[← B];exact fO _ _ _ _
 rw[UT];simp only[JF,bs,aL];have C:((D.ptr (aG h aX 2 [[.aA,.aA]]).length 0 0,aG (aG h aX 2 [[.aA,.aA]]) aX 2 [[.aA,.aA]]):D × J).1 = .ptr (h.length+1) 0 0:=by rw[B]
 generalize ag:((D.ptr (aG h aX 2 [[.aA,.aA]]).length 0 0,aG (aG h aX 2 [[.aA,.aA]]) aX 2 [[.aA,.aA]]):D × J)=ay at C;rw[B];generalize aG (aG h aX 2 [[.aA,.aA]]) aX 2 [[.aA,.aA]]=a4 at H;clear ag;refine Wp.loop (λn y s=>∃i I x z b,∃f:Int,∃a:List bY,y=[.int .i64 f,i,I,x,z]∧1≤f∧f+n=3∧nj h s o a b∧(a.length:Int)≤3*(f - 1)∧gi a∧∀E∈a,E.h<f)
  (λaa=>aa.1 = .ext 0∧∃a b,nj h aa.2.2 o a b∧a.length≤6∧gi a) 2 ⟨_,_,_,_,_,1,[],rfl,by omega,by omega,H,by simp,List.Pairwise.nil,by simp⟩ ?_ ?_
 ·rintro n y s ⟨i,I,x,z,b,f,a,rfl,A,a6,R,P,t,aj⟩;simp only[JG,aW,bL,bs,aL,iw];refine Wp.dF ?_ ?_
  ·intro L;have L:f≤2:=by simpa using L
   have aq:IntKind.wrap .i64 (f+1)=f+1:=bJ (by omega) (by omega);refine a0O u ay C _ f rfl s a b R (by omega) t aj _ _ λa2 x z a3 au a0 ab a5 ah ak=>?_
   simp only[dA,cN,ga,aW,bL,bs,cO,aq];exact .some (.inl ⟨rfl,n - 1,by omega,_,_,_,_,a0,f+1,au,rfl,by omega,by omega,ab,by omega,ah,λE al=>by have:=ak E al;omega⟩)
  ·intro _;exact .some (.inr ⟨by simp,rfl,a,b,R,by omega,t⟩)
 ·rintro⟨a1,y,s⟩ ⟨X,a,b,R,P,t⟩;simp only at X R;subst X;obtain⟨c,A,ae,ad,az,g,p,ao,ap⟩:=S8 R.cd;have k:=R.next u ad az;simp only[dA,cN,bs];refine Wp.step ae ?_;have v:=fT (fx p);have ax:=jj k.own;simp only[C,uX,bs,aL];refine Iz (off:=0+1) k.p3 rfl (by rw[v.1];rfl) (by simp) v.2 λK q r=>?_
  rw[v.1]at q;replace q:K[h.length+1]?=some (.row aX 2 [[b,c]]):=q;have T:Y tab K aX (.ptr (h.length+1) 0 0)=some (.agg [b,c]):=by rw[m1,dM q];rfl
  refine Wp.step T ?_;refine m8 (off:=0) ((r.2 _ (by omega)).trans k.p2) rfl rfl (by simp) (by
   have av:=fx p;clear T q v;cases b<;>first|(cases c<;>first|rfl|(simp[-a7N,D.one]at av))|(simp[-a7N,D.one]at ax)) λl G w=>?_
  replace G:l[h.length]?=some (.row aX 2 [[b,c]]):=G;have ar:Y tab l aX (.ptr h.length 0 0)=some (.agg [b,c]):=by rw[m1,dM G];rfl
  refine Wp.step ar ?_;simp only[cP];have aw:aR l (h.length+2) eO 3 (a.map cZ) b:=k.own.cL λe m _=>(w.2 e (by omega)).trans (r.2 e (by omega))
  have S:=gS (n0:=h.length) (n:=2) aw (by omega) (λi _=>oW _ l _ i);have ac:St h o l:=⟨u,k.cd.cL ((w.2 o (by omega)).trans (r.2 o (by omega))),k.gr.trans ⟨by have:=r.1;have:=w.1;omega,λe m _=>(w.2 e (by omega)).trans (r.2 e (by omega))⟩⟩
  obtain⟨h',am,ai,an⟩:=ac.scope (d :=.agg [b,c]) (d' :=.agg [cS h.length l 3 b,c]) (by simp[-a7N,Q8 p]) (.agg _ λd N=>by
   simp at N;rcases N with rfl|rfl
   ·exact e7 S λi _=>oX _ i
   ·exact e7 p λi _=>lI _ i)
  rw[am];exact .some ⟨_,_,rfl,ai,an,a,g,S,t,P,p,ao,ap⟩
theorem z4{α:Type}{lt:α→α→Prop}(f:∀a,¬lt a a)(m:∀a b c,lt a b→lt b c→lt a c):∀{l r:List α},l.Pairwise lt→r.Pairwise lt→(∀x,x∈l↔x∈r)→l=r
 |[],[],_,_,_=>rfl
 |[],y::r,_,_,h=>by have:=(h y).2 (by simp);cases this
 |x::l,[],_,_,h=>by have:=(h x).1 (by simp);cases this
 | x::l,y::r,n,o,h=>by
  have j:=im.1 n;have k:=im.1 o;have p:x=y:=by
   rcases fc.1 ((h x).1 (by simp))with d|d
   ·exact d
   ·rcases fc.1 ((h y).2 (by simp))with i|i
    ·exact i.symm
    ·exact absurd (m _ _ _ (j.1 y i) (k.1 x d)) (f _)
  subst p;rw[z4 f m j.2 k.2 λg=>⟨λe=>?_,λe=>?_⟩]
  ·rcases fc.1 ((h g).1 (by simp[-a7N,e]))with d|d
   ·subst d;exact absurd (j.1 g e) (f _)
   ·exact d
  ·rcases fc.1 ((h g).2 (by simp[-a7N,e]))with d|d
   ·subst d;exact absurd (k.1 g e) (f _)
   ·exact d
theorem a2j(a:bY):¬ml a a:=by unfold ml;omega
theorem GL(a:cB):¬kl a a:=by
 unfold kl;rintro(b|⟨_,b⟩)
 ·omega
 ·rw[q8]at b;cases b
theorem Pt{l r:List bY}(a:gi l)(b:gi r)(h:∀x,x∈l↔x∈r):l=r:=z4 a2j (λ_ _ _=>G5) a b h
theorem Q9{l r:List cB}(a:gx l)(b:gx r)(h:∀x,x∈l↔x∈r):l=r:=z4 GL (λ_ _ _=>GM) a b h
def ih(l:List bY)(m:bY):List bY:=if iO l m=true then l.set (kM m l) m else l.take (kM m l)++[m]++l.drop (kM m l)
theorem za(a b:bY)(c:a.h=b.h)(h2:a.f=b.f):∀l,kM a l=kM b l
 |[]=>rfl
 | x::r=>by
  have:gV x a=gV x b:=by unfold gV;rw[c,h2]
  unfold kM;rw[this,za a b c h2 r]
theorem SV(x a b:bY)(c:a.h=b.h)(h2:a.f=b.f):gV x a=gV x b:=by unfold gV;rw[c,h2]
theorem Pu:∀{l:List bY},gi l→∀{x y:bY},x∈l→y∈l→x.h=y.h→x.f=y.f→x=y
 | z::r,h,x,y,i,d,g,h2=>by
  have h':=im.1 h;rcases fc.1 i with c|e
  ·rcases fc.1 d with a|b
   ·rw[c,a]
   ·have:=h'.1 y b;rw[← c]at this;unfold ml at this;omega
  ·rcases fc.1 d with a|b
   ·have:=h'.1 x e;rw[← a]at this;unfold ml at this;omega
   ·exact Pu h'.2 e b g h2
theorem H6:∀{l:List cB},gx l→∀{x y:cB},x∈l→y∈l→x.h=y.h→x.r=y.r→x=y
 | z::r,h,x,y,m,g,e,h2=>by
  have h':=im.1 h;have j:∀a b:cB,kl a b→a.h=b.h→a.r=b.r→False:=λa b k d c=>by
   have:=(oG a b).2 k;have:=(pj a b).2 ⟨d,c⟩;omega
  rcases fc.1 m with d|i
  ·rcases fc.1 g with c|f
   ·rw[d,c]
   ·have:=h'.1 y f;rw[← d]at this;exact(j _ _ this e h2).elim
  ·rcases fc.1 g with c|f
   ·have:=h'.1 x i;rw[← c]at this;exact(j _ _ this e.symm h2.symm).elim
   ·exact H6 h'.2 i f e h2
theorem OL(m:bY)(l:List bY):∀x∈l.take (kM m l),ml x m:=by
 intro x c;obtain⟨d,a⟩:=j7 c;have b:=(bR.1 a).1;rw[lq]at b;rw[gw,bO (by omega)]at a;exact(sO _ _).1 (vM m l d x a (by omega))
theorem a0v(m:bY)(l:List bY)(c:gi l):∀x∈l.drop (kM m l),¬ml x m:=by
 intro x d;obtain⟨e,a⟩:=j7 d;rw[ko]at a;have:=y9 m l c _ x a (by omega);intro b;have:=(sO _ _).2 b;omega
theorem a2k{a b:bY}(h:¬ml a b)(k:¬(a.h=b.h∧a.f=b.f)):ml b a:=by
 unfold ml at *;omega
theorem DW (l:List bY) (m:bY) (q:gi l):iO l m=true↔∃x∈l,x.h=m.h∧x.f=m.f:=by
 unfold iO;constructor
 ·intro h;cases a:l[kM m l]? with
  |none=>rw[a]at h;cases h
  | some x =>
   rw[a]at h;have h:gV x m=0:=by simpa using h
   exact⟨x,eW a,(ri _ _).1 h⟩
 ·rintro ⟨x,d,k,n⟩;have r:x∈l.drop (kM m l):=by
   rw[← h6 (kM m l) l]at d;rcases fp.1 d with h|h
   ·have:=OL m l x h;unfold ml at this;omega
   ·exact h
  obtain⟨t,b⟩:=j7 r;rw[ko]at b;cases a:l[kM m l]? with
  | none =>
   have:=List.getElem?_eq_none_iff.1 a;have:=(bR.1 b).1;omega
  | some c =>
   have o:gV c m=0:=by
    have s:=GI m l c a;rcases ot t with rfl|u
    ·rw[ns,a]at b;injection b with b;subst b;exact(ri _ _).2 ⟨k,n⟩
    ·exfalso;have p:ml c x:=by
      obtain⟨e,g⟩:=bR.1 a;obtain⟨i,j⟩:=bR.1 b;have:=om.1 q _ _ e i (by omega);rw[g,j]at this;exact this
     exact s ((sO _ _).2 (by unfold ml at p ⊢;omega))
   simp[-a7N,o]
theorem zY (l:List bY) (m:bY) (n:gi l) (x:bY):x∈ih l m↔x=m∨(x∈l∧¬(x.h=m.h∧x.f=m.f)):=by
 unfold ih;by_cases c:iO l m=true
 ·rw [bO c];unfold iO at c;cases e:l[kM m l]? with
  |none=>rw[e]at c;cases c
  | some d =>
   rw[e]at c;have g:gV d m=0:=by simpa using c
   have g:=(ri _ _).1 g;have i:kM m l<l.length:=(bR.1 e).1;constructor
   ·intro a;obtain⟨t,b⟩:=j7 a;rw[BQ]at b;split at b
    ·rename_i u;left;subst u;simp[-a7N,i]at b;exact b.symm
    ·rename_i v;by_cases j:x.h=m.h∧x.f=m.f
     ·exfalso;obtain⟨o,p⟩:=bR.1 e;obtain⟨q,r⟩:=bR.1 b;rcases Nat.lt_or_gt_of_ne v with k|k
      ·have:=om.1 n _ _ o q k;rw[p,r]at this;unfold ml at this;omega
      ·have:=om.1 n _ _ q o k;rw[p,r]at this;unfold ml at this;omega
     ·exact .inr ⟨eW b,j⟩
   ·rintro(rfl|⟨a,j⟩)
    ·exact q3.2 ⟨kM x l,by rw[q2 i]⟩
    ·obtain⟨t,b⟩:=j7 a;refine q3.2 ⟨t,?_⟩;rw[kZ]
     ·exact b
     ·rintro rfl;rw[e]at b;injection b with b;subst b;exact j g
 ·rw [cC c];have s:∀d∈l,¬(d.h=m.h∧d.f=m.f):=λd g i=>c ((DW l m n).2 ⟨d,g,i⟩)
  constructor
  ·intro a;simp only[fp,np]at a;rcases a with(a|a)|a
   ·have:=fG a;exact .inr ⟨this,s x this⟩
   ·exact .inl a
   ·have:=fM a;exact .inr ⟨this,s x this⟩
  ·rintro(rfl|⟨a,_⟩)
   ·simp[-a7N]
   ·rw[← h6 (kM m l) l]at a;rcases fp.1 a with h|h
    ·simp[-a7N,h]
    ·simp[-a7N,h]
theorem wk(l:List bY)(m:bY)(b:gi l):gi (ih l m):=by
 unfold ih;by_cases a:iO l m=true
 ·rw[bO a];unfold iO at a;cases k:l[kM m l]? with
  |none=>rw[k]at a;cases a
  | some c =>
   rw[k]at a;have g:gV c m=0:=by simpa using a
   have g:=(ri _ _).1 g;unfold gi at *;rw[om]at b ⊢;obtain⟨A,o⟩:=bR.1 k;intro y z r s v;simp only[BV]at r s;have:=b y z r s v;simp only[List.getElem_set];split<;>split
   ·omega
   ·rename_i d e;subst d;rw[o]at this;unfold ml at this ⊢;omega
   ·rename_i d e;subst e;rw[o]at this;unfold ml at this ⊢;omega
   ·exact this
 ·rw[cC a];unfold gi at *;have d:=OL m l;have e:=a0v m l b;have x:∀c∈l,¬(c.h=m.h∧c.f=m.f):=λc g w=>a ((DW l m b).2 ⟨c,g,w⟩)
  have p:∀i∈l.drop (kM m l),ml m i:=λi t=>a2k (e i t) (x i (fM t))
  rw[gF,jd];refine⟨b.sublist (LC _ _),im.2 ⟨p,b.sublist (List.drop_sublist _ _)⟩,λn q u j=>?_⟩;rcases fc.1 j with rfl|j
  ·exact d n q
  ·exact G5 (d n q) (p u j)
theorem zX(l:List bY)(m:bY):(ih l m).length≤l.length+1:=by
 have:=tu m l;unfold ih;split<;>simp[-a7N]<;>omega
theorem G4(l:List bY)(g:gi l)(h f:Int):(∃x∈l,x.h=h∧x.f=f∧j2 l h f=x.o)∨((∀x∈l,¬(x.h=h∧x.f=f))∧j2 l h f=0):=by
 by_cases a:iO l ⟨h,f,0⟩=true
 ·left;unfold iO at a;unfold j2;cases b:l[kM ⟨h,f,0⟩ l]? with
  |none=>rw[b]at a;cases a
  | some e =>
   rw[b]at a;have d:gV e ⟨h,f,0⟩=0:=by simpa using a
   have c:=(ri _ _).1 d;exact⟨e,eW b,c.1,c.2,by simp[-a7N,d]⟩
 ·right;refine⟨λx i c=>a ((DW l _ g).2 ⟨x,i,c⟩),?_⟩;unfold iO at a;unfold j2;cases b:l[kM ⟨h,f,0⟩ l]? with
  |none=>rfl
  | some e =>
   rw[b]at a;have d:¬gV e ⟨h,f,0⟩=0:=by simpa using a
   simp[-a7N,d]
theorem a0b{m l fr:Int}{i:It}(hi:ob m l fr i)(s:0≤m)(t:m≤999)(q:0≤l)(y:l≤1000)(B:0≤fr)(C:fr≤50000):(i.r=[]∧wJ i.e)∨Cc i:=by
 have w:=qg _ _ _ hi.ch;have A:=hi.n3;have o:=hi.n1;have p:sD i.e:=⟨by rw[hi.host];exact s,by rw[hi.host];exact t,by rw[hi.file];exact q,by rw[hi.file];omega,by rw[hi.fr];omega,by rw[hi.fr];omega,by omega⟩
 have n:chain i.e.a2 i.e.ls i.e.a3:=by rw[hi.fr];exact hi.ch
 by_cases b:i.r=[]
 ·left;obtain⟨d,f,g,h,j,k,a,x⟩:=hi.ev b;have z:i.e.fs.length≤4:=by
   have:=a.1.length_le;simpa using this
  exact⟨b,p,d,f,g,h,hi.wt b,o,by omega,n,(show ∀c∈vY,c.length≤32 by decide) _ j,(show ∀c∈vZ,c.length≤32 by decide) _ k,by omega,N5 a.1,LZ a.1,λv u=>by have:=a.2 v u;omega⟩
 ·right;obtain⟨d,f,g,h,j,k,a⟩:=hi.sk b;exact⟨b,(show ∀c∈qF,c.length≤32 by decide) _ d,p,o,by omega,n,f,g,h,j,k,a⟩
structure uh (hst:Int) (i:It):Prop where
 host:i.e.a0=hst
 f5:5≤i.e.a1
 f7:i.e.a1≤7
 r0:0≤i.e.a2
 r9:i.e.a2≤50000
 ch:chain i.e.a2 i.e.ls i.e.a3
 n1:1≤i.e.ls.length
 n6:i.e.ls.length≤6
 Qn:i.r=[]∨i.r∈qF
 fs:i.e.fs.length≤4
 yU:(i.r=[]∧wJ i.e)∨Cc i
theorem Cp{b c fr:Int}{i:It}(hi:ob b c fr i)(h:0≤b)(j:b≤999)(f:5≤c)(g:c≤7)(d:0≤fr)(e:fr≤50000):uh b i:=by
 have k:=hi.n3;refine⟨hi.host,by rw[hi.file];exact f,by rw[hi.file];exact g,by rw[hi.fr];exact d,by rw[hi.fr];exact e,by rw[hi.fr];exact hi.ch,hi.n1,by omega,?_,?_,a0b hi h j (by omega) (by omega) d e⟩
 ·by_cases a:i.r=[]
  ·exact .inl a
  ·exact .inr (hi.sk a).1
 ·by_cases a:i.r=[]
  ·have:=(hi.ev a).2.2.2.2.2.2.1.1.length_le;simpa using this
  ·rw[(hi.sk a).2.2.2.2.2.1];simp[-a7N]
structure Cd (a b j:It):Prop where
 r:j.r=b.r
 a0:j.e.a0=b.e.a0
 a1:j.e.a1=b.e.a1
 a2:j.e.a2=a.e.a2
 a3:j.e.a3=b.e.a3
 a5:j.e.a5=b.e.a5
 a6:j.e.a6=b.e.a6
 s7:j.e.s7=b.e.s7
 s8:j.e.s8=b.e.s8
 ls:j.e.ls=if b.r=[]then a.e.ls++b.e.ls else(a.e.ls++b.e.ls).map blank
 fs:j.e.fs=b.e.fs
theorem Mp:∀(e d:List eV) (a b c:Int),chain a e b→chain b d c→chain a (e++d) c
 |[],d,a,b,c,h,k=>by simp only[chain]at h;subst h;exact k
 |x::e,d,a,b,c,h,k=>⟨h.1,h.2.1,h.2.2.1,h.2.2.2.1,Mp e d _ b c h.2.2.2.2 k⟩
theorem Sk{h l fr y:Int}{a b j:It}(f:ob h l fr a)(d:ob h l y b)(C:a.e.a3=y)(z:0≤h)(A:h≤999)(w:5≤l)(x:l≤7)(G:0≤fr)(X:fr≤40000)(c:Cd a b j):uh h j:=by
 have P:=f.n1;have Q:=f.n3;have R:=d.n1;have T:=d.n3;have H:=qg _ _ _ f.ch;have I:=qg _ _ _ d.ch;have M:j.e.ls.length=a.e.ls.length+b.e.ls.length:=by
  rw[c.ls];split<;>simp[-a7N]
 have v:chain a.e.a2 (a.e.ls++b.e.ls) b.e.a3:=by
  rw[f.fr];exact Mp _ _ _ _ _ f.ch (by rw[C];exact d.ch)
 have m:chain j.e.a2 j.e.ls j.e.a3:=by
  rw[c.a2,c.a3,c.ls];split
  ·exact v
  ·exact Cw _ _ _ v
 have B:sD j.e:=⟨by rw[c.a0,d.host];exact z,by rw[c.a0,d.host];exact A,by rw[c.a1,d.file];omega,by rw[c.a1,d.file];omega,by rw[c.a2,f.fr];omega,by rw[c.a2,c.a3,f.fr];omega,by rw[c.a3];omega⟩
 have u:=Cp d z A w x (by omega) (by omega);refine⟨by rw[c.a0,d.host],by rw[c.a1,d.file];exact w,by rw[c.a1,d.file];exact x,by rw[c.a2,f.fr];exact G,by rw[c.a2,f.fr];omega,m,by omega,by omega,by rw[c.r];exact u.Qn,by rw[c.fs];exact u.fs,?_⟩;by_cases g:b.r=[]
 ·left;obtain⟨n,o,p,q,s,t,k,K⟩:=d.ev g;have L:=u.fs;exact⟨by rw[c.r,g],B,by rw[c.a5];exact n,by rw[c.a5];exact o,by rw[c.a6];exact p,by rw[c.a6];exact q,by rw[c.a6];exact d.wt g,by omega,by omega,m,by rw[c.s7];exact(show ∀i∈vY,i.length≤32 by decide) _ s,by rw[c.s8];exact(show ∀i∈vZ,i.length≤32 by decide) _ t,by rw[c.fs];omega,by rw[c.fs];exact N5 k.1,by rw[c.fs];exact LZ k.1,by rw[c.fs];exact λF E=>by have:=k.2 F E;omega⟩
 ·right;obtain⟨n,o,p,q,s,t,k⟩:=d.sk g;exact⟨by rw[c.r];exact g,by rw[c.r];exact(show ∀i∈qF,i.length≤32 by decide) _ n,B,by omega,by omega,m,by rw[c.a5];exact o,by rw[c.a6];exact p,by rw[c.s7];exact q,by rw[c.s8];exact s,by rw[c.fs];exact t,by
   rw[c.ls,cC g];intro N D;obtain⟨aa,_,rfl⟩:=g8.1 D;rfl⟩
theorem y2(g d:Int):∀(l:List It) (a b:Int),items g d a l b→∀(k:Nat) (i:It),l[k]?=some i→∃f,ob g d f i∧a≤f∧f≤a+108*k∧∀j,l[k+1]?=some j→ob g d i.e.a3 j
 |[],_,_,_,k,i,hi=>by simp at hi
 | x::r,a,b,h,0,i,hi=>by
  simp at hi;subst hi;refine⟨a,h.1,by omega,by omega,λj c=>?_⟩;cases r with
  |nil=>simp at c
  |cons y r=>simp at c;subst c;exact h.2.1
 | x::r,a,b,h,k+1,i,hi=>by
  obtain⟨f,m,h2,p,n⟩:=y2 g d r _ b h.2 k i (by simpa using hi);have o:=qg _ _ _ h.1.ch;have:=h.1.n3;exact⟨f,m,by omega,by push_cast;omega,λj c=>n j (by simpa using c)⟩
def iQ(b:Bool)(l:List eV)(k:Nat):List eV:=if b=true then(l.take k).map blank++l.drop k else l
theorem An(b:Bool)(l:List eV)(k:Nat)(a:k≤l.length):(iQ b l k).length=l.length:=by
 unfold iQ;split
 ·simp[-a7N];omega
 ·rfl
theorem a3N(a b:It)(h:J)(b7:a.e.ls.length≤1000)(b8:b.e.ls.length≤1000)(b9:1≤a.e.ls.length):∃j,R yl [.agg (aT a),.agg (aT b)] h=some (.agg (aT j),h)∧Cd a b j:=by
 suffices Wp (R yl [.agg (aT a),.agg (aT b)] h) (λau=>au.2=h∧∃j,au.1 = .agg (aT j)∧Cd a b j) by
  obtain⟨⟨C,h'⟩,X,rfl,j,rfl,H⟩:=this;exact⟨j,X,H⟩
 rw[U2];have bx:∀i:It,aB tab aC 4 (.aE (bG i.e))=some (.aE [i.e.ld,.int .i64 i.e.a5,.int .i64 i.e.a6,.str i.e.s7,.str i.e.s8,i.e.fd]):=λi=>id rfl
 have bw:∀i:It,aB tab aC 2 (.aE (bG i.e))=some (.aE [.int .i64 i.e.a2,.int .i64 i.e.a3,i.e.ld,.int .i64 i.e.a5,.int .i64 i.e.a6,.str i.e.s7,.str i.e.s8,i.e.fd]):=λi=>id rfl
 generalize I:([.str [],.int .i64 0,.int .i64 0,.int .i64 0,.int .i64 0,.aA,.int .i64 0,.int .i64 0,.str [],.str [],.aA]:List D)=l;have an:l.length=11:=by subst I;rfl
 simp only[JR,bs,gq,kL,I,aL,pH,bw,bx,eU,jh];have aq:(aG h aH 11 [l]).length=h.length+1:=by simp[-a7N,aG]
 have q:(aG (aG h aH 11 [l]) aH 11 [l])[h.length]?=some (.row aH 11 [l]):=by
  rw[eT _ _ _ _ (by omega)];exact fO _ _ _ _
 have ai:(aG (aG h aH 11 [l]) aH 11 [l])[h.length+1]?=some (.row aH 11 [l]):=by
  rw[← aq];exact fO _ _ _ _
 have p:∀c,c<h.length→(aG (aG h aH 11 [l]) aH 11 [l])[c]?=h[c]?:=λc m=>by
  rw[eT _ _ _ _ (by omega),eT _ _ _ _ m]
 have u:(aG (aG h aH 11 [l]) aH 11 [l]).length=h.length+2:=by simp[-a7N,aG]
 rw[aq];generalize aG (aG h aH 11 [l]) aH 11 [l]=b2 at q ai p u;refine l5 ai (by rfl) (by rfl) (by rw[an];exact bB _) (by rfl) λbb g ax=>?_
 replace g:bb[h.length+1]?=some (.row aH 11 [aT b]):=by
  rw[g];subst I;rfl
 simp only[lB,qs,jY,eS,bs];refine lJ g (by rfl) (by rfl) (by simp[-a7N,aT,bG]) (by rfl) λx g ay=>?_
 try simp only[bs]
 refine qX g (by rfl) (by rfl) (by simp[-a7N,aT,bG,dZ,cX]) (by rfl) λz g az=>?_
 replace g:z[h.length+1]?=some (.row aH 11 [[.str b.r,.int .i64 b.e.a0,.int .i64 b.e.a1,.int .i64 a.e.a2,.int .i64 b.e.a3,.aA,.int .i64 b.e.a5,.int .i64 b.e.a6,.str b.e.s7,.str b.e.s8,b.e.fd]]):=g;have M:=(ax.trans ay).trans az;replace q:=(M.2 h.length (by omega)).trans q;replace p:∀c,c<h.length→z[c]?=h[c]?:=λc m=>(M.2 c (by omega)).trans (p c m)
 have b5:z.length=h.length+2:=by rw[M.1,u]
 clear ax ay az M ai u
 try simp only[bs]
 refine r7 (n0:=h.length+2) (by omega) (aR.aA _ _ _ _) (mB _ a.e.ft) (by simp;omega) λcc b3 ah bu al _ _=>?_
 rw[kp]at ah
 try simp only[bs]
 refine r7 (n0:=h.length+2) (by omega) ah (mB _ b.e.ft) (by simp;omega) λcd T E bv am _ _=>?_
 rw[← gL]at E;have K:∀c,c<h.length+2→T[c]?=z[c]?:=λc m=>(am c m).trans (al c m)
 replace g:=(K _ (by omega)).trans g;replace q:=(K _ (by omega)).trans q;replace p:∀c,c<h.length→T[c]?=h[c]?:=λc m=>(K c (by omega)).trans (p c m)
 have bg:h.length+2≤T.length:=by omega
 clear K al am ah bu bv;generalize aa:a.e.ls++b.e.ls=f at E;have b4:f.length=a.e.ls.length+b.e.ls.length:=by rw[← aa];simp[-a7N]
 obtain⟨y,bk,rfl,bh⟩:=m5 E (i:=0) (by simp;omega);simp only[fN]at *;refine Wp.dY trivial ?_
 try simp only[bs,aL]
 generalize Z:(!(b.r==([]:aD)))=k;refine Wp.loop (λn Q t=>∃(d:Nat) (a4 a7 o:D),Q=[.int .i64 d,a4,a7]∧n+d=f.length∧h.length+2≤t.length∧(∀c,c<h.length→t[c]?=h[c]?)∧t[h.length]?=some (.row aH 11 [l]) ∧
   t[h.length+1]?=some (.row aH 11 [[.str b.r,.int .i64 b.e.a0,.int .i64 b.e.a1,.int .i64 a.e.a2,.int .i64 b.e.a3,o,.int .i64 b.e.a5,.int .i64 b.e.a6,.str b.e.s7,.str b.e.s8,b.e.fd]]) ∧
   t[y]?=some (.row dD 3 ((iQ k f d).map cR))∧aR t (h.length+2) dD 3 (((iQ k f d).take d).map cR) o∧¬o.eC y)
  (λw=>w.1 = .ext 0∧∃o,h.length+2≤w.2.2.length∧(∀c,c<h.length→w.2.2[c]?=h[c]?)∧w.2.2[h.length]?=some (.row aH 11 [l]) ∧
   w.2.2[h.length+1]?=some (.row aH 11 [[.str b.r,.int .i64 b.e.a0,.int .i64 b.e.a1,.int .i64 a.e.a2,.int .i64 b.e.a3,o,.int .i64 b.e.a5,.int .i64 b.e.a6,.str b.e.s7,.str b.e.s8,b.e.fd]]) ∧
   aR w.2.2 (h.length+2) dD 3 ((iQ k f f.length).map cR) o) f.length
  ⟨0,_,_,.aA,rfl,rfl,bg,p,q,g,by rw[bh];unfold iQ;split<;>simp[-a7N],by simpa using aR.aA _ _ _ _,by rintro⟨_,_,A⟩;cases A⟩ ?_ ?_
 ·rintro n Q t ⟨d,a4,a7,o,rfl,b6,u,p,q,g,B,s,ad⟩;have bj:(iQ k f d).length=f.length:=An _ _ _ (by omega);simp only[JS,aW,bL,bs,aL,a1o,bS,pG,pJ,ly,Z];refine Wp.dF ?_ ?_
  ·intro v;have v:d<f.length:=fe v;have ap:(0:Int)≤(d:Int)∧(d:Int)<(f.length:Int):=by omega
   have bq:=eR d (by omega);refine Wp.join (P:=λw=>∃r,w=(.aQ,[],r)∧h.length+2≤r.length∧(∀c,c<h.length→r[c]?=h[c]?)∧r[h.length]?=some (.row aH 11 [l]) ∧
    r[h.length+1]?=some (.row aH 11 [[.str b.r,.int .i64 b.e.a0,.int .i64 b.e.a1,.int .i64 a.e.a2,.int .i64 b.e.a3,o,.int .i64 b.e.a5,.int .i64 b.e.a6,.str b.e.s7,.str b.e.s8,b.e.fd]]) ∧
    r[y]?=some (.row dD 3 ((iQ k f (d+1)).map cR))∧aR r (h.length+2) dD 3 (((iQ k f d).take d).map cR) o) ?_ ?_ ?_
   ·intro be;subst be;have ab:∀d,iQ true f d=(f.take d).map blank++f.drop d:=λd=>rfl
    simp only[y6,ap,jq,aN,bs,mh,eS,eQ];refine pZ B (by rw[ab];exact Og f d v) (by rfl) (by simp[-a7N,cR]) (by rfl) λr c F=>?_
    have bn:((iQ true f d).map cR).set d (dZ (cR f[d]) 2 (cX (.str [])))=(iQ true f (d+1)).map cR:=by
     rw[ab,ab];exact QZ f d v
    rw[bn]at c;exact .some ⟨r,rfl,by have:=F.1;omega,λc m=>(F.2 c (by omega)).trans (p c m),(F.2 _ (by omega)).trans q,(F.2 _ (by omega)).trans g,c,s.cL λc m ac=>F.2 c λA=>ad (A▸ac)⟩
   ·intro bc;subst bc;exact .some ⟨t,rfl,u,p,q,g,B,s⟩
   rintro _ ⟨r,rfl,u,p,q,g,B,s⟩;have ae:(iQ k f (d+1))[d]?=some ((iQ k f (d+1))[d]'(by rw[An _ _ _ (by omega)];omega)):=dG _;generalize (iQ k f (d+1))[d]'(by rw[An _ _ _ (by omega)];omega)=C at ae;have br:((iQ k f (d+1)).map cR)[d]?=some (cR C):=by rw[eE,ae];rfl
   have bi:Y tab r dD (.ptr y d 0)=some (.agg (cR C)):=by
    rw[O4,dM B,br];rfl
   have bd:dL tab bU 1 [0] [.agg (cR C)]=some (.sl 3 true [cR C]):=id rfl;simp only[cN,lB,jY,eS,m2,dM g,fC,bs,jS,il,jT,y6,ap,jq,aN,eQ,bi,bd];have bp:((iQ k f d).take d).length≤2000:=by simp;omega
   refine r7 (n0:=h.length+2) u s (hC _ _ _ _) (by simp at bp ⊢;omega) λbz b1 ag cb N bt ba=>?_
   try simp only[bs]
   have af:=fT (jj ag);refine qX ((N (h.length+1) (by omega)).trans g) (by rfl) (by rw[af.1];rfl) (by simp) af.2 λz aw G=>?_
   rw[af.1]at aw;have bm:=(bR.1 B).1;have ca:h.length+2≤y:=bk;have bo:((iQ k f d).take d).map cR++[cR C]=((iQ k f (d+1)).take (d+1)).map cR:=by
    have a8:(iQ k f d).take d=(iQ k f (d+1)).take d:=by
     unfold iQ;split
     ·rw[xd (by simp;omega),xd (by simp;omega),← nn,← nn,xe,xe];congr 2;omega
     ·rfl
    rw[a8,g9,ae];simp[-a7N]
   rw[bo]at ag;simp only[bs,cO,bq];refine .some (.inl ⟨rfl,n - 1,by omega,d+1,_,_,bz,rfl,by omega,by have:=G.1;show h.length+2≤z.length;omega,λc m=>(G.2 c (by omega)).trans ((N c (by omega)).trans (p c m)),(G.2 _ (by omega)).trans ((N _ (by omega)).trans q),aw,(G.2 _ (by omega)).trans ((bt y bm ad).trans B),ag.cL λc m _=>G.2 c (by omega),λac=>?_⟩);rcases ba y ac with A|A
   ·exact ad A
   ·omega
  ·intro v;have v:d=f.length:=by
    have:¬(d:Int)<f.length:=by simpa using v
    omega
   subst v;refine .some (.inr ⟨by simp,rfl,o,u,p,q,g,?_⟩);rw[hN (by omega)]at s;exact s
 ·rintro⟨b0,Q,t⟩ ⟨av,o,u,p,q,g,s⟩;simp only at av u p q g s;subst av;simp only[dA,cN,bs];have bj:(iQ k f f.length).length=f.length:=An _ _ _ (bB _);have ar:=gS (n0:=h.length) (n:=2) s (by omega) (λa _=>nQ _ t _ a);have ao:([.str b.r,.int .i64 b.e.a0,.int .i64 b.e.a1,.int .i64 a.e.a2,.int .i64 b.e.a3,o,.int .i64 b.e.a5,.int .i64 b.e.a6,.str b.e.s7,.str b.e.s8,b.e.fd]:List D).length=11:=rfl;simp only[nP g ao,bs];have bl:(D.agg [.str b.r,.int .i64 b.e.a0,.int .i64 b.e.a1,.int .i64 a.e.a2,.int .i64 b.e.a3,o,.int .i64 b.e.a5,.int .i64 b.e.a6,.str b.e.s7,.str b.e.s8,b.e.fd]).fo=true:=by
   have X:=jj s;have H:=fx b.e.gH;generalize b.e.fd=a9 at H;cases o<;>first|(cases a9<;>first|rfl|(simp[-a7N,D.one]at H))|(simp[-a7N,D.one]at X)
  refine l5 q (by rfl) (by rfl) (by rw[an];exact bB _) bl λx aj ak=>?_
  replace aj:x[h.length]?=some (.row aH 11 [[.str b.r,.int .i64 b.e.a0,.int .i64 b.e.a1,.int .i64 a.e.a2,.int .i64 b.e.a3,o,.int .i64 b.e.a5,.int .i64 b.e.a6,.str b.e.s7,.str b.e.s8,b.e.fd]]):=by
   rw[aj];subst I;rfl
  simp only[nP aj ao,bs,cP];have E:=s.cL (h':=x) λc m _=>ak.2 c (by omega)
  have ar:=gS (n0:=h.length) (n:=2) E (by omega) (λa _=>nQ _ x _ a);refine⟨(.agg (aT ⟨b.r,⟨b.e.a0,b.e.a1,a.e.a2,b.e.a3,iQ k f f.length,cS h.length x 3 o,b.e.a5,b.e.a6,b.e.s7,b.e.s8,b.e.fs,b.e.fd,b.e.gH,b.e.hl,ar,by omega⟩⟩),h),ff ?_ (pK _ _) (by have:=ak.1;omega) (λc m=>(ak.2 c (by omega)).trans (p c m)),rfl,_,rfl,⟨rfl,rfl,rfl,rfl,rfl,rfl,rfl,rfl,rfl,?_,rfl⟩⟩
  ·have bf:=iJ (n0:=h.length) (h:=x) (n:=2) b.e.gH (λa _=>pt _ x _ a);simp only[oQ,fP,kE,nM,yS,bf];rfl
  ·show iQ k f f.length=_;by_cases L:b.r=[]
   ·rw[bO L];have:k=false:=by rw[← Z,L];rfl
    subst this;exact aa.symm
   ·rw[cC L];have:k=true:=by rw[← Z];simp[-a7N,L]
    subst this;rw[aa];simp[-a7N,iQ]
def oB(a:Int)(p:List It × D × Int):List D:=[.int .i64 a,.int .i64 p.2.2,p.2.1]
def mK(n:Nat):List D:=[.int .i64 (n:Int)]
def rv(c:List (List It × D)):List (Int × Int):=c.flatMap λb=>b.1.map λa=>(a.e.a1,a.e.a3)
theorem CZ{a:List (List It × D)}{f k:Nat}{p:List It × D}{i:It}(b:a[f]?=some p)(hi:p.1[k]?=some i):(i.e.a1,i.e.a3)∈rv a:=
 List.mem_flatMap.2 ⟨p,eW b,g8.2 ⟨i,eW hi,rfl⟩⟩
theorem Ny(a:Int):∀(b:List (List It × D)),(∀p∈b,(p.1.length:Int)≤a)→((rv b).length:Int)≤b.length*a
 |[],_=>by simp[-a7N,rv]
 | p::r,h=>by
  have g:=h p (by simp);have c:=Ny a r λf e=>h f (by simp[-a7N,e])
  have d:(((p::r).length:Nat):Int)*a=r.length*a+a:=by
   rw[g7]
   push_cast
   rw[w6,Int.one_mul]
  rw[d];unfold rv at c ⊢;rw[sv,bF,fN]
  push_cast
  omega
def nZ(a:Int)(b:List (List It × D))(i:It):Prop:=uh a i∧(i.e.a1,i.e.a3)∈rv b
structure mD (h:J) (o:Nat) (host:Int) (ps:List (List It × D)) (qa:Nat) (g:J) (x:D) (bt:List (List It × D × Int)) (ats:List Nat):Prop where
 len:h.length≤g.length
 gr:∀q,q<h.length→q≠o→g[q]?=h[q]?
 cd:CD g o
 tJ:h.length≤qa
 at_:g[qa]?=some (.row U 1 (ats.map mK))
 al:ats.length=ps.length
 ab:∀(f:Nat) (n:Nat) p,ats[f]?=some n→ps[f]?=some p→n≤p.1.length
 out:aR g h.length bP 3 (bt.map (oB host)) x
 cW:∀p∈bt,aR g h.length aH 11 (p.1.map aT) p.2.1∧p.1.length≤3∧(∀i∈p.1,nZ host ps i)∧0≤p.2.2∧p.2.2≤12
structure p5 (h:J) (o:Nat) (qa pb:Nat) (x:D) (bt:List (List It × D × Int)):Prop where
 hh:h.length≤pb
 ho:o<h.length
 Oq:qa<pb
 hx:∀q,x.eC q→q<pb
 Zr:∀p∈bt,∀q,p.2.1.eC q→q<pb
end Go.Proofs.YtkcdpfogoepamaaGreatDoor
namespace Go.Eng
abbrev oj:=@List.not_mem_nil
abbrev qb:=@List.drop_length
abbrev BT:=@List.length_eq_zero_iff
abbrev BX:=@List.perm_middle
end Go.Eng
namespace Go.Proofs.YtkcdpfogoepamaaGreatDoor
open Go.Eng Go.Pi
open Option renaming bind_some → a7N
theorem mD.cL{h:J}{o:Nat}{host:Int}{ps:List (List It × D)}{qa:Nat}{g g':J}{x:D}{bt:List (List It × D × Int)}{j:List Nat}{pb:Nat}(B:mD h o host ps qa g x bt j)(b:p5 h o qa pb x bt)(m:CD g' o)(n:g.length≤g'.length)(c:∀a,a<pb→a≠o→g'[a]?=g[a]?):mD h o host ps qa g' x bt j:=by
 have p:=b.hh;have q:=b.ho;have l:=b.Oq;have r:=B.tJ;refine⟨fD B.len n,λa f k=>(c a (by omega) k).trans (B.gr a f k),m,B.tJ,(c qa l (by omega)).trans B.at_,B.al,B.ab,B.out.cL λa f d=>c a (b.hx a d) (by omega),λi e=>⟨(B.cW i e).1.cL λa f d=>c a (b.Zr i e a d) (by omega),(B.cW i e).2⟩⟩
structure jc (h:J) (o:Nat) (host:Int) (ps:List (List It × D)) (qa:Nat) (x:D) (bt:List (List It × D × Int)) (pb:Nat) (nu:Int) (g:J) (ats:List Nat) (cW:List It) (y:D):Prop where
 B:mD h o host ps qa g x bt ats
 pg:pb<g.length
 pr:g[pb]?=some (.row bP 3 [[.int .i64 host,.int .i64 nu,y]])
 ow:aR g (pb+1) aH 11 (cW.map aT) y
 ok:∀i∈cW,nZ host ps i
section
variable {h:J} {o:Nat} {host:Int} {ps:List (List It × D)} {qa:Nat} {x:D} {bt:List (List It × D × Int)} {pb:Nat} {nu:Int}
theorem jc.cL{g g':J}{d:List Nat}{f:List It}{y:D}(b:jc h o host ps qa x bt pb nu g d f y)(c:p5 h o qa pb x bt)(i:CD g' o)(k:g.length≤g'.length)(e:∀a,a≤pb→a≠o→g'[a]?=g[a]?)(m:∀a,y.eC a→g'[a]?=g[a]?):jc h o host ps qa x bt pb nu g' d f y:=by
 have:=c.hh;have:=c.ho;exact⟨b.B.cL c i k λa n l=>e a (by omega) l,by have:=b.pg;omega,(e pb (bB _) (by omega)).trans b.pr,b.ow.cL λa _ j=>m a j,b.ok⟩
theorem jc.next{g g':J}{e:List Nat}{f:List It}{y:D}(b:jc h o host ps qa x bt pb nu g e f y)(a:p5 h o qa pb x bt)(i:CD g' o)(c:bM o g g'):jc h o host ps qa x bt pb nu g' e f y:=
 b.cL a i (mH c.1.symm) (λd _ k=>c.2 d k) λd j=>c.2 d (by have:=(b.ow.lt j).1;have:=a.hh;have:=a.ho;omega)
theorem jc.put{g g':J}{e:List Nat}{f:List It}{y:D}{z:Nat}(b:jc h o host ps qa x bt pb nu g e f y)(c:p5 h o qa pb x bt)(m:pb<z)(k:¬y.eC z)(a:bM z g g'):jc h o host ps qa x bt pb nu g' e f y:=
 b.cL c (b.B.cd.cL (a.2 o (by have:=c.hh;have:=c.ho;omega))) (mH a.1.symm) (λd l _=>a.2 d (by omega)) λd j=>a.2 d λi=>k (i▸j)
theorem jc.new{g g':J}{e:List Nat}{f:List It}{y:D}(b:jc h o host ps qa x bt pb nu g e f y)(c:p5 h o qa pb x bt)(j:g.length≤g'.length)(d:∀a,a<g.length→g'[a]?=g[a]?):jc h o host ps qa x bt pb nu g' e f y:=by
 have k:=b.pg;have l:=c.hh;have m:=c.ho;exact b.cL c (b.B.cd.cL (d o (by omega))) j (λa n _=>d a (by omega)) λa i=>d a (b.ow.lt i).2
theorem y5{g:J}{b:List Nat}{n f a:Nat}(d:g[qa]?=some (.row U 1 (b.map mK)))(h:b.length=n)(c:b[f]?=some a):aO tab iR (.aZ 1 qa 0 n) (.int .i64 (f:Int))=some (.ptr qa f 0)∧Y tab g U (.ptr qa f 0)=some (.int .i64 a):=by
 have:=(bR.1 c).1;have e:(0:Int)≤(f:Int)∧(f:Int)<(n:Int):=by omega
 constructor
 ·rw[a0r,bO e];simp[-a7N]
 ·rw[iC,dM d,eE,c];rfl
end
theorem GP{g:J}{z:Nat}{i:It}(a:g[z]?=some (.row aH 11 [aT i])):Y tab g aH (.ptr z 0 0)=some (.agg (aT i)):=nP a rfl
theorem y4(i:It):(D.agg (aT i)).fo=true:=by
 have a:=fx i.e.ft;have b:=fx i.e.gH;have f:(D.agg (aT i)) = .agg [.str i.r,.int .i64 i.e.a0,.int .i64 i.e.a1,.int .i64 i.e.a2,.int .i64 i.e.a3,i.e.ld,.int .i64 i.e.a5,.int .i64 i.e.a6,.str i.e.s7,.str i.e.s8,i.e.fd]:=rfl;rw[f];generalize i.e.ld=c at a;generalize i.e.fd=d at b;cases c<;>first|(cases d<;>first|rfl|(simp[-a7N,D.one]at b))|(simp[-a7N,D.one]at a)
theorem zE{g:J}{z:Nat}{row:List D}{i:It}(c:g[z]?=some (.row aH 11 [row]))(a:row.length=11){b:Type}{f:J→Option b}{Q:b→Prop}
  (k:∀g',g'[z]?=some (.row aH 11 [aT i])→bM z g g'→Wp (f g') Q):Wp ((aS tab g aH (.ptr z 0 0) (.agg (aT i))).bind f) Q:=by
 refine l5 c (by rfl) (by rfl) (by rw[a];exact bB _) (y4 i) λg' d e=>k g' ?_ e
 have:dZ row 0 (cX (.agg (aT i)))=aT i:=by
  show row.take 0++aT i++row.drop (0+(aT i).length)=aT i;rw[kD (by rw[a];exact bB _)];simp[-a7N]
 rw[d,this];rfl
theorem LV{h:J}{o:Nat}{host:Int}{ps:List (List It × D)}{qa:Nat}{x:D}{bt:List (List It × D × Int)}{pb:Nat}{nu:Int}{g:J}{q:List Nat}{l:List It}{y:D}{i:It}{z:Nat}{u:Type}{f:J→Option u}{Q:u→Prop}
  (b:jc h o host ps qa x bt pb nu g q l y) (e:p5 h o qa pb x bt) (P:l.length≤1000) (C:g[z]?=some (.row aH 11 [aT i])) (hi:nZ host ps i)
  (k:∀g' n,jc h o host ps qa x bt pb nu g' q (l++[i]) n→Wp (f g') Q) :
  Wp ((aB tab bP 2 (.ptr pb 0 0)).bind λt=>(Y tab g dO t).bind λF=>(Y tab g aH (.ptr z 0 0)).bind λG=>(dL tab dO 1 [0] [G]).bind λH=>(dB tab g dO dO F H).bind λp=>(aB tab bP 2 (.ptr pb 0 0)).bind λI=>(aS tab p.2 dO I p.1).bind f) Q:=by
 have w:=b.pg;have L:=e.hh;have M:=e.ho;simp only[C5,GS,dM b.pr,fC,bs,jS,il,jT,eS,GP C,Md];refine Ar (n0:=pb+1) w b.ow (hC _ _ _ _) (by simp;omega) λn g' r T j R K=>?_
 simp only[bs];have m:=fT (jj r);refine Iw ((j pb (by omega)).trans b.pr) (by rfl) (by rw[m.1];rfl) (by simp) m.2 λv s d=>?_
 rw[m.1]at s;have N:=d.1;refine k v n ⟨b.B.cL e (b.B.cd.cL ((d.2 o (by omega)).trans (j o (by omega)))) (by omega) (λc A _=>(d.2 c (by omega)).trans (j c (by omega))),by omega,s,?_,λE a=>?_⟩
 ·rw[gL];exact r.cL λc A _=>d.2 c (by omega)
 ·rcases fp.1 a with a|a
  ·exact b.ok E a
  ·simp at a;subst a;exact hi
theorem RZ {h:J} {o:Nat} {host bz:Int} {ps:List (List It × D)} {qa:Nat} {x az:D} {bt:List (List It × D × Int)} {pb:Nat} {nu:Int} {g:J} {j:List Nat} {z:List It} {y:D} (e:p5 h o qa pb x bt)
  (bu:aI 1 (λp:List It × D=>[p.2]) ps az) (ct:mE host bz (aI 11 aT) ps) (d2:1≤ps.length) (d3:ps.length≤3) (d1:bz≤100) (a0:0≤host) (a1:host≤999)
  (b:jc h o host ps qa x bt pb nu g j z y) (d0:z.length≤100) (b0:D × J) (c6:b0.1 = .ptr pb 0 0) (k:Nat) (dy:0<k) (dz:k≤100) (b3 b4 b5 b6 b7 b8 b9 ca cb:D) :
  Wp (wP (.ptr o 0 0) az (.aZ 1 qa 0 ps.length) b0 [.int .i64 k,b3,b4,b5,b6,b7,b8,b9,ca,cb] g) (λr=>∃g' s M A u H av aa aw ax ac ay ce,r=(.aQ,[.int .i64 ((k - 1:Nat):Int),u,H,av,aa,aw,ax,ac,ay,ce],g')∧jc h o host ps qa x bt pb nu g' s M A∧M.length≤z.length+1):=by
 have c1:(0:Int)<(k:Int):=by omega
 have da:IntKind.wrap .i64 ((k:Int) - 1)=((k - 1:Nat):Int):=by
  rw[bJ (by omega) (by omega)];omega
 simp only[wP,aW,bL,bs,aL,dE,c1,cM,aK,aN,Pb bu,c6];obtain⟨ee,f,cf,u,di,dk,ef⟩:=hP b.B.cd ps.length (by omega) (by omega);refine Wp.step cf ?_;have N:=b.next e u di;obtain⟨v,rfl⟩:=lM dk;have bo:v<ps.length:=by omega
 obtain⟨a,T⟩:∃a,j[v]?=some a:=⟨_,dG (by rw[b.B.al];exact bo)⟩
 obtain⟨p,K⟩:=hq bo;obtain⟨af,d4,bf,a6⟩:=ct v p K;have dw:=b.B.ab v a p T K;have bv:=y5 (qa:=qa) (n:=ps.length) N.B.at_ N.B.al T;have ba:aO tab kA az (.int .i64 (v:Int))=some (.aE [p.2]):=by rw[a0t bu];simp[-a7N,K]
 simp only[bv.1,bv.2,ba,lE,pO af,bs,mO];refine Wp.join (P:=λr=>∃g' s M A u H av aa aw ax ac ay,r=(.aQ,[u,H,av,aa,aw,ax,ac,ay],g')∧jc h o host ps qa x bt pb nu g' s M A∧M.length≤z.length+1) ?_ ?_ ?_
 ·intro _;exact .some ⟨f,j,z,y,_,_,_,_,_,_,_,_,rfl,N,by omega⟩
 ·intro a9;have a9:a<p.1.length:=by
   have:¬(p.1.length:Int)≤(a:Int):=by simpa using a9
   omega
  obtain⟨q,ae⟩:=hq a9;obtain⟨dt,c0,cx,dx,_⟩:=y2 host _ p.1 0 bf a6 a q ae;have bm:nZ host ps q:=⟨Cp c0 a0 a1 (by omega) (by omega) cx (by omega),CZ K ae⟩
  have cz:aO tab dO p.2 (.int .i64 (a:Int))=some (.aE (aT q)):=by rw[qD af];simp[-a7N,ae]
  simp only[cz,kL,bs];generalize cq:([.str [],.int .i64 0,.int .i64 0,.int .i64 0,.int .i64 0,.aA,.int .i64 0,.int .i64 0,.str [],.str [],.aA]:List D)=G;have cr:G.length=11:=by subst cq;rfl
  have br:∀i,i<f.length→(aG f aH 11 [G])[i]?=f[i]?:=λi Z=>eT _ _ _ _ Z
  have be:(aG f aH 11 [G])[f.length]?=some (.row aH 11 [G]):=fO _ _ _ _;have bd:(aG f aH 11 [G]).length=f.length+1:=by simp[-a7N,aG]
  have aj:=N.new e (g':=aG f aH 11 [G]) (by omega) br;have ap:¬y.eC f.length:=λcy=>by have:=(N.ow.lt cy).2;omega
  have ao:pb<f.length:=N.pg;generalize aG f aH 11 [G]=du at be bd aj;generalize d5:List.length f=F at be bd ap ao;clear br;have dd:=y5 (qa:=qa) (n:=ps.length) aj.B.at_ aj.B.al T;simp only[dd.2];refine Wp.dY trivial (Wp.dY trivial (Wp.dY trivial ?_));refine zE be cr λcl dc b2=>?_
  have bh:=aj.put e ao ap b2;have c2:cl.length=F+1:=by rw[b2.1,bd]
  try simp only[bs]
  obtain⟨eb,am,cg,aa,bg,ec,ed⟩:=hP bh.B.cd 8 (by omega) (by omega);refine Wp.step cg ?_;have Q:=bh.next e aa bg;have c5:F≠o:=by have:=e.hh;have:=e.ho;omega
  have ah:=(bg.2 F c5).trans dc;have a8:am.length=F+1:=by rw[bg.1,c2]
  have aq:=y5 (qa:=qa) (n:=ps.length) Q.B.at_ Q.B.al T;simp only[e8,bs];refine Wp.join (P:=λr=>(∃g' l u H,r=(.aQ,[u,H],g')∧jc h o host ps qa x bt pb nu g' j z y∧g'[F]?=some (.row aH 11 [aT l])∧nZ host ps l∧g'.length=F+1)∨(∃g' l A u H,r=(.ext 3,[u,H],g')∧jc h o host ps qa x bt pb nu g' j (z++[l]) A)) ?_ ?_ ?_
  ·intro _;simp only[aq.1,aq.2,bs,dE];refine Wp.join (P:=λr=>∃g' l,r=(.aQ,[],g')∧jc h o host ps qa x bt pb nu g' j z y∧g'[F]?=some (.row aH 11 [aT l])∧nZ host ps l∧g'.length=F+1) ?_ ?_ ?_
   ·intro bn;have bn:0<a:=by
     have:(0:Int)<(a:Int):=by simpa using bn
     omega
    have ag:IntKind.wrap .i64 ((a:Int) - 1)=((a - 1:Nat):Int):=by
     rw[bJ (by omega) (by omega)];omega
    obtain⟨C,X⟩:∃q,p.1[a - 1]?=some q:=⟨_,dG (by omega)⟩
    obtain⟨ck,ad,a3,cu,bq⟩:=y2 host _ p.1 0 bf a6 (a - 1) C X;have bp:=bq q (by rw[show a - 1+1=a by omega];exact ae);have a5:aO tab dO p.2 (.int .i64 ((a - 1:Nat):Int))=some (.aE (aT C)):=by rw[qD af];simp[-a7N,X]
    have df:=ad.n1;have d9:=ad.n3;have ea:=bp.n3;obtain⟨bx,ci,a7⟩:=a3N C q am (by omega) (by omega) df;have cp:nZ host ps bx:=⟨Sk ad bp rfl a0 a1 (by omega) (by omega) a3 (by omega) a7,by rw[a7.a1,a7.a3];exact CZ K ae⟩
    simp only[eB,ag,bs,a5,kL,GP ah,ba,lE];refine Wp.step ci ?_;simp only[bs];refine zE ah rfl λbk bc ar=>?_
    try simp only[bs]
    exact .some ⟨bk,bx,rfl,Q.put e ao ap ar,bc,cp,by rw[ar.1,a8]⟩
   ·intro _;exact .some ⟨am,q,rfl,Q,ah,bm,a8⟩
   rintro _ ⟨g',l,rfl,t,bb,a2,an⟩;simp only[bs];exact .some (.inl ⟨g',l,_,_,rfl,t,bb,a2,an⟩)
  ·intro _;refine Wp.dF ?_ ?_
   ·intro _;have ag:=eR a (by omega);have db:IntKind.wrap .i64 ((p.1.length:Int) - 1)=((p.1.length - 1:Nat):Int):=by
     rw[bJ (by omega) (by omega)];omega
    obtain⟨R,c3,cs⟩:∃R:Nat,nG (.int .i64 ((a+1:Nat):Int)) (.int .i64 ((p.1.length - 1:Nat):Int))=some (.int .i64 R)∧R<p.1.length:=by
     rw[CK];split
     ·exact⟨a+1,rfl,by omega⟩
     ·exact⟨p.1.length - 1,rfl,by omega⟩
    obtain⟨C,X⟩:∃q,p.1[R]?=some q:=⟨_,dG cs⟩
    obtain⟨ck,ad,a3,cu,bq⟩:=y2 host _ p.1 0 bf a6 R C X;have co:nZ host ps C:=⟨Cp ad a0 a1 (by omega) (by omega) a3 (by omega),CZ K X⟩
    have a5:aO tab dO p.2 (.int .i64 (R:Int))=some (.aE (aT C)):=by rw[qD af];simp[-a7N,X]
    simp only[aq.1,aq.2,bs,ba,lE,pO af,cO,eB,ag,db,c3,a5,kL];refine zE ah rfl λbk bc ar=>?_
    have cc:=Q.put e ao ap ar
    try simp only[bs]
    refine LV cc e (by omega) bc co λbl au ak=>?_
    try simp only[bs]
    exact .some (.inr ⟨bl,C,au,_,_,rfl,ak⟩)
   ·intro _;exact .some (.inl ⟨am,q,_,_,rfl,Q,ah,bm,a8⟩)
  rintro _ (⟨g',l,bi,bj,rfl,t,bb,a2,an⟩|⟨g',l,A,bi,bj,rfl,t⟩)
  ·simp only[ga,cN,aW,bL,aL,bs];refine LV t e (by omega) bb a2 λbl au ak=>?_
   try simp only[bs]
   obtain⟨eg,cm,ch,ac,dj,eh,ei⟩:=hP ak.B.cd 4 (by omega) (by omega);refine Wp.step ch ?_;have d:=ak.next e ac dj;simp only[dE,bs];refine Wp.join (P:=λr=>∃g' s,r=(.aQ,[],g')∧jc h o host ps qa x bt pb nu g' s (z++[l]) au) ?_ ?_ ?_
   ·intro _;have bw:=y5 (qa:=qa) (n:=ps.length) d.B.at_ d.B.al T;have ag:=eR a (by omega);simp only[bw.1,bw.2,bs,cO,ag,aL];have c7:(j.map mK)[v]?=some (mK a):=by rw[eE,T];rfl
    refine lJ d.B.at_ c7 (by rfl) (by simp[-a7N,mK]) (by rfl) λcn b1 E=>?_
    have c8:(j.map mK).set v (dZ (mK a) 0 (cX (.int .i64 ((a+1:Nat):Int))))=(j.set v (a+1)).map mK:=by
     rw[j8];rfl
    rw[c8]at b1
    try simp only[bs]
    have d6:=e.hh;have d7:=e.ho;have d8:=e.Oq;have dh:=d.B.tJ;refine .some ⟨cn,j.set v (a+1),rfl,⟨⟨by have:=d.B.len;have:=E.1;omega,λi Z c4=>(E.2 i (by omega)).trans (d.B.gr i Z c4),d.B.cd.cL (E.2 o (by omega)),dh,b1,by rw[BV];exact d.B.al,λcj de ai I w=>?_,d.B.out.cL λi Z c=>E.2 i ?_,λai w=>⟨(d.B.cW ai w).1.cL λi Z c=>E.2 i ?_,(d.B.cW ai w).2⟩⟩,by have:=d.pg;have:=E.1;omega,(E.2 pb (by omega)).trans d.pr,d.ow.cL λi Z c=>E.2 i (by omega),d.ok⟩⟩
    ·rw [BQ]at I;split at I
     ·rename_i cw;subst cw;split at I
      ·injection I with I;rw[K]at w;injection w with w;subst w;omega
      ·cases I
     ·exact d.B.ab cj de ai I w
    ·rcases d.B.out with⟨L,_⟩|⟨dg,_,L,a4⟩
     ·rw[L]at c;obtain⟨_,_,c⟩:=c;cases c
     ·rw[L]at c;obtain⟨_,_,c⟩:=c;injection c with _ c;subst c;rintro rfl;have m:=a4.symm.trans d.B.at_;injection m with m;injection m with m;exact absurd m (by decide)
    ·rcases(d.B.cW ai w).1 with⟨L,_⟩|⟨dg,_,L,a4⟩
     ·rw[L]at c;obtain⟨_,_,c⟩:=c;cases c
     ·rw[L]at c;obtain⟨_,_,c⟩:=c;injection c with _ c;subst c;rintro rfl;have m:=a4.symm.trans d.B.at_;injection m with m;injection m with m;exact absurd m (by decide)
   ·intro _;exact .some ⟨cm,j,rfl,d⟩
   rintro _ ⟨g',s,rfl,t⟩;simp only[ga];exact .some ⟨g',s,_,au,_,_,_,_,_,_,_,_,rfl,t,by simp⟩
  ·have c9:bX 4 (.ext 3) = .ext 3:=by simp[-a7N,bX]
   simp only[c9,a5Z,dA,aW,bL];exact .some ⟨g',j,_,A,_,_,_,_,_,_,_,_,rfl,t,by simp⟩
 rintro _ ⟨g',s,M,A,bi,bj,dl,dm,dp,dq,dr,ds,rfl,t,an⟩;simp only[cN,aW,bL,eB,bs,da];exact .some ⟨g',s,M,A,_,_,_,_,_,_,_,_,_,rfl,t,an⟩
structure hH where
 hs:Int
 nu:Int
 cW:List It
 d:D
 hd:aI 11 aT cW d
def fA(b:hH):List D:=[.int .i64 b.hs,.int .i64 b.nu,b.d]
structure p1 (host:Int) (b:hH):Prop where
 hs:b.hs=host
 n3:b.cW.length≤3
 it:∀i∈b.cW,uh host i
 nu0:0≤b.nu
 nu9:b.nu≤12
theorem R4(n:Nat)(b:hH):∀d∈fA b,Ok n d:=by
 intro d a;simp[-a7N,fA]at a;rcases a with rfl|rfl|rfl
 ·constructor
 ·constructor
 ·exact e7 b.hd λc _=>GG _ c
theorem ky{g:J}{a b T z d j:Nat}{r i:List (List D)}(e:g[a]?=some (.row T z r))(f:g[b]?=some (.row d j i))(h:T≠d):a≠b:=by
 rintro rfl;have c:=e.symm.trans f;injection c with c;injection c with c;exact h c
theorem v8{g:J}{b n e z f m:Nat}{rows l:List (List D)}{d:D}(h:aR g n e z rows d)(i:g[b]?=some (.row f m l))(k:e≠f):¬d.eC b:=by
 rintro⟨q,o,a⟩;rcases h with⟨c,_⟩|⟨p,_,c,j⟩
 ·rw[c]at a;cases a
 ·rw[c]at a;injection a with _ a;exact ky j i k a
theorem LU{h:J}{o:Nat}{host:Int}{ps:List (List It × D)}{qa:Nat}{g:J}{x:D}{bt:List (List It × D × Int)}{l:List Nat}(B:mD h o host ps qa g x bt l)(y:o<h.length)(E:bt.length≤1000)(p:List It × D × Int)
  (q:aR g h.length aH 11 (p.1.map aT) p.2.1∧p.1.length≤3∧(∀i∈p.1,nZ host ps i)∧0≤p.2.2∧p.2.2≤12) {u:Type} {f:D × J→Option u} {Q:u→Prop} (k:∀d g',mD h o host ps qa g' d (bt++[p]) l→(∀b,d.eC b→x.eC b∨g.length≤b)→g.length≤g'.length→Wp (f (d,g')) Q) :
  Wp ((dB tab g jl jl x (.sl 3 true [oB host p])).bind f) Q:=by
 refine a6L B.len B.out (hC _ _ _ _) (by simp;omega) λd g' A t m r v=>k d g' ?_ v t
 have C:=(bR.1 B.at_).1;refine⟨fD B.len t,λb e w=>(m b e).trans (B.gr b e w),B.cd.cL (m o y),B.tJ,(r qa C (v8 B.out B.at_ (by decide))).trans B.at_,B.al,B.ab,?_,λa z=>?_⟩
 ·rw[gL];exact A
 ·have s:∀a:List It × D × Int,aR g h.length aH 11 (a.1.map aT) a.2.1→aR g' h.length aH 11 (a.1.map aT) a.2.1:=λa j=>j.cL λb e n=>r b (j.lt n).2 (PU j B.out (by decide) n)
  rcases fp.1 z with c|c
  ·exact⟨s _ (B.cW a c).1,(B.cW a c).2⟩
  ·simp only[np]at c;subst c;exact⟨s _ q.1,q.2⟩
theorem mD.same{h:J}{o:Nat}{host:Int}{ps:List (List It × D)}{qa:Nat}{g g':J}{x:D}{bt:List (List It × D × Int)}{b:List Nat}(B:mD h o host ps qa g x bt b)(d:o<h.length)(j:CD g' o)(a:bM o g g'):mD h o host ps qa g' x bt b:=by
 have l:=B.tJ;exact⟨by rw[a.1];exact B.len,λi k c=>(a.2 i c).trans (B.gr i k c),j,B.tJ,(a.2 qa (by omega)).trans B.at_,B.al,B.ab,B.out.same a d,λf e=>⟨(B.cW f e).1.same a d,(B.cW f e).2⟩⟩
theorem L2{h g:J}{host:Int}{ps:List (List It × D)}:∀(bt:List (List It × D × Int)),(∀p∈bt,aR g h.length aH 11 (p.1.map aT) p.2.1∧p.1.length≤3∧(∀i∈p.1,nZ host ps i)∧0≤p.2.2∧p.2.2≤12) →
  ∃l:List hH,l.map fA=(bt.map (oB host)).map (λrow=>row.map (cS h.length g 3))∧l.length=bt.length∧∀b∈l,p1 host b∧∀i∈b.cW,(i.e.a1,i.e.a3)∈rv ps
 |[],_=>⟨[],rfl,rfl,by simp⟩
 | p::r,f=>by
  obtain⟨l,k,h2,m⟩:=L2 r λw q=>f w (by simp[-a7N,q])
  obtain⟨v,o,d,t,u⟩:=f p (by simp);have s:=gS (n0:=h.length) (n:=2) v (bB _) (λj _=>y3 _ g 1 j);refine⟨⟨host,p.2.2,p.1,_,s⟩::l,?_,by simp[-a7N,h2],λb a=>?_⟩
  ·simp only[fP,k];simp[-a7N,fA,oB]
  ·rcases fc.1 a with rfl|a
   ·exact⟨⟨rfl,o,λi c=>(d i c).1,t,u⟩,λi c=>(d i c).2⟩
   ·exact m b a
theorem a2h(g:J)(n:Nat)(i:n≤100):pk tab g iR (.int .i64 n) (.int .i64 n)=some (.aZ 1 g.length 0 n,aG g U 1 ((List.replicate n 0).map mK)):=by
 have a:tab iR=some Ak:=id rfl;have b:Ak.td = .sl U:=id rfl;have c:tab U=some m7:=id rfl;have d:m7.V=1:=id rfl;have e:m7.zero=mK 0:=id rfl;have f:eY n m7.gf=true:=jD (by have:m7.gf=8:=rfl;rw[this];omega) (by omega);have h:(0:Int)≤(n:Int):=by omega
 simp[-a7N,pk,a,b,c,d,e,f]
theorem Ta {h:J} {o:Nat} (bd:CD h o) (host k:Int) (co:0≤host) (cp:host≤999) (bj:0≤k) (bk:k≤100):∃x h',R vj [.ptr o 0 0,.int .i64 host,.int .i64 k] h=some (x,h')∧CD h' o∧bM o h h'∧∃l:List hH,aI 3 fA l x∧1≤l.length∧l.length≤24∧(∀b∈l,p1 host b)∧∃S:List (Int × Int),(S.length:Int)≤3*k∧∀b∈l,∀i∈b.cW,(i.e.a1,i.e.a3)∈S:=by
 suffices Wp (R vj [.ptr o 0 0,.int .i64 host,.int .i64 k] h) (λm=>CD m.2 o∧bM o h m.2∧∃l:List hH,aI 3 fA l m.1∧1≤l.length∧l.length≤24∧(∀b∈l,p1 host b)∧∃S:List (Int × Int),(S.length:Int)≤3*k∧∀b∈l,∀i∈b.cW,(i.e.a1,i.e.a3)∈S) by
  obtain⟨⟨x,h'⟩,ax,bb⟩:=this;exact⟨x,h',ax,bb⟩
 have C:=bd.lt;rw[UY];simp only[JL,bs,aL];obtain⟨dm,B,ci,aw,bx,ps,bo,c1,c0,be⟩:=Tf bd host k bj bk;refine Wp.step ci ?_;simp only[Pb bo,a2h B ps.length (by omega),bs];have d4:B.length=h.length:=bx.1;have ak:mD h o host ps B.length (aG B U 1 ((List.replicate ps.length 0).map mK)) .aA [] (List.replicate ps.length 0):=by
  refine⟨by simp[-a7N,aG];omega,λf p a0=>?_,aw.cL (eT _ _ _ _ (by omega)),by omega,fO _ _ _ _,by simp,λa9 a m a0 ap=>?_,aR.aA _ _ _ _,by simp⟩
  ·rw[eT _ _ _ _ (by omega)];exact bx.2 f a0
  ·have:=eW a0;simp at this;omega
 generalize ed:B.length=qa at ak;generalize aG B U 1 ((List.replicate ps.length 0).map mK)=dt at ak;generalize List.replicate ps.length 0=b5 at ak;refine Wp.loop (λq v g=>∃x G H I K L M N P Q T d X aa bt j,∃a:Nat,v=[x,.int .i64 a,G,H,I,K,L,M,N,P,Q,T,d,X,aa]∧q+a=12∧mD h o host ps qa g x bt j∧bt.length≤2*a∧a≤bt.length)
  (λz=>∃x a7 G H I K L M N P Q T d X aa bt j,z.1 = .ext 0∧z.2.1=[x,a7,G,H,I,K,L,M,N,P,Q,T,d,X,aa]∧mD h o host ps qa z.2.2 x bt j∧1≤bt.length∧bt.length≤24) 12
  ⟨_,_,_,_,_,_,_,_,_,_,_,_,_,_,[],b5,0,rfl,rfl,ak,by simp,by simp⟩ ?_ ?_
 ·rintro q v g ⟨x,G,H,I,K,L,M,N,P,Q,T,d,X,aa,bt,j,a,rfl,d5,c,d2,d3⟩;simp only[JM,aW,bL,bs,aL,bS];refine Wp.dF ?_ ?_
  ·intro bi;have bi:a<12:=fe bi;have bq:=eR a (by omega);simp only[Co,bs];have ct:=c.len;have a1:∀f,f<g.length→(aG g bP 3 [[.int .i64 0,.int .i64 0,.aA]])[f]?=g[f]?:=λf p=>eT _ _ _ _ p
   have bu:(aG g bP 3 [[.int .i64 0,.int .i64 0,.aA]])[g.length]?=some (.row bP 3 [[.int .i64 0,.int .i64 0,.aA]]):=fO _ _ _ _;have c7:(aG g bP 3 [[.int .i64 0,.int .i64 0,.aA]]).length=g.length+1:=by simp[-a7N,aG]
   generalize c2:((D.ptr g.length 0 0,aG g bP 3 [[.int .i64 0,.int .i64 0,.aA]]):D × J)=bw;have bm:bw.1 = .ptr g.length 0 0:=by rw[← c2]
   generalize aG g bP 3 [[.int .i64 0,.int .i64 0,.aA]]=du at a1 bu c7;have c9:=(bR.1 c.at_).1;have av:p5 h o qa g.length x bt:=⟨ct,C,c9,λf p=>(c.out.lt p).2,λm ap f p=>((c.cW m ap).1.lt p).2⟩
   refine uf bu (by rfl) (by rfl) (by simp) (by rfl) λba a5 aq=>?_
   replace a5:ba[g.length]?=some (.row bP 3 [[.int .i64 host,.int .i64 a,.aA]]):=a5;have b0:=c.cL av (c.cd.cL ((aq.2 o (by omega)).trans (a1 o (by omega)))) (by rw[aq.1];omega) (λf p _=>(aq.2 f (by omega)).trans (a1 f p));have a8:jc h o host ps qa x bt g.length a ba j [] .aA:=⟨b0,by rw[aq.1];omega,a5,aR.aA _ _ _ _,by simp⟩
   try simp only[bs]
   obtain⟨eh,dw,cj,s,da,dh,ei⟩:=hP a8.B.cd 3 (by omega) (by omega);refine Wp.step cj ?_;have b7:=a8.next av s da;obtain⟨a4,rfl⟩:=lM dh;have c6:IntKind.wrap .i64 (1+(a4:Int))=((a4+1:Nat):Int):=by
    rw[bJ (by omega) (by omega)];omega
   simp only[cO,c6,bs,aL];refine Wp.loop (λq v am=>∃ab ac ad s ae t u af ag j ah a6,v=[.int .i64 (q:Nat),ab,ac,ad,s,ae,t,u,af,ag]∧q≤3∧ah.length+q≤3∧jc h o host ps qa x bt g.length a am j ah a6)
    (λz=>∃aw ab ac ad s ae t u af ag j ah a6,z.1 = .ext 2∧z.2.1=[aw,ab,ac,ad,s,ae,t,u,af,ag]∧ah.length≤3∧jc h o host ps qa x bt g.length a z.2.2 j ah a6) (a4+1)
    ⟨_,_,_,_,_,_,_,_,_,j,[],.aA,rfl,by omega,by simp;omega,b7⟩ ?_ ?_
   ·rintro a3 v am ⟨ab,ac,ad,s,ae,t,u,af,ag,al,E,A,rfl,d6,d9,n⟩;rcases ot a3 with rfl|c3
    ·simp only[wP,aW,bL,bs,dE];exact .some (.inr ⟨by simp,_,_,_,_,_,_,_,_,_,_,al,E,A,rfl,rfl,by omega,n⟩)
    ·refine(RZ av bo be c0 c1 bk co cp n (by omega) bw bm a3 c3 (by omega) _ _ _ _ _ _ _ _ _).mono ?_;rintro _ ⟨ds,b4,c8,dk,b8,b9,ca,cb,cc,ce,cf,cg,ch,rfl,b6,d7⟩;exact .inl ⟨rfl,a3 - 1,by omega,b8,b9,ca,cb,cc,ce,cf,cg,ch,b4,c8,dk,rfl,by omega,by omega,b6⟩
   ·rintro⟨cm,v,am⟩ ⟨dl,ab,ac,ad,s,ae,t,u,af,ag,al,E,A,ai,aj,cx,n⟩;simp only at ai aj n;subst ai;subst aj;simp only[dA,cN,aW,bL,bs,aL,bm];have cy:Y tab am bP (.ptr g.length 0 0)=some (.agg [.int .i64 host,.int .i64 a,A]):=by
     rw[vQ,dM n.pr];rfl
    simp only[cy,bs,Su];have ea:=n.pg;refine LU n.B C (by omega) (E,A,(a:Int)) ⟨n.ow.from (by omega),cx,n.ok,by show(0:Int)≤(a:Int);omega,by show(a:Int)≤12;omega⟩ λbz dx ar dq ee=>?_
    try simp only[bs]
    obtain⟨dg,dy,ck,t,db,ef,eg⟩:=hP ar.cd 4 (by omega) (by omega);refine Wp.step ck ?_;have F:=ar.same C t db;have bh:(bt++[(E,A,(a:Int))]).length=bt.length+1:=by simp
    have an:decide ((0:Int)<((bt++[(E,A,(a:Int))]).length:Int))=true:=fX (by rw[bh];omega);generalize bt++[(E,A,(a:Int))]=r at ar F bh an;have ao:=a1u F.out;rw[fN]at ao;simp only[e8,bs,bZ,ao,dE,an,aL];have dp:∀(f:Bool) (b2:Option D),(b2=some (.bool f))→True:=λ_ _ _=>trivial
    generalize ec:decide (dg=(3:Int))=d;have eb:((if d=true then some bz else some D.bA).bind λdd=>(if d=true then bC tab jl dd else some .bA).bind λde=>(if d=true then O tab .gtr U de (.int .i64 0)else some .bA).bind λdf=>cV (.bool d) df (.bool false))=some (.bool d):=by
     cases d
     ·simp[-a7N]
     ·simp only[aN,bs,ao,dE,an,bW]
    cases d
    ·simp only[aU,aJ,bs,bW,aK,cN,ga,aW,cO,bq];exact .some (.inl ⟨rfl,q - 1,by omega,bz,_,_,_,_,_,_,_,_,_,_,_,_,_,r,al,a+1,rfl,by omega,F,by omega,by omega⟩)
    ·simp only[aN,bs,ao,dE,an,bW,aK,aL];obtain⟨ej,cn,cl,u,dc,di,ek⟩:=hP F.cd r.length (by omega) (by omega);refine Wp.step cl ?_;have au:=F.same C u dc;obtain⟨w,rfl⟩:=lM di;have bg:w<r.length:=by omega
     obtain⟨y,bn⟩:∃m,r[w]?=some m:=⟨_,dG bg⟩
     obtain⟨bv,bl,rfl,az⟩:=m5 au.out (i:=w) (by simpa using bg);have cu:(0:Int)≤(w:Int)∧(w:Int)<(((r.map (oB host)).length:Nat):Int):=by rw[fN];omega
     have a2:(r.map (oB host))[w]?=some (oB host y):=by rw[eE,bn];rfl
     have cz:Y tab cn bP (.ptr bv w 0)=some (.agg (oB host y)):=by
      rw[vQ,dM az,a2];rfl
     have cq:dL tab jl 1 [0] [.agg (oB host y)]=some (.sl 3 true [oB host y]):=id rfl;simp only[a0p,cu,jq,aN,eS,eQ,bs,cz,cq];refine LU au C (by omega) y (au.cW y (eW bn)) λdj dz b1 dr a1k=>?_
     simp only[bs,cN,ga,aW,cO,bq];exact .some (.inl ⟨rfl,q - 1,by omega,dj,_,_,_,_,_,_,_,_,_,_,_,_,_,r++[y],al,a+1,rfl,by omega,b1,by simp;omega,by simp;omega⟩)
  ·intro bf;have bf:a=12:=by
    have:¬(a:Int)<12:=by simpa using bf
    omega
   exact .some (.inr ⟨by simp,x,_,_,_,_,_,_,_,_,_,_,_,_,_,_,bt,j,rfl,rfl,c,by omega,by omega⟩)
 ·rintro⟨cm,v,g⟩ ⟨x,a7,G,H,I,K,L,M,N,P,Q,T,d,X,aa,bt,j,ai,aj,c,cw,d8⟩;simp only at ai aj c;subst ai;subst aj;simp only[dA,cN,aW,bs,cP];obtain⟨l,ax,bb,bc⟩:=L2 (g:=g) bt c.cW;have bp:aI 3 fA l (cS h.length g 4 x):=by
   rcases c.out with⟨br,a2⟩|⟨bv,bl,br,az⟩
   ·have:bt=[]:=by simpa using a2
    subst this;simp at cw
   ·right;refine⟨false,?_⟩;rw[br,yR bl az];simp only[il,je,ax]
  have S:St h o g:=⟨C,c.cd,⟨c.len,c.gr⟩⟩
  obtain⟨h',c4,cr,c5⟩:=S.scope rfl (e7 bp λb3 _=>R4 _ b3);rw[c4];have d0:=Ny k ps λm ap=>by
   obtain⟨a9,cs⟩:=j7 ap;exact(be a9 m cs).2.1
  have d1:(ps.length:Int)*k≤3*k:=Lu (by omega) bj;exact .some ⟨cr,c5,l,bp,by omega,by omega,λb ay=>(bc b ay).1,rv ps,by omega,λb ay=>(bc b ay).2⟩
theorem S9{h:J}{o:Nat}(m:CD h o)(host a:Int)(e:0≤host)(k:host≤999)(n:0≤a)(p:a≤100):∃x h',R vj [.ptr o 0 0,.int .i64 host,.int .i64 a] h=some (x,h')∧CD h' o∧bM o h h'∧∃l:List hH,aI 3 fA l x∧1≤l.length∧l.length≤24∧∀b∈l,p1 host b:=by
 obtain⟨x,h',d,c,q,l,f,g,i,j,_⟩:=Ta m host a e k n p;exact⟨x,h',d,c,q,l,f,g,i,j⟩
theorem a1S:∀s∈qF,s≠([42]:aD):=by decide
def sF(h:J)(l:List bY)(d:D):Prop:=aI 3 cZ l d∨∃a,d = .aZ 3 a 0 l.length∧h[a]?=some (.row eO 3 (l.map cZ))
theorem a2G{h:J}{l:List bY}{d:D}(a:sF h l d):bC tab dV d=some (.int .i64 l.length):=by
 rcases a with a|⟨b,rfl,_⟩
 ·exact oT a
 ·exact a1m _ _ _ _
theorem Hl{h:J}{l:List bY}{d:D}(a:sF h l d)(i:Nat)(p:bY)(b:l[i]?=some p):∃c,aO tab dV d (.int .i64 i)=some c∧Y tab h eO c=some (.agg (cZ p))∧∃j,aB tab eO 2 c=some j∧Y tab h U j=some (.int .i64 p.o):=by
 have m:=(bR.1 b).1;rcases a with a|⟨g,rfl,e⟩
 ·exact⟨.aE (cZ p),by rw[tq a];simp[-a7N,b],zq p h,.aE [.int .i64 p.o],rfl,rfl⟩
 ·have f:(l.map cZ)[i]?=some (cZ p):=by rw[eE,b];rfl
  have k:(0:Int)≤(i:Int)∧(i:Int)<(l.length:Int):=by omega
  refine⟨.ptr g i 0,by rw[OH];simp[-a7N,k],?_,.ptr g i 2,rfl,?_⟩
  ·rw[a1f,dM e,f];rfl
  ·rw[iC,dM e,f];rfl
theorem a3j(l:List bY)(d:D)(t:bY)(y:D)(c:bY→Int)(h:J)(p:sF h l d)(ad:l.length≤1000000)(z:∀x,hj R y [.agg (cZ x),.agg (cZ t)] h=some (.int .i64 (c x),h))
   (k:Nat) (I:k≤l.length) (G:∀i x,l[i]?=some x→i<k→c x<0) (h2:∀i x,l[i]?=some x→k≤i→0≤c x) :
   R Dd [d,.agg (cZ t),y] h=some (.bD [.int .i64 k,.bool (match l[k]? with|some x=>decide (c x=0)|none=>false)],h):=by
 apply Wp.val;rw[Uh];simp only[IY,gq,bs,aL,a2G p];refine Wp.loop (λB m n=>n=h∧∃u v w,∃b a:Nat,m=[.int .i64 b,.int .i64 a,u,v,w]∧b≤k∧k≤a∧a≤l.length∧B=a - b)
   (λx=>x.1 = .ext 0∧x.2.2=h∧Z 0 x.2.1 = .int .i64 k) l.length ⟨rfl,_,_,_,0,l.length,rfl,by omega,I,bB _,rfl⟩ ?_ ?_
 ·rintro B m n ⟨rfl,u,v,w,b,a,rfl,M,H,L,rfl⟩;simp only[IZ,aW,bL,bs,aL,bS];refine Wp.dF ?_ ?_
  ·intro j;have j:b<a:=fe j;have P:IntKind.wrap .i64 ((b:Int)+a)=((b+a:Nat):Int):=by
    rw[bJ (by omega) (by omega)];omega
   have Q:IntKind.wrap .u64 ((b+a:Nat):Int)=((b+a:Nat):Int):=by
    unfold IntKind.wrap;simp[-a7N,IntKind.signed,IntKind.bits,IntKind.min,IntKind.max];omega
   have T:(((b+a:Nat):Int)).fdiv (2 ^ (min (Int.toNat 1) IntKind.u64.bits))=(((b+a) / 2:Nat):Int):=by
    rw[show(2:Int) ^ (min (Int.toNat 1) IntKind.u64.bits)=2 by decide];rw[sr _ (by omega)];omega
   have X:IntKind.wrap .i64 (((b+a) / 2:Nat):Int)=(((b+a) / 2:Nat):Int):=bJ (by omega) (by omega);have aa:IntKind.wrap .i64 ((((b+a) / 2:Nat):Int)+1)=(((b+a) / 2+1:Nat):Int):=by
    rw[bJ (by omega) (by omega)];omega
   have N:(b+a) / 2<l.length:=by omega
   have ae:b≤(b+a) / 2:=by omega
   have af:(b+a) / 2<a:=by omega
   generalize (b+a) / 2=e at *;have f:l[e]?=some l[e]:=dG N;generalize l[e]=x at f;obtain⟨ab,r,s,_⟩:=Hl p e x f;simp only[cO,P,nF,oI,bs,Q,ke,show ¬(1:Int)<0 by omega,aJ,T,X,r,s,zq,z,bS];by_cases o:c x<0
   ·have A:e<k:=by
      rcases gG e k with g|g
      ·exact g
      ·have:=h2 e x f g;omega
    simp only[o,cM,aK,aN,bs,aa,ga,aW,bL];exact .some (.inl ⟨rfl,a - (e+1),by omega,rfl,_,_,_,e+1,a,rfl,by omega,H,L,rfl⟩)
   ·have A:k≤e:=by
      rcases gG e k with g|g
      ·exact absurd (G e x f g) o
      ·exact g
    simp only[o,bT,aK,aU,aJ,bs,ga,aW,bL];exact .some (.inl ⟨rfl,e - b,by omega,rfl,_,_,_,b,e,rfl,M,A,by omega,rfl⟩)
  ·intro j;have j:b=k:=by
    have:¬(b:Int)<a:=by simpa using j
    omega
   subst j;exact .some (.inr ⟨by simp,rfl,rfl,rfl⟩)
 ·rintro⟨ac,m,n⟩ ⟨C,E,F⟩;simp only at C E F;subst C;subst E;simp only[dA,cN,aW,F,bs,bS];by_cases K:k<l.length
  ·have f:l[k]?=some l[k]:=dG K;have q:(k:Int)<l.length:=by omega
   generalize l[k]=x at f;obtain⟨ab,r,s,_⟩:=Hl p k x f;simp only[q,cM,bZ,aN,bs,r,s,f,zq,gk,z,e8,bW,gp];exact .some rfl
  ·have f:l[k]?=none:=qc (by omega);have q:¬(k:Int)<l.length:=by omega
   simp only[q,bT,bZ,aU,aJ,bs,gk,bW,gp,f];exact .some rfl
theorem QA(l:List bY)(d:D)(b a:Int)(h:J)(f:sF h l d)(j:l.length≤1000000)
   (k:Nat) (g:k≤l.length) (c:∀i x,l[i]?=some x→i<k→gV x ⟨b,a,0⟩<0) (h2:∀i x,l[i]?=some x→k≤i→0≤gV x ⟨b,a,0⟩) :
   R s5 [d,.int .i64 b,.int .i64 a] h=some (.bD [.int .i64 k,.bool (match l[k]? with|some x=>decide (gV x ⟨b,a,0⟩=0)|none=>false)],h):=by
 have e:eD tab eO [0,1] [.int .i64 b,.int .i64 a]=some (.agg (cZ ⟨b,a,0⟩)):=id rfl;rw[Ug];simp only[IX,bs,e,aL];rw[a3j l d ⟨b,a,0⟩ (.fn (.func x7) [] []) (λx=>gV x ⟨b,a,0⟩) h f j (λx=>by rw[re];exact a3k x _ h) k g c h2];rfl
theorem a3b(l:List bY)(d j:D)(b a:Int)(h:J)(f:sF h l d)(m:l.length≤1000000)(n:gi l):R Db [.agg [d,j],.int .i64 b,.int .i64 a] h=some (.int .i64 (j2 l b a),h):=by
 have g:=tu ⟨b,a,0⟩ l;have c:=QA l d b a h f m (kM ⟨b,a,0⟩ l) g (vM _ l) (y9 _ l n);rw[Ub];unfold j2;generalize kM ⟨b,a,0⟩ l=i at g c;simp only[IU,gq,bs,C1,GN,c,fU,fC,fV];cases k:l[i]? with
 |none=>simp[-a7N]
 | some x =>
  obtain⟨r,o,q,s,p,i3⟩:=Hl f i x k;by_cases e:gV x ⟨b,a,0⟩=0
  ·simp[-a7N,e,o,p,i3]
  ·simp[-a7N,e]
theorem a6d(l:List bY)(d:D)(h:J)(p:aI 3 cZ l d)(u:l.length≤1000000):∃d' h',R Dz [d] h=some (d',h')∧h.length≤h'.length∧(∀f,f<h.length→h'[f]?=h[f]?) ∧
  ((l=[]∧(d' = .aA∨d' = .sl 3 true []))∨∃a,h.length≤a∧d' = .aZ 3 a 0 l.length∧h'[a]?=some (.row eO 3 (l.map cZ))):=by
 rw[U4];rcases p with⟨rfl,rfl⟩|⟨b,rfl⟩
 ·exact⟨.aA,h,by
    have e:O tab .eql dV .aA .aA=some (.bool true):=id rfl;simp[-a7N,Bb,e],bB _,λ_ _=>rfl,.inl ⟨rfl,.inl rfl⟩⟩
 ·obtain⟨g,h',k,q,s,r⟩:=uL (T:=tab) (t:=dV) (i:=r4) (j:=kR) (h:=h) (id rfl) (id rfl) (id rfl) (by decide) (y :=.sl 3 b (l.map cZ)) (hC _ _ _ _) (jD (by have:kR.gf=24:=rfl;rw[this,fN];omega) (by rw[fN];omega));have m:dB tab h dV dV (.sl 3 true []) (.sl 3 b (l.map cZ))=some (g,h'):=k;have e:O tab .eql dV (.sl 3 b (l.map cZ)) .aA=some (.bool false):=id rfl;refine⟨g,h',?_,q,s,?_⟩
  ·simp only[Bb,bs,e,aK,aU,aJ,Sp,m,cP]
  ·rcases r with⟨rfl,c⟩|⟨rfl,c⟩|⟨a,n,rfl,o⟩
   ·have:l=[]:=by simpa using c
    exact .inl ⟨this,.inr rfl⟩
   ·have:l=[]:=by simpa using c
    exact .inl ⟨this,.inl rfl⟩
   ·exact .inr ⟨a,n,by rw[fN];rfl,o⟩
theorem a6e(l:List cB)(d:D)(h:J)(f:pa h l d)(z:l.length≤1000000):∃d' h',R vw [d] h=some (d',h')∧h.length≤h'.length∧(∀m,m<h.length→h'[m]?=h[m]?) ∧
  ((l=[]∧(d' = .aA∨d' = .sl 3 true []))∨∃b,h.length≤b∧d' = .aZ 3 b 0 l.length∧h'[b]?=some (.row eK 3 (l.map cY))):=by
 rcases f with f|⟨a,rfl,n⟩
 ·exact Rn l d h f z
 rw[Nr];by_cases B:l=[]
 ·subst B;exact⟨.sl 3 true [],h,by
   have k:O tab .eql dN (.aZ 3 a 0 0) .aA=some (.bool false):=id rfl;have x:dB tab h dN dN (.sl 3 true []) (.aZ 3 a 0 0)=some (.sl 3 true [],h):=by
    have F:ix h kS h4 (.aZ 3 a 0 0)=some []:=by
     have c:gA h 3 (.aZ 3 a 0 0)=some []:=by simp[-a7N,gA,n]
     have e:kS.td = .sl eK:=id rfl;have r:h4.V=3:=id rfl;simp only[ix,e,r,c]
    have s:tab dN=some kS:=id rfl;have u:kS.td = .sl eK:=id rfl;have v:tab eK=some h4:=id rfl;have w:Nat.blt 0 h4.V=true:=id rfl;simp only[dB,s,u,v,w,F]
   simp[-a7N,ux,k,x],bB _,λ_ _=>rfl,.inl ⟨rfl,.inr rfl⟩⟩
 ·obtain⟨o,h',p,A,E,C⟩:=uL (T:=tab) (t:=dN) (i:=kS) (j:=h4) (h:=h) (id rfl) (id rfl) (id rfl) (by decide) (y :=.aZ 3 a 0 l.length) (show gA h 3 _=some (l.map cY) by simp[-a7N,gA,n];exact hN (by simp)) (jD (by have:h4.gf=32:=rfl;rw[this,fN];omega) (by rw[fN];omega));have q:dB tab h dN dN (.sl 3 true []) (.aZ 3 a 0 l.length)=some (o,h'):=p;have k:O tab .eql dN (.aZ 3 a 0 l.length) .aA=some (.bool false):=id rfl;refine⟨o,h',?_,A,E,?_⟩
  ·simp only[ux,bs,k,aK,aU,aJ,Mb,q,cP]
  ·rcases C with⟨rfl,g⟩|⟨rfl,g⟩|⟨b,c,rfl,e⟩
   ·have:l=[]:=by simpa using g
    exact .inl ⟨this,.inr rfl⟩
   ·have:l=[]:=by simpa using g
    exact .inl ⟨this,.inl rfl⟩
   ·exact .inr ⟨b,c,by rw[fN];rfl,e⟩
theorem a4w(l:List cB)(d:D)(b:Int)(c:aD)(n:Int)(h:J)(aj:pa h l d)(Q:l.length≤1000000)(ar:gx l):
  ∃d',R yF [d,.int .i64 b,.str c,.int .i64 n] h=some (d',h)∧aI 3 cY (fk l b c n) d':=by
 suffices Wp (R yF [d,.int .i64 b,.str c,.int .i64 n] h) (λac=>ac.2=h∧aI 3 cY (fk l b c n) ac.1) by
  obtain⟨⟨x,av⟩,f,rfl,o⟩:=this;exact⟨x,f,o⟩
 rw[uV];obtain⟨z,f,af,u,t,y⟩:=a6e l d h aj Q;simp only[K0,bs,af,bS];refine Wp.dF (λr=>?_) (λr=>?_)
 ·have r:n<1:=by simpa using r
  have B:fk l b c n=l:=by simp[-a7N,fk,r]
  rw[B];rcases y with⟨rfl,rfl|rfl⟩|⟨e,s,rfl,i⟩
  ·simp only[cP,bs];rw[ff rfl (by simp;exact .aA) u t];exact .some ⟨rfl,by simpa using aI.aA _ _⟩
  ·have m:aI 3 cY [] (.sl 3 true []) :=.inr ⟨true,rfl⟩;simp only[cP,bs];rw[ff (d' :=.sl 3 true []) rfl (e7 m λk _=>lI _ k) u t];exact .some ⟨rfl,m⟩
  ·have H:aR f h.length eK 3 (l.map cY) (.aZ 3 e 0 l.length) :=.inr ⟨e,s,by simp,i⟩;have m:=gS (n0:=h.length) (n:=3) H (bB _) (λk _=>l2 _ f _ k);simp only[cP,bs];rw[ff rfl (e7 m λk _=>lI _ k) u t];exact .some ⟨rfl,m⟩
 ·have r:¬n<1:=by simpa using r
  have B:fk l b c n=h7 l b c n (kT ⟨b,c,0⟩ l):=by simp[-a7N,fk,r]
  rw[B];have aq:pa f l z:=by
   rcases y with⟨rfl,rfl|rfl⟩|⟨e,s,rfl,i⟩
   ·exact .inl (.aA _ _)
   ·exact .inl (.inr ⟨true,rfl⟩)
   ·exact .inr ⟨e,rfl,i⟩
  have E:=tv ⟨b,c,0⟩ l;have K:=s80 l z b c f aq Q (kT ⟨b,c,0⟩ l) E (vN _ l) (zb _ l ar);generalize kT ⟨b,c,0⟩ l=a at E K;simp only[K,bs,fU,fC,fV,gB];refine Wp.join (P:=λau=>∃(A:D) (o:J) (e:Nat) (g:List cB) (x:cB),au=(.aQ,[A],o)∧A = .aZ 3 e 0 g.length∧h.length≤e∧h.length≤o.length∧(∀j,j<h.length→o[j]?=h[j]?)∧o[e]?=some (.row eK 3 (g.map cY))∧g[a]?=some x∧g.set a ⟨x.h,x.r,IntKind.wrap .i64 (x.n+n)⟩=h7 l b c n a) ?_ ?_ ?_
  ·intro p;have L:h7 l b c n a=l.take a++[⟨b,c,IntKind.wrap .i64 (0+n)⟩]++l.drop a:=by
    unfold h7;cases q:l[a]? with
    |none=>rfl
    | some x =>
     rw[q]at p;have:¬h8 x ⟨b,c,0⟩=0:=by simpa using p
     simp[-a7N,this]
   have T:(l.take a).length=a:=by simp;omega
   have ag:(l.take a++[(⟨b,c,0⟩:cB)]++l.drop a)[a]?=some ⟨b,c,0⟩:=by
    rw[gF,gO (by omega),T];simp[-a7N]
   have G:(l.take a++[(⟨b,c,0⟩:cB)]++l.drop a).set a ⟨b,c,IntKind.wrap .i64 (0+n)⟩=l.take a++[⟨b,c,IntKind.wrap .i64 (0+n)⟩]++l.drop a:=by
    rw[gF,oo _ _ (by omega),T];simp[-a7N]
   have F:(l.take a++[(⟨b,c,0⟩:cB)]++l.drop a).length=l.length+1:=by simp;omega
   have ap:(l.take a++[(⟨b,c,0⟩:cB)]++l.drop a).map cY=(l.map cY).take a++[[.int .i64 b,.str c,.int .i64 0]]++(l.map cY).drop a:=by
    rw[gL,gL,nn,uC];rfl
   have ab:h4.V=3:=rfl;have an:eY (l.length+1) h4.gf=true:=zi (by omega);have ao:eY 1 h4.gf=true:=zi (by omega);simp only[R6,Mc,bs,a7b];rcases y with⟨rfl,M⟩|⟨e,s,rfl,i⟩
   ·have ak:a=0:=by simpa using E
    subst ak;have C:lR eK h4 [z,.int .i64 ((0:Nat):Int),.sl 3 true [[.int .i64 b,.str c,.int .i64 0]]] f=some (.aZ 3 f.length 0 1,aG f eK 3 [[.int .i64 b,.str c,.int .i64 0]]):=by
     rcases M with rfl|rfl<;>simp[-a7N,lR,ab,ao]
    rw[C];simp only[bs];refine .some ⟨_,_,f.length,[⟨b,c,0⟩],⟨b,c,0⟩,rfl,rfl,u,?_,λj w=>?_,fO _ _ _ _,rfl,?_⟩
    ·simp[-a7N,aG];omega
    ·rw[eT _ _ _ _ (by omega)];exact t j w
    ·rw[L];simp[-a7N]
   ·have C:lR eK h4 [.aZ 3 e 0 l.length,.int .i64 (a:Int),.sl 3 true [[.int .i64 b,.str c,.int .i64 0]]] f=some (.aZ 3 f.length 0 (l.length+1),aG (f.set e .dead) eK 3 ((l.map cY).take a++[[.int .i64 b,.str c,.int .i64 0]]++(l.map cY).drop a)):=by
      have al:(a:Int)≤(l.length:Int):=by omega
      simp[-a7N,lR,ab,an,i,al]
    rw[C];simp only[bs];refine .some ⟨_,_,f.length,l.take a++[⟨b,c,0⟩]++l.drop a,⟨b,c,0⟩,rfl,by rw[F],u,?_,λj w=>?_,?_,ag,by rw[L];exact G⟩
    ·simp[-a7N,aG];omega
    ·rw[eT _ _ _ _ (by simp;omega),kZ (by omega)];exact t j w
    ·have:=fO (f.set e .dead) eK 3 ((l.take a++[(⟨b,c,0⟩:cB)]++l.drop a).map cY);simp only[BV]at this;rw[ap]at this ⊢;exact this
  ·intro p;cases q:l[a]? with
   |none=>rw[q]at p;simp at p
   | some x =>
    rw[q]at p;have ai:h8 x ⟨b,c,0⟩=0:=by simpa using p
    rcases y with⟨rfl,M⟩|⟨e,s,rfl,i⟩
    ·simp at q
    ·refine .some ⟨_,_,e,l,x,rfl,rfl,s,u,t,i,q,?_⟩;simp[-a7N,h7,q,ai]
  ·rintro _ ⟨A,o,e,g,x,rfl,rfl,s,ax,ah,i,aa,N⟩;have aw:a<g.length:=(bR.1 aa).1;have am:(0:Int)≤(a:Int)∧(a:Int)<(g.length:Int):=by omega
   have X:(g.map cY)[a]?=some (cY x):=by rw[eE,aa];rfl
   simp only[cN,aW,bs,GH,am,jq,aN,NS,eQ,eS,iC,dM i,X];simp only[cY,jS,il,jT,bs,cO];simp only[aL,bs];refine lJ (off:=2) (v :=.int .i64 (IntKind.wrap .i64 (x.n+n))) i X rfl (by simp[-a7N,cY]) rfl λI ad ae=>?_
   have G:(g.map cY).set a (dZ (cY x) 2 (cX (.int .i64 (IntKind.wrap .i64 (x.n+n)))))=(h7 l b c n a).map cY:=by
    rw[← N,j8];rfl
   rw[G]at ad;simp only[bs,cP];have F:(h7 l b c n a).length=g.length:=by rw[← N];simp[-a7N]
   have H:aR I h.length eK 3 ((h7 l b c n a).map cY) (.aZ 3 e 0 g.length) :=.inr ⟨e,s,by simp[-a7N,F],ad⟩;have m:=gS (n0:=h.length) (n:=3) H (bB _) (λk _=>l2 _ I _ k);rw[ff rfl (e7 m λk _=>lI _ k) (by have:=ae.1;omega) (λj w=>(ae.2 j (by omega)).trans (ah j w))];exact .some ⟨rfl,m⟩
theorem HH{g:J}{w:Nat}{f h e:D}{b:List cB}(l:g[w]?=some (.row gh 3 [[f,h,e]]))(u:pa g b h)(r:b.length≤1000000)(s:gx b)(c:Int)(d:aD)(n:Int):
  ∃a g',R pw [.ptr w 0 0,.int .i64 c,.str d,.int .i64 n] g=some (.bD [],g')∧g'[w]?=some (.row gh 3 [[f,a,e]])∧aI 3 cY (fk b c d n) a∧bM w g g':=by
 suffices Wp (R pw [.ptr w 0 0,.int .i64 c,.str d,.int .i64 n] g) (λj=>j.1 = .bD []∧∃a,j.2[w]?=some (.row gh 3 [[f,a,e]])∧aI 3 cY (fk b c d n) a∧bM w g j.2) by
  obtain⟨⟨x,g'⟩,p,rfl,a,q⟩:=this;exact⟨a,g',p,q⟩
 rw[U6];obtain⟨o,t,k⟩:=a4w b h c d n g u r s;have i:=fT (fx k);simp only[JW,bs,gg,xP,uX,O3,dM l,fC,eS,jS,il,jT,t,aL];refine Iz (off:=1) l rfl (by rw[i.1];rfl) (by simp) i.2 λg' m v=>?_
 rw[i.1]at m
 try simp only[bs]
 exact .some ⟨rfl,o,m,k,v⟩
def lN(h:J)(n0:Nat)(l:List (aD × aD))(d:D):Prop:=(l=[]∧aI 2 aM [] d)∨∃a,n0≤a∧d = .aZ 2 a 0 l.length∧h[a]?=some (.row bE 2 (l.map aM))
theorem lN.one{h:J}{n0:Nat}{l:List (aD × aD)}{d:D}(a:lN h n0 l d):d.one=true:=by
 rcases a with⟨_,a⟩|⟨b,_,rfl,_⟩
 ·exact fx a
 ·rfl
theorem lN.cL{h h':J}{n0:Nat}{l:List (aD × aD)}{d:D}(a:lN h n0 l d)(i:∀b,n0≤b→h'[b]?=h[b]?):lN h' n0 l d:=by
 rcases a with a|⟨e,c,f,g⟩
 ·exact .inl a
 ·exact .inr ⟨e,c,f,(i e c).trans g⟩
theorem lN.cS{h:J}{n0 b n:Nat}{l:List (aD × aD)}{d:D}(a:lN h b l d)(j:n0≤b):aI 2 aM l (cS n0 h (n+1) d):=by
 rcases a with⟨rfl,a⟩|⟨e,f,rfl,g⟩
 ·rw[iJ a (λc i=>by cases i)];exact a
 ·have k:aR h b bE 2 (l.map aM) (.aZ 2 e 0 l.length) :=.inr ⟨e,f,by simp,g⟩;exact gS k j (λc _=>pt _ h _ c)
theorem a2Z(i:It)(n:Int)(h:J)(bg:i.e.ls.length≤1000000)(av:i.e.fs.length≤1000000):∃j,R x2 [.agg (aT i),.int .i64 n] h=some (.bD [.agg (aT j),.bool (decide (¬idx (λl=>decide (l.off=n)) 0 i.e.ls<1))],h)∧(if idx (λl=>decide (l.off=n)) 0 i.e.ls<1 then j=k6 else n7 i n (idx (λl=>decide (l.off=n)) 0 i.e.ls).toNat j):=by
 suffices Wp (R x2 [.agg (aT i),.int .i64 n] h) (λam=>am.2=h∧∃j,am.1 = .bD [.agg (aT j),.bool (decide (¬idx (λl=>decide (l.off=n)) 0 i.e.ls<1))]∧(if idx (λl=>decide (l.off=n)) 0 i.e.ls<1 then j=k6 else n7 i n (idx (λl=>decide (l.off=n)) 0 i.e.ls).toNat j)) by
  obtain⟨⟨x,h'⟩,ad,rfl,j,rfl,P⟩:=this;exact⟨j,ad,P⟩
 rw[T9];simp only[IM,bs,aL,a2D];rw[lj aH 11 h (aT i) rfl (by omega)];generalize G:aG h aH 11 [aT i]=z;have I:z.length=h.length+1:=by simp[-a7N,← G,aG]
 have u:∀a,a<h.length→z[a]?=h[a]?:=λa b=>by simp only[← G,aG];rw[fg b]
 have M:z[h.length]?=some (.row aH 11 [aT i]):=by simp[-a7N,← G,aG]
 clear G;simp only[bs,I];generalize H:aG z aH 11 [[.str [],.int .i64 0,.int .i64 0,.int .i64 0,.int .i64 0,.aA,.int .i64 0,.int .i64 0,.str [],.str [],.aA]]=m;have be:m.length=h.length+2:=by simp[-a7N,← H,aG,I]
 have Q:∀a,a<h.length+1→m[a]?=z[a]?:=λa b=>by simp only[← H,aG];rw[fg (by omega)]
 have w:m[h.length+1]?=some (.row aH 11 [[.str [],.int .i64 0,.int .i64 0,.int .i64 0,.int .i64 0,.aA,.int .i64 0,.int .i64 0,.str [],.str [],.aA]]):=by
  simp only[← H,aG];rw[← I,gO (bB _)];simp[-a7N]
 replace M:=(Q h.length (by omega)).trans M;replace u:∀a,a<h.length→m[a]?=h[a]?:=λa b=>(Q a (by omega)).trans (u a b)
 clear H Q I;have N:m.row h.length 0=some [.str i.r,.int .i64 i.e.a0,.int .i64 i.e.a1,.int .i64 i.e.a2,.int .i64 i.e.a3,i.e.ld,.int .i64 i.e.a5,.int .i64 i.e.a6,.str i.e.s7,.str i.e.s8,i.e.fd]:=dM M;simp only[lB,jY,bs,m2,N,jS,il,jT,eS];rw[Qu i.e.ls i.e.ld _ (λl=>decide (l.off=n)) m i.e.ft i.e.qB (λx=>by rw[re];exact a3c x n m)];generalize ay:idx (λl=>decide (l.off=n)) 0 i.e.ls=v;have ag:=yY (λl:eV=>decide (l.off=n)) i.e.ls 0;rw[ay]at ag;simp only[bs,bS];refine Wp.dF ?_ ?_
 ·intro c;have c:v<1:=by simpa using c
  simp only[L5,bs];refine l5 w (by rfl) (by rfl) (by simp) (by rfl) λac q an=>?_
  replace q:ac[h.length+1]?=some (.row aH 11 [aT k6]):=q;simp only[nP q rfl,bs,gp];rw[ff (d' :=.bD [.agg (aT k6),.bool false]) (by rfl) (.bD _ λaq A=>by
   simp at A;rcases A with rfl|rfl
   ·exact pK _ _
   ·constructor) (by have:=an.1;omega) (λa b=>(an.2 a (by omega)).trans (u a b))]
  exact .some ⟨rfl,k6,by simp[-a7N,c],by simp[-a7N,c]⟩
 ·intro c;have c:¬v<1:=by simpa using c
  have bf:v<i.e.ls.length:=by
   rcases ag with ae|⟨_,ae⟩
   ·omega
   ·simpa using ae
  obtain⟨bb,ai,al⟩:=tV (T:=tab) (t:=bU) (i:=tZ) (j:=r5) (id rfl) (id rfl) (id rfl) (id rfl) i.e.ft (k :=.i64) (n:=v) (by omega) (by omega);obtain⟨g,aj,K⟩:=Qv _ bb m al (by simp;omega);simp only[eU,ai,aj,bs,lB,qs,jY,eS,iN];refine lJ M (by rfl) (by rfl) (by simp[-a7N,aT,bG]) (by rfl) λac f y=>?_
  have d:=fT (fx K);refine qX f (by rfl) (by rw[d.1];rfl) (by simp[-a7N,dZ,cX,aT,bG]) d.2 λC p ao=>?_
  rw[d.1]at p;replace f:C[h.length]?=some (.row aH 11 [[.str i.r,.int .i64 i.e.a0,.int .i64 i.e.a1,.int .i64 n,.int .i64 i.e.a3,g,.int .i64 i.e.a5,.int .i64 i.e.a6,.str i.e.s7,.str i.e.s8,i.e.fd]]):=p;replace y:=y.trans ao;clear p ao ai al d;have N:C.row h.length 0=some [.str i.r,.int .i64 i.e.a0,.int .i64 i.e.a1,.int .i64 n,.int .i64 i.e.a3,g,.int .i64 i.e.a5,.int .i64 i.e.a6,.str i.e.s7,.str i.e.s8,i.e.fd]:=dM f;obtain⟨o,ar,ak,az,F,L⟩:=Ik _ _ C i.e.gH av;have bc:h.length+2≤C.length:=by have:=y.1;omega
  have X:lN ar (h.length+2) i.e.fs o:=by
   rcases L with L|⟨ba,ad,P⟩
   ·exact .inl L
   ·exact .inr ⟨ba,by omega,P⟩
  simp only[bs,oM,eS,zg,N,jS,il,jT,ak];have d:=fT X.one;replace f:=(F _ (by omega)).trans f;replace w:=(F (h.length+1) (by omega)).trans ((y.2 (h.length+1) (by omega)).trans w);refine wD f (by rfl) (by rw[d.1];rfl) (by simp) d.2 λE p B=>?_
  rw[d.1]at p;have aa:=X.cL (h':=E) λa b=>B.2 a (by omega)
  replace f:E[h.length]?=some (.row aH 11 [[.str i.r,.int .i64 i.e.a0,.int .i64 i.e.a1,.int .i64 n,.int .i64 i.e.a3,g,.int .i64 i.e.a5,.int .i64 i.e.a6,.str i.e.s7,.str i.e.s8,o]]):=p;replace u:∀a,a<h.length→E[a]?=h[a]?:=λa b=>(B.2 a (by omega)).trans ((F a (by omega)).trans ((y.2 a (by omega)).trans (u a b)))
  replace w:=(B.2 (h.length+1) (by omega)).trans w;have bd:h.length+2≤E.length:=by have:=B.1;omega
  clear p y B ak d N F az;have ah:([.str i.r,.int .i64 i.e.a0,.int .i64 i.e.a1,.int .i64 n,.int .i64 i.e.a3,g,.int .i64 i.e.a5,.int .i64 i.e.a6,.str i.e.s7,.str i.e.s8,o]:List D).length=11:=rfl;have a4:(D.agg [.str i.r,.int .i64 i.e.a0,.int .i64 i.e.a1,.int .i64 n,.int .i64 i.e.a3,g,.int .i64 i.e.a5,.int .i64 i.e.a6,.str i.e.s7,.str i.e.s8,o]).fo=true:=by
   have a8:=fx K;have a9:=aa.one;clear X aa f L aj;cases g<;>first|(cases o<;>first|rfl|(simp[-a7N,D.one]at a9))|(simp[-a7N,D.one]at a8)
  simp only[nP f ah,bs];refine l5 w (by rfl) (by rfl) (by simp) a4 λs q ab=>?_
  replace q:s[h.length+1]?=some (.row aH 11 [[.str i.r,.int .i64 i.e.a0,.int .i64 i.e.a1,.int .i64 n,.int .i64 i.e.a3,g,.int .i64 i.e.a5,.int .i64 i.e.a6,.str i.e.s7,.str i.e.s8,o]]):=q;simp only[nP q ah,bs,gp];have a7:=(aa.cL (h':=s) λa b=>ab.2 a (by omega)).cS (n0:=h.length) (n:=1) (by omega);have aw:=iJ (n0:=h.length) (h:=s) (n:=1) K (λap _=>nQ _ s _ ap);generalize af:(⟨i.r,⟨i.e.a0,i.e.a1,n,i.e.a3,i.e.ls.drop v.toNat,g,i.e.a5,i.e.a6,i.e.s7,i.e.s8,i.e.fs,cS h.length s 2 o,a7,i.e.hl,K,by have:=i.e.qB;simp[-a7N];omega⟩⟩:It)=j;have au:n7 i n v.toNat j:=by subst af;exact⟨rfl,rfl,rfl,rfl,rfl,rfl,rfl,rfl,rfl,rfl,rfl⟩
  have ax:cS h.length s 4 (.bD [.agg [.str i.r,.int .i64 i.e.a0,.int .i64 i.e.a1,.int .i64 n,.int .i64 i.e.a3,g,.int .i64 i.e.a5,.int .i64 i.e.a6,.str i.e.s7,.str i.e.s8,o],.bool true]) = .bD [.agg (aT j),.bool true]:=by
   subst af;simp only[pB,oQ,fP,kE,Y9,yS,nM,aw];rfl
  rw[ff ax (.bD _ λaq A=>by
   simp at A;rcases A with rfl|rfl
   ·exact pK _ _
   ·constructor) (by have:=ab.1;omega) (λa b=>(ab.2 a (by omega)).trans (u a b))]
  exact .some ⟨rfl,j,by simp[-a7N,c],by simp[-a7N,c];exact au⟩
def ry(p:Ev × D):List D:=[.int .i64 p.1.a0,.int .i64 p.1.a1,.int .i64 p.1.a2,.int .i64 p.1.a3,p.1.ld,.int .i64 p.1.a5,.int .i64 p.1.a6,.str p.1.s7,.str p.1.s8,p.2]
def q4(g:J)(n0:Nat)(l:List bY)(d:D):Prop:=(l=[]∧(d = .aA∨d = .sl 3 true []))∨∃a,n0≤a∧d = .aZ 3 a 0 l.length∧g[a]?=some (.row eO 3 (l.map cZ))
theorem q4.rd{g:J}{n0:Nat}{l:List bY}{d:D}(h:q4 g n0 l d):sF g l d:=by
 rcases h with⟨rfl,rfl|rfl⟩|⟨b,_,rfl,a⟩
 ·exact .inl (.aA _ _)
 ·exact .inl (.inr ⟨true,rfl⟩)
 ·exact .inr ⟨b,rfl,a⟩
theorem q4.one{g:J}{n0:Nat}{l:List bY}{d:D}(h:q4 g n0 l d):d.one=true:=by
 rcases h with⟨rfl,rfl|rfl⟩|⟨b,_,rfl,a⟩<;>rfl
def qf(g:J)(n0:Nat)(l:List cB)(d:D):Prop:=aI 3 cY l d∨∃a,n0≤a∧d = .aZ 3 a 0 l.length∧g[a]?=some (.row eK 3 (l.map cY))
theorem qf.rd{g:J}{n0:Nat}{l:List cB}{d:D}(h:qf g n0 l d):pa g l d:=by
 rcases h with h|⟨b,_,rfl,a⟩
 ·exact .inl h
 ·exact .inr ⟨b,rfl,a⟩
theorem qf.one{g:J}{n0:Nat}{l:List cB}{d:D}(h:qf g n0 l d):d.one=true:=by
 rcases h with h|⟨b,_,rfl,a⟩
 ·exact fx h
 ·rfl
structure jA (n0 w:Nat) (g:J) (ms:List bY) (ts:List cB) (eX:List (Ev × D)) (dm dt de:D):Prop where
 len:n0≤g.length
 wn:n0≤w
 row:g[w]?=some (.row gh 3 [[dm,dt,de]])
 mr:q4 g n0 ms dm
 tl:qf g n0 ts dt
 ev:aR g n0 aC 10 (eX.map ry) de
 fs:∀p∈eX,lN g n0 p.1.fs p.2
 ma:gi ms
 ta:gx ts
theorem jA.xz{n0 w:Nat}{g g':J}{o:List bY}{G m:List cB}{eX:List (Ev × D)}{j q i k:D}(c:jA n0 w g o G eX j q i){z T V:Nat}{rows:List (List D)}(B:g[z]?=some (.row T V rows))(r:T≠eO)(h2:T≠aC)(s:T≠bE)(f:bM z g g')
  (A:g'[w]?=some (.row gh 3 [[j,k,i]])) (x:qf g' n0 m k) (y:gx m):jA n0 w g' o m eX j k i:=by
 have l:∀{p n F:Nat} {E:List (List D)},g[p]?=some (.row n F E)→n≠T→p≠z:=λv t=>ky v B t
 refine⟨by have:=c.len;have:=f.1;omega,c.wn,A,?_,x,?_,λC u=>?_,c.ma,y⟩
 ·rcases c.mr with h|⟨b,d,e,a⟩
  ·exact .inl h
  ·exact .inr ⟨b,d,e,(f.2 b (l a (iG r))).trans a⟩
 ·rcases c.ev with h|⟨b,d,e,a⟩
  ·exact .inl h
  ·exact .inr ⟨b,d,e,(f.2 b (l a (iG h2))).trans a⟩
 ·rcases c.fs C u with h|⟨b,d,e,a⟩
  ·exact .inl h
  ·exact .inr ⟨b,d,e,(f.2 b (l a (iG s))).trans a⟩
theorem jA.new{n0 w:Nat}{g g':J}{m:List bY}{n:List cB}{eX:List (Ev × D)}{k l j:D}(c:jA n0 w g m n eX k l j)(r:g.length≤g'.length)(i:∀f,f<g.length→g'[f]?=g[f]?):jA n0 w g' m n eX k l j:=by
 have lt:∀{f:Nat} {a:Ob},g[f]?=some a→f<g.length:=λp=>(bR.1 p).1
 refine⟨by have:=c.len;omega,c.wn,(i w (lt c.row)).trans c.row,?_,c.tl.imp id λ⟨a,d,e,b⟩=>⟨a,d,e,(i a (lt b)).trans b⟩,?_,λq o=>?_,c.ma,c.ta⟩
 ·rcases c.mr with h|⟨a,d,e,b⟩
  ·exact .inl h
  ·exact .inr ⟨a,d,e,(i a (lt b)).trans b⟩
 ·rcases c.ev with h|⟨a,d,e,b⟩
  ·exact .inl h
  ·exact .inr ⟨a,d,e,(i a (lt b)).trans b⟩
 ·rcases c.fs q o with h|⟨a,d,e,b⟩
  ·exact .inl h
  ·exact .inr ⟨a,d,e,(i a (lt b)).trans b⟩
theorem jA.Ms{n0 w:Nat}{g g':J}{i:List bY}{k:List cB}{eX:List (Ev × D)}{c d b:D}(a:jA n0 w g i k eX c d b){z T V:Nat}{rows:List (List D)}(h:g[z]?=some (.row T V rows))(n:T≠eO)(h2:T≠aC)(o:T≠bE)(p:T≠eK)(f:bM z g g')
  (q:g'[w]?=some (.row gh 3 [[c,d,b]])):jA n0 w g' i k eX c d b:=
 a.xz h n h2 o f q (a.tl.imp id λ⟨j,l,m,e⟩=>⟨j,l,m,(f.2 j (ky e h (iG p))).trans e⟩) a.ta
def iI:aD:=[42]
def ij(a:Int)(i:It):Option (Option Nat):=
 if i.e.a3≤a then some none
 else if a<i.e.a2 then none
 else if i.e.a2<a then(if idx (λb:eV=>decide (b.off=a)) 0 i.e.ls<1 then none else some (some (idx (λb:eV=>decide (b.off=a)) 0 i.e.ls).toNat))
 else some (some 0)
theorem N6(l:List bY)(b a c:Int):(match l[kM ⟨b,a,0⟩ l]? with|some x=>decide (gV x ⟨b,a,0⟩=0)|none=>false)=iO l ⟨b,a,c⟩:=by
 unfold iO;rw[za ⟨b,a,c⟩ ⟨b,a,0⟩ rfl rfl];cases l[kM ⟨b,a,0⟩ l]? with
 |none=>rfl
 |some x=>simp only;rw[SV x ⟨b,a,c⟩ ⟨b,a,0⟩ rfl rfl]
theorem Pd{n:Nat}(a:n≤1000001):eY n kR.gf=true:=jD (by have:kR.gf=24:=rfl;rw[this];omega) (by omega)
theorem a2d{n0 w:Nat}{g:J}{a:List bY}{a7:List cB}{eX:List (Ev × D)}{C L K:D}(i:jA n0 w g a a7 eX C L K)(b3:a.length≤100000)(c b l:Int){z:Nat}{j:It}(ac:g[z]?=some (.row aH 11 [aT j])){ap:Type}{f:J→Option ap}{E:bK→Ex→Option ap}{Q:ap→Prop}
  (k:∀g' y,jA n0 w g' (ih a ⟨c,b,l⟩) a7 eX y L K→g'[z]?=some (.row aH 11 [aT j])→g.length≤g'.length→(∀d,d<n0→g'[d]?=g[d]?)→Wp (f g') Q) :
  Wp ((R s5 [C,.int .i64 c,.int .i64 b] g).bind λaa=>(cT 0 aa.1).bind λa6=>(cT 1 aa.1).bind λbw=>(fS .not bw).bind λbx =>
   (S bx
    ((Y tab aa.2 dV (.ptr w 0 0)).bind λbz=>(eD tab eO [0,1] [.int .i64 c,.int .i64 b]).bind λb0=>(dL tab dV 1 [0] [b0]).bind λb1=>(R te [bz,a6,b1] aa.2).bind λa5=>(aS tab a5.2 dV (.ptr w 0 0) a5.1).bind λh'=>some (Ex.aQ,([]:List D),h'))
    (some (Ex.aQ,([]:List D),aa.2))).bind λr=>cI r.1
     ((Y tab r.2.2 dV (.ptr w 0 0)).bind λbt=>(aO tab dV bt a6).bind λbu=>(aB tab eO 2 bu).bind λbv=>(aS tab r.2.2 U bv (.int .i64 l)).bind f) (E r)) Q:=by
 have aj:=tu ⟨c,b,0⟩ a;have af:R s5 [C,.int .i64 c,.int .i64 b] g=some (.bD [.int .i64 (kM ⟨c,b,0⟩ a:Nat),.bool (iO a ⟨c,b,l⟩)],g):=
  (QA a C c b g i.mr.rd (by omega) (kM ⟨c,b,0⟩ a) aj (vM _ a) (y9 _ a i.ma)).trans (fR (λB:Bool=>some (D.bD [.int .i64 (kM ⟨c,b,0⟩ a:Nat),.bool B],g)) (N6 a c b l))
 have ax:kM ⟨c,b,l⟩ a=kM ⟨c,b,0⟩ a:=za ⟨c,b,l⟩ ⟨c,b,0⟩ rfl rfl a;have G:ih a ⟨c,b,l⟩=if iO a ⟨c,b,l⟩=true then a.set (kM ⟨c,b,0⟩ a) ⟨c,b,l⟩else a.take (kM ⟨c,b,0⟩ a)++[⟨c,b,l⟩]++a.drop (kM ⟨c,b,0⟩ a):=by
  unfold ih;rw[ax]
 have ah:iO a ⟨c,b,l⟩=true→∃x,a[kM ⟨c,b,0⟩ a]?=some x∧x.h=c∧x.f=b:=by
  intro p;unfold iO at p;rw[ax]at p;cases aw:a[kM ⟨c,b,0⟩ a]? with
  |none=>rw[aw]at p;cases p
  | some x =>
   rw[aw]at p;have:=(ri x ⟨c,b,l⟩).1 (by simpa using p);exact⟨x,rfl,this.1,this.2⟩
 have au:=wk a ⟨c,b,l⟩ i.ma;have bh:=zX a ⟨c,b,l⟩;generalize ih a ⟨c,b,l⟩=ae at G au bh k;generalize iO a ⟨c,b,l⟩=ar at af G ah;generalize kM ⟨c,b,0⟩ a=e at aj af G ah;have az:∀{g':J} {y:D},g'[w]?=some (.row gh 3 [[y,L,K]])→Y tab g' dV (.ptr w 0 0)=some y:=λm=>by rw[zd,dM m];rfl
 have a8:=(bR.1 i.row).1;have b6:=(bR.1 ac).1;have b5:w≠z:=ky i.row ac (by decide);have a1:=i.len;have bo:=i.wn;simp only[af,bs,fU,fC,fV,gB];refine Wp.join (P:=λr=>∃(y:D) (F:J) (n:Nat) (s:List bY) (x:bY),r=(.aQ,[],F)∧y = .aZ 3 n 0 s.length∧n0≤n∧g.length≤F.length∧(∀d,d<n0→F[d]?=g[d]?)∧F[w]?=some (.row gh 3 [[y,L,K]])∧(∀(d q I:Nat) (H:List (List D)),g[d]?=some (Ob.row q I H)→q≠eO→q≠gh→F[d]?=g[d]?)∧F[n]?=some (.row eO 3 (s.map cZ))∧s[e]?=some x∧s.set e ⟨x.h,x.f,l⟩=ae) ?_ ?_ ?_
 ·intro p;have p:ar=false:=by simpa using p
  subst p;simp only[aU,aJ]at G;have ay:(a.take e).length=e:=by simp;omega
  have a9:(a.take e++[(⟨c,b,0⟩:bY)]++a.drop e)[e]?=some ⟨c,b,0⟩:=by
   rw[gF,gO (by omega),ay];simp[-a7N]
  have a3:(a.take e++[(⟨c,b,0⟩:bY)]++a.drop e).set e ⟨c,b,l⟩=ae:=by
   rw[G,gF,oo _ _ (by omega),ay];simp[-a7N]
  have ak:(a.take e++[(⟨c,b,0⟩:bY)]++a.drop e).length=a.length+1:=by simp;omega
  have a0:(a.take e++[(⟨c,b,0⟩:bY)]++a.drop e).map cZ=(a.map cZ).take e++[[.int .i64 c,.int .i64 b,.int .i64 0]]++(a.map cZ).drop e:=by
   rw[gL,gL,nn,uC];rfl
  have a4:kR.V=3:=rfl;have bi:eY (a.length+1) kR.gf=true:=Pd (by omega);have bj:eY 1 kR.gf=true:=Pd (by omega);have bb:eD tab eO [0,1] [.int .i64 c,.int .i64 b]=some (.agg [.int .i64 c,.int .i64 b,.int .i64 0]):=id rfl;simp only[az i.row,bb,L8,bs,a7a];rcases i.mr with⟨al,bc⟩|⟨n,ab,ag,u⟩
  ·subst al;have bd:e=0:=by simpa using aj
   subst bd;have ai:lR eO kR [C,.int .i64 ((0:Nat):Int),.sl 3 true [[.int .i64 c,.int .i64 b,.int .i64 0]]] g=some (.aZ 3 g.length 0 1,aG g eO 3 [[.int .i64 c,.int .i64 b,.int .i64 0]]):=by
    rcases bc with rfl|rfl<;>simp[-a7N,lR,a4,bj]
   rw[ai];simp only[bs];refine Aw (off:=0) ((eT _ _ _ _ a8).trans i.row) rfl rfl (by simp) rfl λA t o=>?_
   replace t:A[w]?=some (.row gh 3 [[.aZ 3 g.length 0 1,L,K]]):=t;have gl:(aG g eO 3 [[.int .i64 c,.int .i64 b,.int .i64 0]]).length=g.length+1:=by simp[-a7N,aG]
   refine .some ⟨_,A,g.length,[⟨c,b,0⟩],⟨c,b,0⟩,rfl,rfl,a1,by rw[o.1,gl];omega,λd m=>(o.2 d (by omega)).trans (eT _ _ _ _ (by omega)),t,λd q I H m N T=>?_,(o.2 _ (by omega)).trans (fO _ _ _ _),rfl,by simpa using a3⟩;exact(o.2 d (ky m i.row T)).trans (eT _ _ _ _ (bR.1 m).1)
  ·have bf:(e:Int)≤(a.length:Int):=by omega
   have ai:lR eO kR [C,.int .i64 (e:Int),.sl 3 true [[.int .i64 c,.int .i64 b,.int .i64 0]]] g=some (.aZ 3 g.length 0 (a.length+1),aG (g.set n .dead) eO 3 ((a.map cZ).take e++[[.int .i64 c,.int .i64 b,.int .i64 0]]++(a.map cZ).drop e)):=by
    subst ag;simp[-a7N,lR,a4,bi,u,bf]
   rw[ai];simp only[bs];have an:w≠n:=ky i.row u (by decide);have ao:∀d,d<g.length→d≠n→(aG (g.set n .dead) eO 3 ((a.map cZ).take e++[[.int .i64 c,.int .i64 b,.int .i64 0]]++(a.map cZ).drop e))[d]?=g[d]?:=λd m bk=>by
    rw[eT _ _ _ _ (by simpa using m),kZ (iG bk)]
   refine Aw (off:=0) ((ao w a8 an).trans i.row) rfl rfl (by simp) rfl λA t o=>?_
   replace t:A[w]?=some (.row gh 3 [[.aZ 3 g.length 0 (a.length+1),L,K]]):=t;have gl:(aG (g.set n .dead) eO 3 ((a.map cZ).take e++[[.int .i64 c,.int .i64 b,.int .i64 0]]++(a.map cZ).drop e)).length=g.length+1:=by simp[-a7N,aG]
   have a2:=fO (g.set n .dead) eO 3 ((a.map cZ).take e++[[.int .i64 c,.int .i64 b,.int .i64 0]]++(a.map cZ).drop e);rw[BV,← a0]at a2;refine .some ⟨_,A,g.length,a.take e++[⟨c,b,0⟩]++a.drop e,⟨c,b,0⟩,rfl,by rw[ak],a1,by rw[o.1,gl];omega,λd m=>(o.2 d (by omega)).trans (ao d (by omega) (by omega)),t,λd q I H m N T=>?_,(o.2 _ (by omega)).trans (by rw[← a0];exact a2),a9,a3⟩;exact(o.2 d (ky m i.row T)).trans (ao d (bR.1 m).1 (ky m u N))
 ·intro p;have p:ar=true:=by simpa using p
  subst p;obtain⟨x,W,bp,bq⟩:=ah rfl;simp only[aN]at G;rcases i.mr with⟨al,_⟩|⟨n,ab,ag,u⟩
  ·subst al;simp at W
  ·exact .some ⟨C,g,n,a,x,rfl,ag,ab,bB _,λ_ _=>rfl,i.row,λ_ _ _ _ _ _ _=>rfl,u,W,by rw[bp,bq,G]⟩
 rintro _ ⟨y,F,n,s,x,rfl,rfl,ab,b4,ba,am,be,u,W,av⟩;have b2:e<s.length:=(bR.1 W).1;have bg:(0:Int)≤(e:Int)∧(e:Int)<(s.length:Int):=by omega
 have bm:(s.map cZ)[e]?=some (cZ x):=by rw[eE,W];rfl
 simp only[cN,az am,bs,OH,bg,jq,aN,Wv,eQ,eS];refine lJ (off:=2) u bm rfl (by simp[-a7N,cZ]) rfl λA t o=>?_
 have bn:(s.map cZ).set e (dZ (cZ x) 2 (cX (.int .i64 l)))=ae.map cZ:=by
  rw[← av,j8];rfl
 rw[bn]at t;have ak:s.length=ae.length:=by rw[← av];simp[-a7N]
 have an:w≠n:=ky am u (by decide);have ad:∀(d q I:Nat) (H:List (List D)),g[d]?=some (Ob.row q I H)→q≠eO→q≠gh→A[d]?=g[d]?:=λd q I H m N T=>by
  have aq:=be d q I H m N T;exact(o.2 d (ky (aq.trans m) u N)).trans aq
 refine k A _ ⟨by have:=o.1;omega,bo,(o.2 w an).trans am,.inr ⟨n,ab,by rw[ak],t⟩,i.tl.imp id λ⟨X,M,B,v⟩=>⟨X,M,B,(ad _ _ _ _ v (by decide) (by decide)).trans v⟩,?_,λbr bl=>?_,au,i.ta⟩ ((ad z _ _ _ ac (by decide) (by decide)).trans ac) (by have:=o.1;omega) (λd m=>(o.2 d (by omega)).trans (ba d m))
 ·rcases i.ev with h|⟨X,M,B,v⟩
  ·exact .inl h
  ·exact .inr ⟨X,M,B,(ad _ _ _ _ v (by decide) (by decide)).trans v⟩
 ·rcases i.fs br bl with h|⟨X,M,B,v⟩
  ·exact .inl h
  ·exact .inr ⟨X,M,B,(ad _ _ _ _ v (by decide) (by decide)).trans v⟩
def qp(e:Ev)(d:D)(a:aI 3 cR e.ls d):Ev:={ e with ld:=d,ft:=a }
theorem Wr{n0 w:Nat}{g:J}{ab:List bY}{ak:List cB}{eX:List (Ev × D)}{H I C:D}(r:jA n0 w g ab ak eX H I C)(ct:eX.length≤100000){z:Nat}{j:It}(bv:g[z]?=some (.row aH 11 [aT j]))(cu:j.e.ls.length≤1000)(cp:j.e.fs.length≤1000){be:Type}{f:D→J→Option be}{Q:be→Prop}
  (k:∀g' p bg d T x,jA n0 w g' ab ak (eX++[(qp j.e d T,x)]) H I bg→g.length≤g'.length→(∀a,a<n0→g'[a]?=g[a]?)→Wp (f p g') Q) :
  Wp ((aB tab aH 1 (.ptr z 0 0)).bind λb6 =>
  (Y tab g aC b6).bind λb7 =>
  (some ((.ptr g.length 0 0:D),aG g aC 10 [[.int .i64 0,.int .i64 0,.int .i64 0,.int .i64 0,.aA,.int .i64 0,.int .i64 0,.str [],.str [],.aA]])).bind λt =>
  ((aS tab t.2 aC t.1 b7).bind λh'=>some ((.bA:D),h')).bind λag =>
  (aB tab aC 4 t.1).bind λb8 =>
  (Y tab ag.2 bU b8).bind λb9 =>
  (R s4 [b9] ag.2).bind λaf =>
  (aB tab aC 9 t.1).bind λbb =>
  (Y tab af.2 bQ bb).bind λbc =>
  (R rE [bc] af.2).bind λa4 =>
  (aB tab aC 4 t.1).bind λca =>
  dY (Y tab ag.2 bQ bb=some bc)
  (((aS tab a4.2 bU ca af.1).bind λh'=>some ((.bA:D),h')).bind λb2 =>
  (aB tab aC 9 t.1).bind λcb =>
  ((aS tab b2.2 bQ cb a4.1).bind λh'=>some ((.bA:D),h')).bind λah =>
  (aB tab gh 1 (.ptr w 0 0)).bind λcc =>
  (Y tab ah.2 dX cc).bind λcd =>
  (Y tab ah.2 aC t.1).bind λce =>
  (dL tab dX 1 [0] [ce]).bind λcf =>
  (dB tab ah.2 dX dX cd cf).bind λa7 =>
  (aB tab gh 1 (.ptr w 0 0)).bind λcg =>
  ((aS tab a7.2 dX cg a7.1).bind λh'=>some ((.bA:D),h')).bind λb3 =>
  f t.1 b3.2)) Q:=by
 have c4:=(bR.1 r.row).1;have cw:=r.len;have bt:=r.wn;have bn:Y tab g aC (.ptr z 0 (0+1))=some (.agg (bG j.e)):=by rw[tA,dM bv];rfl
 have cy:∀c0 c1 c2 c3:D,True:=λ_ _ _ _=>trivial
 generalize ao:([.int .i64 0,.int .i64 0,.int .i64 0,.int .i64 0,.aA,.int .i64 0,.int .i64 0,.str [],.str [],.aA]:List D)=v;have bk:v.length=10:=by subst ao;rfl
 simp only[lB,bn,bs,aL];have L:∀a,a<g.length→(aG g aC 10 [v])[a]?=g[a]?:=λa c=>eT _ _ _ _ c
 have X:(aG g aC 10 [v])[g.length]?=some (.row aC 10 [v]):=fO _ _ _ _;have W:(aG g aC 10 [v]).length=g.length+1:=by simp[-a7N,aG]
 generalize aG g aC 10 [v]=al at L X W;have ci:=r.new (g':=al) (by omega) L;generalize co:List.length g=m at X W;have cx:w≠m:=by omega
 have ck:∀{a:Nat} {P:List (List D)},g[a]?=some (.row aC 10 P)→a≠m:=λc=>by have:=(bR.1 c).1;omega
 have cj:¬C.eC m:=λbm=>by have:=(r.ev.lt bm).2;omega
 have bq:(D.agg (bG j.e)).fo=true:=by
  have ax:=fx j.e.ft;have ay:=fx j.e.gH;have b1:D.agg (bG j.e) = .agg [.int .i64 j.e.a0,.int .i64 j.e.a1,.int .i64 j.e.a2,.int .i64 j.e.a3,j.e.ld,.int .i64 j.e.a5,.int .i64 j.e.a6,.str j.e.s7,.str j.e.s8,j.e.fd]:=rfl;rw[b1];generalize j.e.ld=o at ax;generalize j.e.fd=n at ay;cases o<;>first|(cases n<;>first|rfl|(simp[-a7N,D.one]at ay))|(simp[-a7N,D.one]at ax)
 refine m9 X (by rfl) (by rfl) (by rw[bk];exact bB _) bq λs B a9=>?_
 replace B:s[m]?=some (.row aC 10 [[.int .i64 j.e.a0,.int .i64 j.e.a1,.int .i64 j.e.a2,.int .i64 j.e.a3,j.e.ld,.int .i64 j.e.a5,.int .i64 j.e.a6,.str j.e.s7,.str j.e.s8,j.e.fd]]):=by
  rw[B];subst ao;rfl
 obtain⟨F,bh,A⟩:=Qv j.e.ls j.e.ld s j.e.ft (by omega);obtain⟨u,am,bi,cs,ap,bu⟩:=Ik j.e.fs j.e.fd s j.e.gH (by omega);have bw:Y tab s bU (.ptr m 0 (0+4))=some j.e.ld:=by rw[m2,dM B];rfl
 have bx:Y tab s bQ (.ptr m 0 (0+9))=some j.e.fd:=by rw[zg,dM B];rfl
 simp only[bs,jY,oM,bw,bh,bx,bi];refine Wp.dY trivial ?_;have bj:=(bR.1 B).1;have b4:=(ap m bj).trans B;have ac:=fT (fx A);refine qX b4 (by rfl) (by rw[ac.1];rfl) (by simp) ac.2 λcm a8 ai=>?_
 rw[ac.1]at a8
 try simp only[bs]
 have ar:lN am s.length j.e.fs u:=bu;have ad:=fT ar.one;refine wD a8 (by rfl) (by rw[ad.1];rfl) (by simp[-a7N,dZ]) ad.2 λq M aj=>?_
 rw[ad.1]at M;replace M:q[m]?=some (.row aC 10 [ry (qp j.e F A,u)]):=M;have an:∀a,a≠m→a<s.length→q[a]?=al[a]?:=λa c bo=>(aj.2 a c).trans ((ai.2 a c).trans ((ap a bo).trans (a9.2 a c)))
 have cq:s.length=m+1:=by rw[a9.1,W]
 have cr:q.length=am.length:=by rw[aj.1,ai.1]
 have bp:lN q n0 j.e.fs u:=by
  rcases ar with h|⟨l,o,n,i⟩
  ·exact .inl h
  ·exact .inr ⟨l,by omega,n,(aj.2 l (by omega)).trans ((ai.2 l (by omega)).trans i)⟩
 have b:jA n0 w q ab ak eX H I C:=r.new (by omega) λa c=>(an a (by omega) (by omega)).trans (L a (by omega))
 have b0:Y tab q dX (.ptr w 0 (0+2))=some C:=by rw[GU,dM b.row];rfl
 have bz:Y tab q aC (.ptr m 0 0)=some (.agg (ry (qp j.e F A,u))):=by
  rw[tA,dM M];rfl
 have bl:dL tab dX 1 [0] [.agg (ry (qp j.e F A,u))]=some (.sl 10 true [ry (qp j.e F A,u)]):=id rfl;simp only[bs,C6,b0,bz,bl];refine ud b.len b.ev (hC _ _ _ _) (by simp;omega) λbd cn az cz bf Z cl=>?_
 try simp only[bs]
 have au:=(bR.1 b.row).1;have ae:=fT (jj az);have aq:¬C.eC w:=v8 b.ev b.row (by decide);refine a6W ((Z w au aq).trans b.row) (by rfl) (by rw[ae.1];rfl) (by simp) ae.2 λK N E=>?_
 rw[ae.1]at N;replace N:K[w]?=some (.row gh 3 [[H,I,bd]]):=N
 try simp only[bs]
 have aa:∀(a G ba:Nat) (P:List (List D)),q[a]?=some (Ob.row G ba P)→G≠aC→G≠gh→K[a]?=q[a]?:=λa G ba P c b5 ch =>
  (E.2 a (ky c b.row ch)).trans (Z a (bR.1 c).1 (v8 b.ev c (iG b5)))
 refine k K _ bd F A u ⟨by have:=E.1;have:=b.len;omega,bt,N,?_,b.tl.imp id λ⟨l,o,n,i⟩=>⟨l,o,n,(aa _ _ _ _ i (by decide) (by decide)).trans i⟩,?_,λp y=>?_,r.ma,r.ta⟩ (by have:=E.1;omega) (λa c=>(E.2 a (by omega)).trans ((bf a c).trans ((an a (by omega) (by omega)).trans (L a (by omega)))))
 ·rcases b.mr with h|⟨l,o,n,i⟩
  ·exact .inl h
  ·exact .inr ⟨l,o,n,(aa _ _ _ _ i (by decide) (by decide)).trans i⟩
 ·rw [gL];rcases az with h|⟨l,o,n,i⟩
  ·exact .inl h
  ·exact .inr ⟨l,o,n,(E.2 l (by
     have br:=(Z w au aq).trans b.row;exact ky i br (by decide))).trans i⟩
 ·have av:∀{aw:List (aD × aD)} {d:D},lN q n0 aw d→lN K n0 aw d:=λT=>by
    rcases T with h|⟨l,o,n,i⟩
    ·exact .inl h
    ·exact .inr ⟨l,o,n,(aa _ _ _ _ i (by decide) (by decide)).trans i⟩
  rcases fp.1 y with y|y
  ·exact av (b.fs p y)
  ·simp only[np]at y;subst y;exact av bp
theorem a6P{α:Type}{x y:Option α}{Q:α→Prop}(h:x=y)(a:Wp x Q):Wp y Q:=h▸a
def xl(n0 w:Nat)(a:List bY)(h:List cB)(eX:List (Ev × D))(m p k:D)(i:It)(b:Bool)(g':J):Prop:=
 match ij (j2 a i.e.a0 i.e.a1) i with
 |none=>b=false
 |some none=>b=true∧∃c,jA n0 w g' a (fk h i.e.a0 iI i.e.ls.length) eX m c k
 |some (some g)=>b=true∧∃f n c l d,n7 i (j2 a i.e.a0 i.e.a1) g f∧jA n0 w g' (ih a ⟨i.e.a0,i.e.a1,i.e.a3⟩) (fk (fk h i.e.a0 iI g) i.e.a0 i.r f.e.ls.length) d n c l ∧
   if i.r=[]then ∃j o x,d=eX++[(qp f.e j o,x)]else d=eX
theorem a3O{n0 w:Nat}{g:J}{C:List bY}{v:List cB}{eX:List (Ev × D)}{L T ac:D}(r:jA n0 w g C v eX L T ac)(b3:C.length≤100000)(c9:v.length≤100000)(b2:eX.length≤100000)(i:It)(da:i.e.ls.length≤1000)(bv:i.e.fs.length≤1000):
  ∃(b:Bool) (g':J),R ym [.ptr w 0 0,.agg (aT i)] g=some (.bool b,g')∧g.length≤g'.length∧(∀a,a<n0→g'[a]?=g[a]?)∧xl n0 w C v eX L T ac i b g':=by
 suffices Wp (R ym [.ptr w 0 0,.agg (aT i)] g) (λF=>∃b:Bool,F.1 = .bool b∧g.length≤F.2.length∧(∀a,a<n0→F.2[a]?=g[a]?)∧xl n0 w C v eX L T ac i b F.2) by
  obtain⟨⟨x,g'⟩,bm,b,rfl,bn⟩:=this;exact⟨b,g',bm,bn⟩
 rw[U5];have db:=r.len;have dc:=r.wn;have dd:=(bR.1 r.row).1;simp only[JV];rw[lj aH 11 g (aT i) rfl (by omega)];have ax:∀a,a<g.length→(aG g aH 11 [aT i])[a]?=g[a]?:=λa m=>eT _ _ _ _ m
 have n:(aG g aH 11 [aT i])[g.length]?=some (.row aH 11 [aT i]):=fO _ _ _ _;have bf:(aG g aH 11 [aT i]).length=g.length+1:=by simp[-a7N,aG]
 have o:=r.new (g':=aG g aH 11 [aT i]) (by omega) ax;generalize aG g aH 11 [aT i]=l at ax n bf o;generalize c5:List.length g=d at n bf;have b5:Y tab l U (.ptr d 0 (0+1+0))=some (.int .i64 i.e.a0):=by rw[iC,dM n];rfl
 have b6:Y tab l U (.ptr d 0 (0+1+1))=some (.int .i64 i.e.a1):=by rw[iC,dM n];rfl
 have b7:Y tab l U (.ptr d 0 (0+1+2))=some (.int .i64 i.e.a2):=by rw[iC,dM n];rfl
 have b8:Y tab l U (.ptr d 0 (0+1+3))=some (.int .i64 i.e.a3):=by rw[iC,dM n];rfl
 have b9:Y tab l bU (.ptr d 0 (0+1+4))=some i.e.ld:=by rw[m2,dM n];rfl
 have cb:Y tab l aX (.ptr w 0 (0+0))=some (.agg [L,T]):=by rw[m1,dM o.row];rfl
 have bc:=a3b C L T i.e.a0 i.e.a1 l o.mr.rd (by omega) r.ma;unfold xl;generalize c4:j2 C i.e.a0 i.e.a1=k at bc;have bd:∀{c y:J},bM w c y→(∀a,a<n0→c[a]?=g[a]?)→∀a,a<n0→y[a]?=g[a]?:=λcl h a m=>(cl.2 a (by omega)).trans (h a m)
 have af:∀a,a<n0→l[a]?=g[a]?:=λa m=>ax a (by omega)
 simp only[bs,lB,uZ,u0,qs,s3,jY,b5,b6,b7,b8,b9,gg,xP,cb,bc,hX i.e.ft,iw];refine Wp.dY trivial ?_;refine Wp.dF ?_ ?_
 ·intro q;have q:i.e.a3≤k:=by simpa using q
  have N:ij k i=some none:=by unfold ij;rw[bO q]
  obtain⟨W,c,aq,cf,bq,H⟩:=HH o.row o.tl.rd (by omega) r.ta i.e.a0 iI (i.e.ls.length:Int);have aq:R pw [.ptr w 0 0,.int .i64 i.e.a0,.str [42],.int .i64 i.e.ls.length] l=some (.bD [],c):=aq;refine Wp.step aq ?_;simp only[bs,cP];refine .some ⟨true,rfl,by have:=H.1;show d≤c.length;omega,bd H af,?_⟩;rw[N];exact⟨rfl,W,o.xz o.row (by decide) (by decide) (by decide) H cf (.inl bq) (oy r.ta _ _ _)⟩
 intro q;have q:¬i.e.a3≤k:=by simpa using q
 simp only[bs,dE];refine Wp.dF ?_ ?_
 ·intro t;have t:k<i.e.a2:=by simpa using t
  have N:ij k i=none:=by unfold ij;rw[cC q,bO t]
  simp only[bs,cP];refine .some ⟨false,rfl,by show d≤l.length;omega,af,?_⟩;rw[N]
 intro t;have t:¬k<i.e.a2:=by simpa using t
 simp only[bs,bS];refine Wp.join (P:=λaa=>(∃(c:J) (K b ab:D),aa=(.ret,[.bool false,K,b,ab],c)∧g.length≤c.length∧(∀a,a<n0→c[a]?=g[a]?)∧ij k i=none) ∨
   (∃c j X W K b ab,aa=(.aQ,[.bool false,K,b,ab],c)∧g.length≤c.length∧(∀a,a<n0→c[a]?=g[a]?)∧ij k i=some (some X)∧n7 i k X j∧c[d]?=some (.row aH 11 [aT j])∧jA n0 w c C (fk v i.e.a0 iI (X:Nat)) eX L W ac)) ?_ ?_ ?_
 ·intro A;have A:i.e.a2<k:=by simpa using A
  obtain⟨j,bl,p⟩:=a2Z i k l (by omega) (by omega);simp only[GP n,bs];refine Wp.step bl ?_;simp only[bs,fU,fC,fV,mL,gB];generalize av:idx (λay:eV=>decide (ay.off=k)) 0 i.e.ls=B at p;have bb:=yY (λay:eV=>decide (ay.off=k)) i.e.ls 0;rw[av]at bb;refine Wp.dF ?_ ?_
  ·intro u;have u:B<1:=by simpa using u
   try simp only[bs]
   exact .some (.inl ⟨l,_,_,_,rfl,by omega,af,by unfold ij;rw[cC q,cC t,bO A,av,bO u]⟩)
  ·intro u;have u:¬B<1:=by simpa using u
   rw[cC u]at p;have c7:B<i.e.ls.length:=by
    rcases bb with h|⟨_,h⟩
    ·exact absurd h u
    ·simpa using h
   simp only[kL,bs,aL];refine zE n rfl λc al H=>?_
   have ak:w≠d:=ky o.row n (by decide);have I:=o.Ms n (by decide) (by decide) (by decide) (by decide) H ((H.2 w ak).trans o.row);have ag:∀a,a<n0→c[a]?=g[a]?:=λa m=>(H.2 a (by omega)).trans (af a m)
   have ca:Y tab c bU (.ptr d 0 (0+1+4))=some j.e.ld:=by rw[m2,dM al];rfl
   have bx:j.e.ls.length=i.e.ls.length - B.toNat:=by rw[p.ls,gK]
   have b4:IntKind.wrap .i64 ((i.e.ls.length:Int) - (j.e.ls.length:Int))=((B.toNat:Nat):Int):=by
    rw[bJ (by omega) (by omega)];omega
   obtain⟨W,y,ar,cg,br,an⟩:=HH I.row I.tl.rd (by omega) r.ta i.e.a0 iI (B.toNat:Int);have ar:R pw [.ptr w 0 0,.int .i64 i.e.a0,.str [42],.int .i64 (B.toNat:Int)] c=some (.bD [],y):=ar;simp only[bs,lB,jY,ca,hX j.e.ft,eB,b4];refine Wp.step ar ?_;have s:=I.xz I.row (by decide) (by decide) (by decide) an cg (.inl br) (oy r.ta _ _ _);refine .some (.inr ⟨y,j,B.toNat,W,_,_,_,rfl,by have:=an.1;have:=H.1;omega,bd an ag,by unfold ij;rw[cC q,cC t,bO A,av,cC u],p,(an.2 d (iG ak)).trans al,s⟩)
 ·intro A;have A:¬i.e.a2<k:=by simpa using A
  have bp:fk v i.e.a0 iI ((0:Nat):Int)=v:=by simp[-a7N,fk]
  refine .some (.inr ⟨l,i,0,T,_,_,_,rfl,by omega,af,by unfold ij;rw[cC q,cC t,cC A],⟨rfl,rfl,rfl,by omega,rfl,rfl,rfl,rfl,rfl,by simp,rfl⟩,n,by rw[bp];exact o⟩)
 rintro _ (⟨c,K,b,ab,rfl,bz,ag,N⟩|⟨c,j,X,W,K,b,ab,rfl,bz,ag,N,p,al,I⟩)
 ·simp only[jQ,jG,jX,aW,bs,cP];refine .some ⟨false,rfl,by show d≤c.length;omega,ag,?_⟩;rw[N]
 have cc:Y tab c dV (.ptr w 0 (0+0+0))=some L:=by rw[zd,dM I.row];rfl
 have c6:=ny v i.e.a0 iI (X:Nat);simp only[ga,cN,aW,bs,xO,cc,aL];refine a6P ?_ (a2d I b3 i.e.a0 i.e.a1 i.e.a3 al (f:=λg' =>
  (Y tab g' bH (.ptr d 0 (0+0))).bind λcm =>
  (Y tab g' bU (.ptr d 0 (0+1+4))).bind λcn =>
  (bC tab bU cn).bind λco =>
  (R pw [.ptr w 0 0,.int .i64 i.e.a0,cm,co] g').bind λah =>
  (Y tab ah.2 bH (.ptr d 0 (0+0))).bind λcp =>
  (O tab .eql bH cp (.str [])).bind λcq =>
  (S cq
   ((aB tab aH 1 (.ptr d 0 0)).bind λcr =>
  (Y tab ah.2 aC cr).bind λcs =>
  (some ((.ptr ah.2.length 0 0:D),aG ah.2 aC 10 [[.int .i64 0,.int .i64 0,.int .i64 0,.int .i64 0,.aA,.int .i64 0,.int .i64 0,.str [],.str [],.aA]])).bind λG =>
  ((aS tab G.2 aC G.1 cs).bind λM=>some ((.bA:D),M)).bind λa4 =>
  (aB tab aC 4 G.1).bind λct =>
  (Y tab a4.2 bU ct).bind λcu =>
  (R s4 [cu] a4.2).bind λaz =>
  (aB tab aC 9 G.1).bind λbi =>
  (Y tab az.2 bQ bi).bind λbj =>
  (R rE [bj] az.2).bind λbg =>
  (aB tab aC 4 G.1).bind λcw =>
  dY (Y tab a4.2 bQ bi=some bj)
  (((aS tab bg.2 bU cw az.1).bind λM=>some ((.bA:D),M)).bind λcd =>
  (aB tab aC 9 G.1).bind λcx =>
  ((aS tab cd.2 bQ cx bg.1).bind λM=>some ((.bA:D),M)).bind λa5 =>
  (aB tab gh 1 (.ptr w 0 0)).bind λcy =>
  (Y tab a5.2 dX cy).bind λcz =>
  (Y tab a5.2 aC G.1).bind λc0 =>
  (dL tab dX 1 [0] [c0]).bind λc1 =>
  (dB tab a5.2 dX dX cz c1).bind λbh =>
  (aB tab gh 1 (.ptr w 0 0)).bind λc2 =>
  ((aS tab bh.2 dX c2 bh.1).bind λM=>some ((.bA:D),M)).bind λce =>
  some (Ex.aQ,[G.1],ce.2)))
   (some (Ex.aQ,[D.any],ah.2))).bind λa6=>cI a6.1 (some (D.bool true,a6.2.2)) λx=>dC x (some (D.bool false,a6.2.2))) (E:=λaa x=>dC x (some (D.bool false,aa.2.2))) ?_)
 ·simp only[bs,aL,gg,xP,C6,xO,u1,lB,jY,oM,eS,ns,cP]
 ·intro y a8 s am c8 bo;have ci:Y tab y bH (.ptr d 0 (0+0))=some (.str j.r):=by rw[j1,dM am];rfl
  have cj:Y tab y bU (.ptr d 0 (0+1+4))=some j.e.ld:=by rw[m2,dM am];rfl
  obtain⟨a9,aj,bk,ch,bt,ao⟩:=HH s.row s.tl.rd (by omega) s.ta i.e.a0 j.r (j.e.ls.length:Int);have a7:=s.xz s.row (by decide) (by decide) (by decide) ao ch (.inl bt) (oy s.ta _ _ _);have ak:w≠d:=ky s.row am (by decide);have be:=(ao.2 d (iG ak)).trans am;have ck:Y tab aj bH (.ptr d 0 (0+0))=some (.str j.r):=by rw[j1,dM be];rfl
  have bx:j.e.ls.length≤i.e.ls.length:=by rw[p.ls,gK];omega
  have bw:j.e.fs.length≤1000:=by rw[p.fs];exact bv
  have ba:∀a,a<n0→aj[a]?=g[a]?:=λa m=>(ao.2 a (by omega)).trans ((bo a m).trans (ag a m))
  have b0:g.length≤aj.length:=by have:=ao.1;omega
  simp only[ci,cj,hX j.e.ft,bk,ck,bs,kc];refine Wp.join (P:=λaa=>∃(z:J) (K ad:D) (ae:List (Ev × D)),aa=(.aQ,[K],z)∧g.length≤z.length∧(∀a,a<n0→z[a]?=g[a]?)∧jA n0 w z (ih C ⟨i.e.a0,i.e.a1,i.e.a3⟩) (fk (fk v i.e.a0 iI (X:Nat)) i.e.a0 j.r j.e.ls.length) ae a8 a9 ad∧if i.r=[]then ∃ap aw x,ae=eX++[(qp j.e ap aw,x)]else ae=eX) ?_ ?_ ?_
  ·intro Q;have Q:i.r=[]:=by rw[← p.r];simpa using Q
   refine Wr a7 b2 be (by omega) bw (f:=λF h=>some (Ex.aQ,[F],h)) λz F ad ap aw x ai b1 au=>?_
   exact .some ⟨z,F,ad,_,rfl,by omega,λa m=>(au a m).trans (ba a m),ai,by rw[bO Q];exact⟨ap,aw,x,rfl⟩⟩
  ·intro Q;have Q:¬i.r=[]:=by rw[← p.r];simpa using Q
   exact .some ⟨aj,_,ac,eX,rfl,b0,ba,a7,by rw[cC Q]⟩
  rintro _ ⟨z,c3,ad,ae,rfl,b1,au,ai,bu⟩;simp only[cN];refine .some ⟨true,rfl,by show d≤z.length;omega,au,?_⟩;rw[N];rw[p.r]at ai;exact⟨rfl,j,a8,a9,ad,ae,p,ai,bu⟩
structure j6 (a b:Ev):Prop where
 a0:a.a0=b.a0
 a1:a.a1=b.a1
 a2:a.a2=b.a2
 a3:a.a3=b.a3
 a5:a.a5=b.a5
 a6:a.a6=b.a6
 s7:a.s7=b.s7
 s8:a.s8=b.s8
 ls:a.ls=b.ls
 fs:a.fs=b.fs
def gZ:List bY→List cB→List It→Option (List bY × List cB)
 |a,b,[]=>some (a,b)
 | a,b,i::r=>match ij (j2 a i.e.a0 i.e.a1) i with
  |none=>none
  |some none=>gZ a (fk b i.e.a0 iI i.e.ls.length) r
  |some (some k)=>gZ (ih a ⟨i.e.a0,i.e.a1,i.e.a3⟩) (fk (fk b i.e.a0 iI (k:Nat)) i.e.a0 i.r ((i.e.ls.length - k:Nat):Int)) r
def iu:List bY→List It→List Ev→Prop
 |a,[],b=>b=[]
 | a,i::r,b=>match ij (j2 a i.e.a0 i.e.a1) i with
  |none=>True
  |some none=>iu a r b
  |some (some k)=>∃j,n7 i (j2 a i.e.a0 i.e.a1) k j∧if i.r=[]then ∃e c,b=e::c∧j6 e j.e∧iu (ih a ⟨i.e.a0,i.e.a1,i.e.a3⟩) r c else iu (ih a ⟨i.e.a0,i.e.a1,i.e.a3⟩) r b
theorem q7(a:List bY)(b:List cB)(i:It)(r:List It):gZ a b (i::r)=match ij (j2 a i.e.a0 i.e.a1) i with
  |none=>none
  |some none=>gZ a (fk b i.e.a0 iI i.e.ls.length) r
  |some (some k)=>gZ (ih a ⟨i.e.a0,i.e.a1,i.e.a3⟩) (fk (fk b i.e.a0 iI (k:Nat)) i.e.a0 i.r ((i.e.ls.length - k:Nat):Int)) r:=rfl
theorem Za{h:J}{n0 a n:Nat}{l:List bY}{d:D}(g:q4 h a l d)(i:n0≤a):aI 3 cZ l (cS n0 h (n+1) d):=by
 rcases g with⟨rfl,rfl|rfl⟩|⟨b,e,rfl,f⟩
 ·exact .aA _ _
 ·exact .inr ⟨true,rfl⟩
 ·have j:aR h a eO 3 (l.map cZ) (.aZ 3 b 0 l.length) :=.inr ⟨b,e,by simp,f⟩;exact gS j i (λc _=>oW _ h _ c)
theorem Ze{h:J}{n0 c n:Nat}{l:List cB}{d:D}(a:qf h c l d)(i:n0≤c):aI 3 cY l (cS n0 h (n+1) d):=by
 rcases a with a|⟨e,f,rfl,g⟩
 ·rw[iJ a (λb _=>l2 _ h _ b)];exact a
 ·have j:aR h c eK 3 (l.map cY) (.aZ 3 e 0 l.length) :=.inr ⟨e,f,by simp,g⟩;exact gS j i (λb _=>l2 _ h _ b)
theorem ND{g:J}{n0 i:Nat}(d:n0≤i):∀(eX:List (Ev × D)),(∀p∈eX,lN g i p.1.fs p.2)→∃l:List Ev,l.map bG=(eX.map ry).map (λrow=>row.map (cS n0 g 2))∧l.length=eX.length∧∀(k:Nat) e p,l[k]?=some e→eX[k]?=some p→j6 e p.1
 |[],_=>⟨[],rfl,rfl,by simp⟩
 | p::r,f=>by
  obtain⟨l,m,h2,o⟩:=ND d r λc a=>f c (by simp[-a7N,a])
  have s:=(f p (by simp)).cS (n:=1) d;have q:=iJ (n0:=n0) (h:=g) (n:=1) p.1.ft (λj _=>nQ _ g _ j);refine⟨{ p.1 with fd:=cS n0 g 2 p.2,gH:=s }::l,?_,by simp[-a7N,h2],λk e c b a=>?_⟩
  ·simp only[fP,m];congr 1;simp only[ry,fP,kE,nM,yS,q];rfl
  ·cases k with
   | zero =>
    simp at b a;subst b;subst a;exact⟨rfl,rfl,rfl,rfl,rfl,rfl,rfl,rfl,rfl,rfl⟩
   |succ k=>exact o k e c (by simpa using b) (by simpa using a)
def IK(b:List Ev)(eX:List (Ev × D)):Prop:=b.length=eX.length∧∀(c:Nat) a d,b[c]?=some a→eX[c]?=some d→j6 a d.1
def na(f:List bY)(j:List cB)(g h:D)(b:List It)(x:D):Prop:=
 match gZ f j b with
 |none=>x = .bD [.agg [g,h],.aA,.int .i64 23]
 |some (i,k)=>∃d e c a,x = .bD [.agg [d,e],c,.int .i64 0]∧aI 3 cZ i d∧aI 3 cY k e∧aI 10 bG a c∧iu f b a∧a.length≤b.length
theorem a3K{b:hH}(c8:b.cW.length≤40)(ct:∀i∈b.cW,i.e.ls.length≤1000∧i.e.fs.length≤1000)(cp:∀g,R rJ [.agg (fA b)] g=some (.int .i64 0,g)){q:List bY}{B:List cB}{f d:D}(h:J)(ag:aI 3 cZ q f)(ah:aI 3 cY B d)(cw:gi q)(cy:gx B)(de:q.length≤90000)(dh:B.length≤90000):
  ∃x,R rI [.agg [f,d],.agg (fA b)] h=some (x,h)∧na q B f d b.cW x:=by
 suffices Wp (R rI [.agg [f,d],.agg (fA b)] h) (λaw=>aw.2=h∧na q B f d b.cW aw.1) by
  obtain⟨⟨x,c6⟩,a1,rfl,a2⟩:=this;exact⟨x,a1,a2⟩
 rw[Ng];have cm:∀g:J,Y tab g bP (.aE (fA b))=some (.agg (fA b)):=λg=>id rfl
 have bc:(aG h aX 2 [[.aA,.aA]])[h.length]?=some (.row aX 2 [[.aA,.aA]]):=fO _ _ _ _;have cx:(aG h aX 2 [[.aA,.aA]]).length=h.length+1:=by simp[-a7N,aG]
 have be:∀a,a<h.length→(aG h aX 2 [[.aA,.aA]])[a]?=h[a]?:=λa c=>eT _ _ _ _ c
 generalize a4:((D.ptr h.length 0 0,aG h aX 2 [[.aA,.aA]]):D × J)=cc;have bd:cc.1 = .ptr h.length 0 0:=by rw[← a4]
 have b5:cc.2=aG h aX 2 [[.aA,.aA]]:=by rw[← a4]
 generalize aG h aX 2 [[.aA,.aA]]=ae at bc cx be b5;have co:=cp ae;obtain⟨r,ck,br,di,ce,bn⟩:=a6d q f ae ag (by omega);obtain⟨t,l,bt,dj,bm,bo⟩:=Rn B d ck ah (by omega);have ba:q4 l (h.length+1) q r:=by
  rcases bn with h|⟨A,e,b,j⟩
  ·exact .inl h
  ·exact .inr ⟨A,by omega,b,(bm A (bR.1 j).1).trans j⟩
 have bh:qf l (h.length+1) B t:=by
  rcases bo with⟨rfl,rfl|rfl⟩|⟨A,e,b,j⟩
  ·exact .inl (.aA _ _)
  ·exact .inl (.inr ⟨true,rfl⟩)
  ·exact .inr ⟨A,by omega,b,j⟩
 have bv:∀g:J,aB tab aX 0 (.aE [f,d])=some (.aE [f,d]):=λg=>id rfl
 have bw:aB tab aX 1 (.aE [f,d])=some (.aE [d]):=id rfl;have b9:∀g:J,Y tab g dV (.aE [f,d])=some f:=λg=>id rfl
 have ca:∀g:J,Y tab g dN (.aE [d])=some d:=λg=>id rfl
 have cb:∀g:J,Y tab g aX (.aE [f,d])=some (.agg [f,d]):=λg=>id rfl
 have c0:aB tab bP 2 (.aE (fA b))=some (.aE [b.d]):=id rfl;have b0:eD tab aX [0,1] [r,t]=some (.agg [r,t]):=R5 r t ba.one bh.one;simp only[A9,gq,bs,a4,b5,cm,co,dH,dU,eF,bT,aK,aU,aJ,bv h,b9,br,bw,ca,bt,b0,R8,c0,aL];rw[lj gh 3 l [r,t,.aA] rfl (by omega)];have ap:∀a,a<l.length→(aG l gh 3 [[r,t,.aA]])[a]?=l[a]?:=λa c=>eT _ _ _ _ c
 have b7:(aG l gh 3 [[r,t,.aA]])[l.length]?=some (.row gh 3 [[r,t,.aA]]):=fO _ _ _ _;have cz:(aG l gh 3 [[r,t,.aA]]).length=l.length+1:=by simp[-a7N,aG]
 have az:jA (h.length+1) l.length (aG l gh 3 [[r,t,.aA]]) q B [] r t .aA:=by
  have lt:∀{a:Nat} {A:Ob},l[a]?=some A→a<l.length:=λc=>(bR.1 c).1
  refine⟨by omega,by omega,b7,?_,?_,aR.aA _ _ _ _,by simp,cw,cy⟩
  ·exact ba.imp id λ⟨A,e,b,j⟩=>⟨A,e,b,(ap A (lt j)).trans j⟩
  ·exact bh.imp id λ⟨A,e,b,j⟩=>⟨A,e,b,(ap A (lt j)).trans j⟩
 have bz:∀a,a<h.length+1→(aG l gh 3 [[r,t,.aA]])[a]?=ae[a]?:=λa c=>(ap a (by omega)).trans ((bm a (by omega)).trans (ce a (by omega)))
 generalize aG l gh 3 [[r,t,.aA]]=c5 at az bz;generalize l.length=X at az;clear ap b7 cz ba bh bn bo b0;simp only[bs,lE,pO b.hd];refine Wp.dY trivial ?_;refine Wp.loop (λN a0 g=>∃(n:Nat) (j I K:D) (z:List bY) (F:List cB) (eX:List (Ev × D)) (s u C:D),a0=[.aA,.int .i64 0,j,.int .i64 n,I,K]∧N+n=b.cW.length∧jA (h.length+1) X g z F eX s u C∧(∀a,a<h.length+1→g[a]?=ae[a]?) ∧
   z.length≤q.length+n∧F.length≤B.length+2*n∧eX.length≤n∧gZ q B b.cW=gZ z F (b.cW.drop n)∧∀k G,IK k eX→iu z (b.cW.drop n) G→iu q b.cW (k++G))
  (λH=>(H.1 = .ret∧∃j ac I K,H.2.1=[.aA,.int .i64 23,j,ac,I,K]∧gZ q B b.cW=none∧h.length≤H.2.2.length∧(∀a,a<h.length→H.2.2[a]?=h[a]?)∧H.2.2[h.length]?=some (.row aX 2 [[f,d]])) ∨
   (H.1 = .ext 0∧∃(j ac I K:D) (z:List bY) (F:List cB) (eX:List (Ev × D)) (s u C:D),H.2.1=[.aA,.int .i64 0,j,ac,I,K]∧jA (h.length+1) X H.2.2 z F eX s u C∧(∀a,a<h.length+1→H.2.2[a]?=ae[a]?)∧eX.length≤b.cW.length∧gZ q B b.cW=some (z,F)∧∀k,IK k eX→iu q b.cW k))
  b.cW.length ⟨0,_,_,_,q,B,[],r,t,.aA,rfl,rfl,az,bz,by omega,by omega,by simp,rfl,λk G c T=>by
   have:k=[]:=hM (by simpa using c.1);subst this;exact T⟩ ?_ ?_
 ·rintro N a0 g ⟨n,j,I,K,z,F,eX,s,u,C,rfl,da,m,v,dc,dd,b3,p,M⟩;simp only[JN,aW,bL,bs,aL,bS];refine Wp.dF ?_ ?_
  ·intro L;have L:n<b.cW.length:=fe L;obtain⟨i,a9⟩:=hq L;have cq:b.cW.drop n=i::b.cW.drop (n+1):=by
    rw[hS L];have:=(bR.1 a9).2;rw[this]
   obtain⟨df,c9⟩:=ct i (eW a9);have b8:=eR n (by omega);have cs:aO tab dO b.d (.int .i64 (n:Int))=some (.aE (aT i)):=by rw[qD b.hd];simp[-a7N,a9]
   obtain⟨cf,cj,ci,db,af,y⟩:=a3O m (by omega) (by omega) (by omega) i (by omega) (by omega);simp only[cs,kL,mL,bs];refine Wp.step ci ?_;simp only[bs,gB];rw[cq]at p M;unfold xl at y;rw[q7]at p;cases Q:ij (j2 z i.e.a0 i.e.a1) i with
   | none =>
    rw[Q]at y p;subst y;simp only[gb,aK,aN,cb,bd,bs,aL];have aq:cj[h.length]?=some (.row aX 2 [[.aA,.aA]]):=(af _ (by omega)).trans ((v _ (by omega)).trans bc);have bb:(D.agg [f,d]).fo=true:=by
     have bk:=fx ag;have bl:=fx ah;clear bv bw b9 ca cb br bt ag ah;cases f<;>first|(cases d<;>first|rfl|(simp[-a7N,D.one]at bl))|(simp[-a7N,D.one]at bk)
    refine m8 aq (by rfl) (by rfl) (by simp) bb λE W P=>?_
    replace W:E[h.length]?=some (.row aX 2 [[f,d]]):=W
    try simp only[bs]
    exact .some (.inr ⟨by simp,.inl ⟨rfl,_,_,_,_,rfl,p,by have:=P.1;have:=m.len;show h.length≤E.length;omega,λa c=>(P.2 a (by omega)).trans ((af a (by omega)).trans ((v a (by omega)).trans (be a c))),W⟩⟩)
   | some o =>
    have cn:cf=true:=by
     rw[Q]at y;cases o with
     |none=>exact y.1
     |some N=>exact y.1
    subst cn;simp only[fy,aK,aU,aJ,cO,bs,b8];cases o with
    | none =>
     rw[Q]at y p;obtain⟨_,al,ab⟩:=y;have cl:=ny F i.e.a0 iI i.e.ls.length;refine .some (.inl ⟨rfl,N - 1,by omega,n+1,_,_,_,z,_,eX,s,al,C,rfl,by omega,ab,λa c=>(af a c).trans (v a c),by omega,by omega,by omega,p,λk G c T=>M k G c ?_⟩);unfold iu;rw[Q];exact T
    | some au =>
     rw[Q]at y p;obtain⟨_,ar,bq,al,bp,c3,a7,ab,ao⟩:=y;have cu:ar.e.ls.length=i.e.ls.length - au:=by rw[a7.ls,gK]
     rw[cu]at ab;have cl:=ny F i.e.a0 iI (au:Nat);have c7:=ny (fk F i.e.a0 iI (au:Nat)) i.e.a0 i.r ((i.e.ls.length - au:Nat):Int);have bg:=zX z ⟨i.e.a0,i.e.a1,i.e.a3⟩;by_cases aa:i.r=[]
     ·rw[bO aa]at ao;obtain⟨ad,w,x,rfl⟩:=ao;refine .some (.inl ⟨rfl,N - 1,by omega,n+1,_,_,_,_,_,_,bq,al,bp,rfl,by omega,ab,λa c=>(af a c).trans (v a c),by omega,by omega,by simp;omega,p,λk G c T=>?_⟩);obtain⟨bf,b6⟩:=c;simp only[bF,g7,e6]at bf;have b1:k≠[]:=by rintro rfl;simp at bf
      obtain⟨an,am,rfl⟩:∃an am,k=an++[am]:=⟨k.dropLast,k.getLast b1,(List.dropLast_concat_getLast b1).symm⟩
      simp only[bF,g7,e6]at bf;have b4:an.length=eX.length:=by omega
      rw[gF];refine M an _ ⟨b4,λN e aw bx y=>?_⟩ ?_
      ·have a1:=(bR.1 bx).1;have a2:=(bR.1 y).1;exact b6 N e aw (by rw[fg a1];exact bx) (by rw[fg a2];exact y)
      ·unfold iu;rw[Q];refine⟨ar,a7,?_⟩;rw[bO aa];have:=b6 eX.length am (qp ar.e ad w,x) (by rw[gO (by omega),b4];simp[-a7N]) (by rw[gO (by omega)];simp[-a7N]);exact⟨am,G,rfl,⟨this.a0,this.a1,this.a2,this.a3,this.a5,this.a6,this.s7,this.s8,this.ls,this.fs⟩,T⟩
     ·rw[cC aa]at ao;subst ao;refine .some (.inl ⟨rfl,N - 1,by omega,n+1,_,_,_,_,_,_,bq,al,bp,rfl,by omega,ab,λa c=>(af a c).trans (v a c),by omega,by omega,by omega,p,λk G c T=>M k G c ?_⟩);unfold iu;rw[Q];refine⟨ar,a7,?_⟩;rw[cC aa];exact T
  ·intro L;have L:n=b.cW.length:=by
    have:¬(n:Int)<b.cW.length:=by simpa using L
    omega
   subst L;rw[qb]at p M;refine .some (.inr ⟨by simp,.inr ⟨rfl,_,_,_,_,z,F,eX,s,u,C,rfl,m,v,b3,p,λk c=>?_⟩⟩);have:=M k [] c rfl
   rwa [nm]at this
 ·rintro⟨c4,a0,g⟩ (⟨ai,j,ac,I,K,aj,p,b2,v,c⟩|⟨ai,j,ac,I,K,z,F,eX,s,u,C,aj,m,v,b3,p,M⟩)
  ·simp only at ai aj b2 v c;subst ai;subst aj;have bj:Y tab g aX (.ptr h.length 0 0)=some (.agg [f,d]):=by rw[m1,dM c];rfl
   simp only[jQ,jG,jX,aW,bL,bs,bd,bj,gp];have a8:cS h.length g 4 (.bD [.agg [f,d],.aA,.int .i64 23]) = .bD [.agg [f,d],.aA,.int .i64 23]:=by
    have ax:=iJ (n0:=h.length) (h:=g) (n:=1) ag (λe _=>oW _ g _ e);have ay:=iJ (n0:=h.length) (h:=g) (n:=1) ah (λe _=>l2 _ g _ e);simp only[pB,oQ,fP,kE,ax,ay,vA,nM]
   rw [ff a8 (.bD _ λad w=>by
    simp at w;rcases w with rfl|rfl|rfl
    ·refine .agg _ λad w=>?_
     simp at w;rcases w with rfl|rfl
     ·exact e7 ag λe _=>oX _ e
     ·exact e7 ah λe _=>lI _ e
    ·constructor
    ·constructor) b2 v]
   refine .some ⟨rfl,?_⟩;unfold na;rw[p]
  ·simp only at ai aj m v;subst ai;subst aj;have cd:Y tab g aX (.ptr X 0 (0+0))=some (.agg [s,u]):=by rw[m1,dM m.row];rfl
   have c1:Y tab g dX (.ptr X 0 (0+2))=some C:=by rw[GU,dM m.row];rfl
   have aq:g[h.length]?=some (.row aX 2 [[.aA,.aA]]):=(v _ (by omega)).trans bc;have bb:(D.agg [s,u]).fo=true:=by
    have bk:=m.mr.one;have bl:=m.tl.one;clear cd m;cases s<;>first|(cases u<;>first|rfl|(simp[-a7N,D.one]at bl))|(simp[-a7N,D.one]at bk)
   have b8:=m.wn;simp only[dA,cN,aW,bL,bs,bd,gg,xP,C6,cd,c1,aL];refine m8 aq (by rfl) (by rfl) (by simp) bb λE W P=>?_
   replace W:E[h.length]?=some (.row aX 2 [[s,u]]):=W;have c2:Y tab E dX (.ptr X 0 (0+2))=some C:=by rw[GU,dM ((P.2 X (by omega)).trans m.row)];rfl
   have bj:Y tab E aX (.ptr h.length 0 0)=some (.agg [s,u]):=by rw[m1,dM W];rfl
   simp only[c2,bs];refine Wp.dY trivial ?_;simp only[bj,bs,gp];have ak:=m.Ms aq (by decide) (by decide) (by decide) (by decide) P ((P.2 X (by omega)).trans m.row);obtain⟨av,cg,bu,ch⟩:=ND (g:=E) (n0:=h.length) (Nat.le_succ _) eX ak.fs;have bg:aI 10 bG av (cS h.length E 3 C):=by
    rcases ak.ev with⟨bi,aa⟩|⟨A,dg,bi,cr⟩
    ·have:eX=[]:=by simpa using aa
     subst this;have:av=[]:=hM (by simpa using bu);subst this;rw[bi];exact .aA _ _
    ·right;refine⟨false,?_⟩;rw[bi,yR (by omega) cr];simp only[il,je,cg]
   have ax:=Za (n0:=h.length) (n:=1) ak.mr (Nat.le_succ _);have ay:=Ze (n0:=h.length) (n:=1) ak.tl (Nat.le_succ _);have a8:cS h.length E 4 (.bD [.agg [s,u],C,.int .i64 0]) = .bD [.agg [cS h.length E 2 s,cS h.length E 2 u],cS h.length E 3 C,.int .i64 0]:=by
    simp only[pB,oQ,fP,kE,nM]
   rw [ff a8 (.bD _ λad w=>by
    simp at w;rcases w with rfl|rfl|rfl
    ·refine .agg _ λad w=>?_
     simp at w;rcases w with rfl|rfl
     ·exact e7 ax λe _=>oX _ e
     ·exact e7 ay λe _=>lI _ e
    ·exact e7 bg λe _=>sW _ e
    ·constructor) (by have:=P.1;have:=m.len;omega) (λa c=>(P.2 a (by omega)).trans ((v a (by omega)).trans (be a c)))]
   refine .some ⟨rfl,?_⟩;unfold na;rw[p];exact⟨_,_,_,av,rfl,ax,ay,bg,M av ⟨bu,ch⟩,by omega⟩
theorem a0x(m:cB)(l:List cB):∀x∈l.take (kT m l),kl x m:=by
 intro x c;obtain⟨d,a⟩:=j7 c;have b:=(bR.1 a).1;rw[lq]at b;rw[gw,bO (by omega)]at a;exact(oG _ _).1 (vN m l d x a (by omega))
theorem a2q{a b:cB}(h:kl a b)(c:a.h=b.h)(h2:a.r=b.r):False:=by
 have:=(oG a b).2 h;have:=(pj a b).2 ⟨c,h2⟩;omega
theorem a0w(a:cB)(l:List cB)(e:gx l)(x:cB)(f:x∈l)(d:x.h=a.h)(h2:x.r=a.r):l[kT a l]?=some x:=by
 have m:x∈l.drop (kT a l):=by
  rw[← h6 (kT a l) l]at f;rcases fp.1 f with h|h
  ·exact(a2q (a0x a l x h) d h2).elim
  ·exact h
 obtain⟨n,b⟩:=j7 m;rw[ko]at b;rcases ot n with rfl|o
 ·rw[ns]at b;exact b
 ·exfalso;have p:=(bR.1 b).1;have k:l[kT a l]?=some (l[kT a l]'(by omega)):=dG (by omega);have c:kl (l[kT a l]'(by omega)) x:=by
   obtain⟨g,i⟩:=bR.1 b;have:=om.1 e _ _ (show kT a l<l.length by omega) g (by omega);rw[i]at this;exact this
  have:=zb a l e _ _ k (bB _);have j:kl (l[kT a l]'(by omega)) a:=by
   unfold kl at c ⊢;rw[d,h2]at c;exact c
  have:=(oG _ _).2 j;omega
theorem xE(l:List cB)(k:gx l)(h:Int)(r:aD):(∃x∈l,x.h=h∧x.r=r∧oH l h r=x.n∧l[kT ⟨h,r,0⟩ l]?=some x)∨((∀x∈l,¬(x.h=h∧x.r=r))∧oH l h r=0∧(∀x,l[kT ⟨h,r,0⟩ l]?=some x→¬h8 x ⟨h,r,0⟩=0)):=by
 by_cases f:∃x∈l,x.h=h∧x.r=r
 ·left;obtain⟨x,a,c,d⟩:=f;have b:=a0w ⟨h,r,0⟩ l k x a c d;have e:h8 x ⟨h,r,0⟩=0:=(pj _ _).2 ⟨c,d⟩;exact⟨x,a,c,d,by unfold oH;rw[b];simp[-a7N,e],b⟩
 ·right;have g:∀x∈l,¬(x.h=h∧x.r=r):=λx a j=>f ⟨x,a,j⟩
  have i:∀x,l[kT ⟨h,r,0⟩ l]?=some x→¬h8 x ⟨h,r,0⟩=0:=λx a e=>g x (eW a) ((pj _ _).1 e)
  refine⟨g,?_,i⟩;unfold oH;cases b:l[kT ⟨h,r,0⟩ l]? with
  |none=>rfl
  |some x=>simp[-a7N,i x b]
theorem uK(l:List cB)(j:gx l)(a:Int)(b:aD)(n:Int)(C:¬n<1)(x:cB):x∈fk l a b n↔x=⟨a,b,IntKind.wrap .i64 (oH l a b+n)⟩∨(x∈l∧¬(x.h=a∧x.r=b)):=by
 simp only[fk,cC C];rcases xE l j a b with⟨q,G,f,g,k,e⟩|⟨w,k,D⟩
 ·have A:h8 q ⟨a,b,0⟩=0:=(pj _ _).2 ⟨f,g⟩;have m:h7 l a b n (kT ⟨a,b,0⟩ l)=l.set (kT ⟨a,b,0⟩ l) ⟨a,b,IntKind.wrap .i64 (oH l a b+n)⟩:=by
   unfold h7;rw[e,k];simp[-a7N,A,f,g]
  rw[m];generalize I:(⟨a,b,IntKind.wrap .i64 (oH l a b+n)⟩:cB)=K;have o:kT ⟨a,b,0⟩ l<l.length:=(bR.1 e).1;generalize kT ⟨a,b,0⟩ l=H at e o;constructor
  ·intro c;obtain⟨z,d⟩:=j7 c;rw[BQ]at d;split at d
   ·rename_i B;subst B;simp[-a7N,o]at d;exact .inl d.symm
   ·rename_i E;have y:=eW d;refine .inr ⟨y,λi=>?_⟩;have F:=H6 j y G (by rw[i.1,f]) (by rw[i.2,g]);subst F;obtain⟨s,t⟩:=bR.1 e;obtain⟨u,v⟩:=bR.1 d;rcases Nat.lt_or_gt_of_ne E with p|p
    ·have:=om.1 j _ _ s u p;rw[t,v]at this;exact GL _ this
    ·have:=om.1 j _ _ u s p;rw[t,v]at this;exact GL _ this
  ·rintro(rfl|⟨c,i⟩)
   ·exact q3.2 ⟨H,by rw[q2 o]⟩
   ·obtain⟨z,d⟩:=j7 c;refine q3.2 ⟨z,?_⟩;rw[kZ]
    ·exact d
    ·rintro rfl;rw[e]at d;injection d with d;subst d;exact i ⟨f,g⟩
 ·have m:h7 l a b n (kT ⟨a,b,0⟩ l)=l.take (kT ⟨a,b,0⟩ l)++[⟨a,b,IntKind.wrap .i64 (oH l a b+n)⟩]++l.drop (kT ⟨a,b,0⟩ l):=by
    unfold h7;rw[k];cases e:l[kT ⟨a,b,0⟩ l]? with
    |none=>rfl
    |some q=>simp only[cC (D q e)]
  rw[m];constructor
  ·intro c;simp only[fp,np]at c;rcases c with(c|c)|c
   ·have:=fG c;exact .inr ⟨this,w x this⟩
   ·exact .inl c
   ·have:=fM c;exact .inr ⟨this,w x this⟩
  ·rintro(rfl|⟨c,_⟩)
   ·simp[-a7N]
   ·rw[← h6 (kT ⟨a,b,0⟩ l) l]at c;rcases fp.1 c with h|h
    ·simp[-a7N,h]
    ·simp[-a7N,h]
def fH(h:Int)(b:List bY):List bY:=b.filter λa=>decide (a.h=h)
def tH(h:Int)(b:List cB):List cB:=b.filter λa=>decide (a.h=h)
theorem rz(h:Int)(a:List bY)(x:bY):x∈fH h a↔x∈a∧x.h=h:=by simp[-a7N,fH]
theorem r1(h:Int)(a:List cB)(x:cB):x∈tH h a↔x∈a∧x.h=h:=by simp[-a7N,tH]
theorem sX{h:Int}{a:List bY}(b:gi a):gi (fH h a):=List.Pairwise.sublist List.filter_sublist b
theorem tW{h:Int}{a:List cB}(b:gx a):gx (tH h a):=List.Pairwise.sublist List.filter_sublist b
theorem a2c{i:List bY}(c:gi i)(h f:Int):j2 (fH h i) h f=j2 i h f:=by
 rcases G4 _ (sX c) h f with⟨x,j,d,e,m⟩|⟨d,e⟩
 ·rw[m];rcases G4 _ c h f with⟨l,g,a,b,k⟩|⟨a,b⟩
  ·rw[k,Pu c ((rz _ _ _).1 j).1 g (by omega) (by omega)]
  ·exact absurd ⟨d,e⟩ (a x ((rz _ _ _).1 j).1)
 ·rw[e];rcases G4 _ c h f with⟨l,g,a,b,k⟩|⟨a,b⟩
  ·exact absurd ⟨a,b⟩ (d l ((rz _ _ _).2 ⟨g,a⟩))
  ·exact b.symm
theorem SY{g:List cB}(d:gx g)(h:Int)(r:aD):oH (tH h g) h r=oH g h r:=by
 rcases xE _ (tW d) h r with⟨x,i,e,c,l,_⟩|⟨e,c,_⟩
 ·rw[l];rcases xE _ d h r with⟨k,f,a,b,j,_⟩|⟨a,b,_⟩
  ·rw[j,H6 d ((r1 _ _ _).1 i).1 f (by omega) (by rw[c,b])]
  ·exact absurd ⟨e,c⟩ (a x ((r1 _ _ _).1 i).1)
 ·rw[c];rcases xE _ d h r with⟨k,f,a,b,j,_⟩|⟨a,b,_⟩
  ·exact absurd ⟨a,b⟩ (e k ((r1 _ _ _).2 ⟨f,a⟩))
  ·exact b.symm
theorem a4N{e:List bY}(a:gi e)(m:bY):fH m.h (ih e m)=ih (fH m.h e) m:=by
 refine Pt (sX (wk _ _ a)) (wk _ _ (sX a)) λx=>?_
 rw[rz,zY _ _ a,zY _ _ (sX a),rz];constructor
 ·rintro⟨rfl|⟨b,c⟩,d⟩
  ·exact .inl rfl
  ·exact .inr ⟨⟨b,d⟩,c⟩
 ·rintro(rfl|⟨⟨b,d⟩,c⟩)
  ·exact⟨.inl rfl,rfl⟩
  ·exact⟨.inr ⟨b,c⟩,d⟩
theorem a4O{d:List bY}(c:gi d)(m:bY)(h:Int)(e:m.h≠h):fH h (ih d m)=fH h d:=by
 refine Pt (sX (wk _ _ c)) (sX c) λx=>?_
 rw[rz,zY _ _ c,rz];constructor
 ·rintro⟨rfl|⟨b,g⟩,a⟩
  ·exact absurd a e
  ·exact⟨b,a⟩
 ·rintro⟨b,a⟩;exact⟨.inr ⟨b,λf=>e (f.1.symm.trans a)⟩,a⟩
theorem Cg{f:List cB}(a:gx f)(h:Int)(r:aD)(n:Int):tH h (fk f h r n)=fk (tH h f) h r n:=by
 by_cases e:n<1
 ·simp[-a7N,fk,e]
 refine Q9 (tW (oy a _ _ _)) (oy (tW a) _ _ _) λx=>?_
 rw[r1,uK _ a _ _ _ e,uK _ (tW a) _ _ _ e,r1,SY a];constructor
 ·rintro⟨rfl|⟨b,c⟩,d⟩
  ·exact .inl rfl
  ·exact .inr ⟨⟨b,d⟩,c⟩
 ·rintro(rfl|⟨⟨b,d⟩,c⟩)
  ·exact⟨.inl rfl,rfl⟩
  ·exact⟨.inr ⟨b,c⟩,d⟩
theorem Ch{d:List cB}(c:gx d)(g:Int)(r:aD)(n:Int)(h:Int)(f:g≠h):tH h (fk d g r n)=tH h d:=by
 by_cases e:n<1
 ·simp[-a7N,fk,e]
 refine Q9 (tW (oy c _ _ _)) (tW c) λx=>?_
 rw[r1,uK _ c _ _ _ e,r1];constructor
 ·rintro⟨rfl|⟨b,j⟩,a⟩
  ·exact absurd a f
  ·exact⟨b,a⟩
 ·rintro⟨b,a⟩;exact⟨.inr ⟨b,λi=>f (i.1.symm.trans a)⟩,a⟩
theorem Ck (a:Int):∀(l:List It),(∀i∈l,i.e.a0=a)→∀(c:List bY) (b:List cB),gi c→gx b →
  (gZ c b l).map (λs=>(fH a s.1,tH a s.2))=gZ (fH a c) (tH a b) l ∧
  ∀s,gZ c b l=some s→gi s.1∧gx s.2∧s.1.length≤c.length+l.length∧s.2.length≤b.length+2*l.length∧(∀h,h≠a→fH h s.1=fH h c∧tH h s.2=tH h b)∧(∀m∈s.1,m∈c∨m.h=a)∧(∀m∈s.2,m∈b∨m.h=a)
 | [],_,c,b,g,d=>by
  refine⟨rfl,λs j=>?_⟩;simp only[gZ,mJ]at j;subst j;exact⟨g,d,by simp,by simp,λ_ _=>⟨rfl,rfl⟩,λm h =>.inl h,λm h =>.inl h⟩
 | i :: r, hi,c,b,g,d=>by
  have F:=hi i (by simp);have C:∀x∈r,x.e.a0=a:=λx K=>hi x (by simp[-a7N,K])
  rw[q7,q7];rw[F,a2c g];cases N:ij (j2 c a i.e.a1) i with
  |none=>exact⟨rfl,λs j=>by cases j⟩
  | some o =>
   cases o with
   | none =>
    have k:=oy d a iI i.e.ls.length;obtain⟨u,v⟩:=Ck a r C c _ g k;simp only;rw[← Cg d];refine⟨u,λs j=>?_⟩;obtain⟨y,z,L,M,t,A,B⟩:=v s j;have G:=ny b a iI i.e.ls.length;refine⟨y,z,by simp;omega,by simp;omega,λh f=>⟨(t h f).1,(t h f).2.trans (Ch d _ _ _ _ (iG f))⟩,A,λm n=>?_⟩;rcases B m n with h|h
    ·by_cases p:(i.e.ls.length:Int)<1
     ·left;simpa[-a7N,fk,p]using h
     ·rcases(uK _ d _ _ _ p m).1 h with rfl|⟨h,_⟩
      ·exact .inr rfl
      ·exact .inl h
    ·exact .inr h
   | some q =>
    have k:=oy d a iI (q:Nat);have I:=oy k a i.r ((i.e.ls.length - q:Nat):Int);have H:=wk c ⟨a,i.e.a1,i.e.a3⟩ g;obtain⟨u,v⟩:=Ck a r C _ _ H I;simp only;have E:ih (fH a c) ⟨a,i.e.a1,i.e.a3⟩=fH a (ih c ⟨a,i.e.a1,i.e.a3⟩):=(a4N g ⟨a,i.e.a1,i.e.a3⟩).symm;rw[E,← Cg d,← Cg k];refine⟨u,λs j=>?_⟩;obtain⟨y,z,L,M,t,A,B⟩:=v s j;have G:=ny b a iI (q:Nat);have P:=ny (fk b a iI (q:Nat)) a i.r ((i.e.ls.length - q:Nat):Int);have Q:=zX c ⟨a,i.e.a1,i.e.a3⟩;have D:∀(b:List cB),gx b→∀(r:aD) (w:Int) (m:cB),m∈fk b a r w→m∈b∨m.h=a:=λb d r w m h=>by
     by_cases p:w<1
     ·left;simpa[-a7N,fk,p]using h
     ·rcases(uK _ d _ _ _ p m).1 h with rfl|⟨h,_⟩
      ·exact .inr rfl
      ·exact .inl h
    refine⟨y,z,by simp;omega,by simp;omega,λh f=>⟨(t h f).1.trans (a4O g _ _ (iG f)),(t h f).2.trans ((Ch k _ _ _ _ (iG f)).trans (Ch d _ _ _ _ (iG f)))⟩,λm n=>?_,λm n=>?_⟩
    ·rcases A m n with h|h
     ·rcases(zY _ _ g m).1 h with rfl|⟨h,_⟩
      ·exact .inr rfl
      ·exact .inl h
     ·exact .inr h
    ·rcases B m n with h|h
     ·rcases D _ k _ _ m h with h|h
      ·exact D _ d _ _ m h
      ·exact .inr h
     ·exact .inr h
theorem a3M(l:List bY)(c d:D)(h:J)(j:aI 3 cZ l c)(n:aI 3 cZ l d)(B:l.length≤1000000):R Dy [c,d] h=some (.bool true,h):=by
 apply Wp.val;rw[U1];simp only[JP,bs,aL,oT j,oT n,dH,dU,eF,bT,aK,aU,aJ];refine Wp.loop (λm e g=>g=h∧∃x s t,∃a:Nat,e=[x,.int .i64 a,s,t]∧m+a=l.length)
  (λr=>r.1 = .ext 0∧r.2.2=h) l.length ⟨rfl,_,_,_,0,rfl,rfl⟩ ?_ ?_
 ·rintro m e g ⟨rfl,x,s,t,a,rfl,A⟩;simp only[JQ,aW,bL,bs,aL,oT j,bS];refine Wp.dF ?_ ?_
  ·intro i;have i:a<l.length:=fe i;have k:l[a]?=some l[a]:=dG i;generalize l[a]=b at k;have w:aO tab dV c (.int .i64 a)=some (.aE (cZ b)):=by rw[tq j];simp[-a7N,k]
   have y:aO tab dV d (.int .i64 a)=some (.aE (cZ b)):=by rw[tq n];simp[-a7N,k]
   have v:=eR a (by omega);have u:O tab .neq eO (.agg (cZ b)) (.agg (cZ b))=some (.bool false):=by
    have:=Sm b.h b.h b.f b.f b.o b.o;simpa[-a7N,cZ]using this
   simp only[w,y,zq,u,bs,aK,aU,aJ,cO,v];exact .some (.inl ⟨rfl,m - 1,by omega,rfl,_,_,_,a+1,rfl,by omega⟩)
  ·intro _;exact .some (.inr ⟨by simp,rfl,rfl⟩)
 ·rintro⟨z,e,g⟩ ⟨p,q⟩;simp only at p q;subst p;subst q;simp only[dA,cN,bs,cP];exact .some rfl
theorem a3L(a:List bY)(b:List cB)(c d e f:D)(h:J)(g:aI 3 cZ a c)(h2:aI 3 cZ a d)(k:aI 3 cY b e)(k2:aI 3 cY b f)(i:a.length≤1000000)(j:b.length≤1000000):R Dx [.agg [c,e],.agg [d,f]] h=some (.bool true,h):=by
 rw[UZ];simp only[JO,gq,bs,C1,GN,a3M a c d h g h2 i,bZ,aN,Wt,a1d,gk,a4v b e f h k k2 j,bW,cP]
theorem a2u{s:List bY × List cB}{a b:D}(c:aI 3 cZ s.1 a)(h2:aI 3 cY s.2 b):(D.agg [a,b]).fo=true:=by
 have d:=fx c;have e:=fx h2;clear c h2;cases a<;>first|(cases b<;>first|rfl|(simp[-a7N,D.one]at e))|(simp[-a7N,D.one]at d)
theorem tz{g:J}{c:Nat}{a b:D}(h:g[c]?=some (.row aX 2 [[a,b]])):Y tab g aX (.ptr c 0 0)=some (.agg [a,b]):=by rw[m1,dM h];rfl
structure me {α:Type} (c:α→α→Int) (S dQ:α→α→Prop):Prop where
 tr:∀x y z,S x y→S y z→S x z
 lt:∀x y,dQ x y→c y x<0→S y x
 ge:∀x y,dQ x y→¬c y x<0→S x y
theorem Hi{α:Type}{c:α→α→Int}{S dQ:α→α→Prop}(o:me c S dQ){e f:List α}{x:α}(k:(e++f).Pairwise S)(l:∀y∈e++f,dQ y x)
  (h2:f=[]∨∃y r,f=y::r∧c x y<0) (p:e=[]∨∃y r,e=r++[y]∧¬c x y<0):(e++x::f).Pairwise S:=by
 rw[jd]at k ⊢;obtain⟨i,j,q⟩:=k;have s:∀b∈e,S b x:=by
  rcases p with rfl|⟨y,r,rfl,h⟩
  ·intro b a;cases a
  ·intro b a;have n:S y x:=o.ge y x (l y (by simp)) h;rw[jd]at i;rcases fp.1 a with a|a
   ·exact o.tr _ _ _ (i.2.2 b a y (by simp)) n
   ·simp at a;subst a;exact n
 have t:∀g∈f,S x g:=by
  rcases h2 with rfl|⟨y,r,rfl,h⟩
  ·intro b a;cases a
  ·intro g d;have m:S x y:=o.lt y x (l y (by simp)) h;rw[im]at j;rcases fc.1 d with rfl|d
   ·exact m
   ·exact o.tr _ _ _ m (j.1 g d)
 refine⟨i,im.2 ⟨t,j⟩,λb a g d=>?_⟩;rcases fc.1 d with rfl|d
 ·exact s b a
 ·exact q b a g d
theorem MY{α:Type}(c:α→α→Int)(P:List α)(x:α):∀(R:List α) (Q:List α),∃a b,R.reverse=a++b∧dn c P.length (P.length+R.length) (P++R.reverse++x::Q)=P++a++x::b++Q ∧
  (b=[]∨∃y r,b=y::r∧c x y<0)∧(a=[]∨∃y r,a=r++[y]∧¬c x y<0)
 | [], Q=>⟨[],[],rfl,by
   cases P with
   |nil=>simp[-a7N,dn]
   | cons p P =>
    simp only[g7,e6,ns,List.reverse_nil,nm];unfold dn;split
    ·rw[cC (by omega)];simp[-a7N]
    ·simp[-a7N],.inl rfl,.inl rfl⟩
 | y::R,Q=>by
  have g1:(P++(y::R).reverse++x::Q)[P.length+R.length+1]?=some x:=by
   rw[gO (by simp;omega)];simp[-a7N]
   try (have:P.length+R.length+1 - (P.length+(R.length+1))=0:=by omega
        rw[this];rfl)
  have f:(P++(y::R).reverse++x::Q)[P.length+R.length]?=some y:=by
   rw[fg (by simp),gO (by omega)];simp[-a7N]
  rw[g7,← nr];unfold dn;rw[g1,f];simp only;by_cases d:c x y<0
  ·rw[bO ⟨by omega,d⟩];have l:((P++(y::R).reverse++x::Q).set (P.length+R.length+1) y).set (P.length+R.length) x=P++R.reverse++x::(y::Q):=by
    have e:P++(y::R).reverse++x::Q=(P++R.reverse)++y::x::Q:=by simp
    rw[e];have n:(P++R.reverse).length=P.length+R.length:=by simp
    rw[oo _ _ (by omega),oo _ _ (by omega),n];have:P.length+R.length+1 - (P.length+R.length)=1:=by omega
    rw[this,B7];rfl
   rw[l];obtain⟨a,b,g,h,i,j⟩:=MY c P x R (y::Q);refine⟨a,b++[y],by simp[-a7N,g],by rw[h];simp[-a7N],?_,j⟩;rcases i with rfl|⟨o,r,rfl,m⟩
   ·exact .inr ⟨y,[],rfl,d⟩
   ·exact .inr ⟨o,r++[y],rfl,m⟩
  ·rw[cC (λk=>d k.2)];exact⟨(y::R).reverse,[],by simp,by simp,.inl rfl,.inr ⟨y,R.reverse,by simp,d⟩⟩
theorem Tv{α:Type}(c:α→α→Int)(P A Q:List α)(x:α):∃a b,A=a++b∧dn c P.length (P.length+A.length) (P++A++x::Q)=P++a++x::b++Q ∧
  (b=[]∨∃y r,b=y::r∧c x y<0)∧(a=[]∨∃y r,a=r++[y]∧¬c x y<0):=by
 have:=MY c P x A.reverse Q;simpa using this
theorem y1{α:Type}{c:α→α→Int}{S dQ:α→α→Prop}(o:me c S dQ)(P Q:List α):∀(B A:List α),A.Pairwise S→(∀x∈A,∀y∈B,dQ x y)→B.Pairwise dQ →
  ∃C,jO c P.length (P.length+A.length) B.length (P++A++B++Q)=P++C++Q∧C.Perm (A++B)∧C.Pairwise S
 |[],A,e,_,_=>⟨A,by simp[-a7N,jO],by simp,e⟩
 | x::B,A,e,h,f=>by
  rw[im]at f;obtain⟨b,d,rfl,h2,p,q⟩:=Tv c P A (B++Q) x;have r:(b++x::d).Pairwise S:=Hi o e (λy s=>h y s x (by simp)) p q;have l:P++(b++d)++x::B++Q=P++(b++d)++x::(B++Q):=by simp
  have i:(b++x::d).Perm (x::(b++d)):=BX;obtain⟨C,t,u,v⟩:=y1 o P Q B (b++x::d) r (λw g k j=>by
   rcases fc.1 (i.mem_iff.1 g)with rfl|g
   ·exact f.1 k j
   ·exact h w g k (by simp[-a7N,j])) f.2
  refine⟨C,?_,u.trans ?_,v⟩
  ·rw[g7];unfold jO;rw[l,h2,← t];have m:P.length+(b++d).length+1=P.length+(b++x::d).length:=by simp;omega
   have n:P++b++x::d++(B++Q)=P++(b++x::d)++B++Q:=by simp
   rw[m,n]
  ·have:((b++x::d)++B).Perm ((x::(b++d))++B):=i.append_right B;refine this.trans ?_;simpa using(BX (l₁:=b++d) (l₂:=B) (a:=x)).symm
inductive fB {α:Type} (S dQ:α→α→Prop) (k:Nat):List α→Prop
 |last (A:List α) (hl:A.length≤k) (hs:A.Pairwise S):fB S dQ k A
 |cons (A Y:List α) (hl:A.length=k) (hs:A.Pairwise S) (hp:∀x∈A,∀y∈Y,dQ x y) (hY:fB S dQ k Y):fB S dQ k (A++Y)
theorem fB.all{α:Type}{S dQ:α→α→Prop}{k:Nat}{l:List α}(h:fB S dQ k l)(c:l.length≤k):l.Pairwise S:=by
 cases h with
 |last _ _ a=>exact a
 | cons d b e a g f =>
  have:b=[]:=by
   simp at c;exact BT.1 (by omega)
  subst this;simpa using a
theorem fB.fst{α:Type}{S dQ:α→α→Prop}{k:Nat}{l:List α}(h:fB S dQ k l)(f:k≤l.length):∃A Y,l=A++Y∧A.length=k∧A.Pairwise S∧(∀x∈A,∀y∈Y,dQ x y)∧fB S dQ k Y:=by
 cases h with
 |last _ e a=>exact⟨l,[],by simp,by omega,a,by simp,.last [] (by simp) List.Pairwise.nil⟩
 |cons A Y b a d c=>exact⟨A,Y,rfl,b,a,d,c⟩
def jI{α:Type}(S dQ:α→α→Prop)(k:Nat)(X Y:List α):Prop:=∀a:List α,a.Perm Y→fB S dQ k a→fB S dQ k (X++a)
theorem jI.nil{α:Type}{S dQ:α→α→Prop}{k:Nat}{Y:List α}:jI S dQ k [] Y:=λa _ h=>h
theorem jI.step{α:Type}{S dQ:α→α→Prop}{k:Nat}{X A Y C:List α}(h:jI S dQ k X (A++Y))(b:C.Perm A)(e:C.length=k)(g:C.Pairwise S)(f:∀x∈A,∀y∈Y,dQ x y):jI S dQ k (X++C) Y:=λa c d=>by
 rw[gF];exact h (C++a) (b.append c) (.cons C a e g (λx i y j=>f x (b.mem_iff.1 i) y (c.mem_iff.1 j)) d)
theorem jI.done{α:Type}{S dQ:α→α→Prop}{k:Nat}{X Y a:List α}(h:jI S dQ k X Y)(b:a.Perm Y)(c:a.length≤k)(d:a.Pairwise S):fB S dQ k (X++a):=h a b (.last a c d)
theorem On{α:Type}{c:α→α→Int}{S dQ:α→α→Prop}(o:me c S dQ){l h i g p q:List α}(v:(l++h).Pairwise S)(w:(i++g).Pairwise S)(z:∀x∈l++h,∀y∈i++g,dQ x y)
  (C:l=[]∨g=[]∨∃x y r s,l=r++[x]∧g=y::s∧¬c y x<0) (h2:h=[]∨i=[]∨∃x y r s,i=r++[y]∧h=x::s∧c y x<0)
  (A:p.Perm (l++i)) (D:p.Pairwise S) (B:q.Perm (h++g)) (E:q.Pairwise S):(p++q).Perm ((l++h)++(i++g))∧(p++q).Pairwise S:=by
 rw[jd]at v w;have F:∀x∈l,∀y∈g,S x y:=by
  intro x b y d;rcases C with rfl|rfl|⟨e,f,r,s,rfl,rfl,a⟩
  ·cases b
  ·cases d
  ·have a:S e f:=o.ge e f (z e (by simp) f (by simp)) a;have j:x=e∨S x e:=by
    have:=v.1;rw[jd]at this;rcases fp.1 b with b|b
    ·exact .inr (this.2.2 x b e (by simp))
    ·simp at b;exact .inl b
   have k:y=f∨S f y:=by
    have:=w.2.1;rw[im]at this;rcases fc.1 d with rfl|d
    ·exact .inl rfl
    ·exact .inr (this.1 y d)
   rcases j with rfl|j<;>rcases k with rfl|k
   ·exact a
   ·exact o.tr _ _ _ a k
   ·exact o.tr _ _ _ j a
   ·exact o.tr _ _ _ (o.tr _ _ _ j a) k
 have G:∀y∈i,∀x∈h,S y x:=by
  intro y d x b;rcases h2 with rfl|rfl|⟨e,f,r,s,rfl,rfl,a⟩
  ·cases b
  ·cases d
  ·have a:S f e:=o.lt e f (z e (by simp) f (by simp)) a;have j:y=f∨S y f:=by
    have:=w.1;rw[jd]at this;rcases fp.1 d with d|d
    ·exact .inr (this.2.2 y d f (by simp))
    ·simp at d;exact .inl d
   have k:x=e∨S e x:=by
    have:=v.2.1;rw[im]at this;rcases fc.1 b with rfl|b
    ·exact .inl rfl
    ·exact .inr (this.1 x b)
   rcases j with rfl|j<;>rcases k with rfl|k
   ·exact a
   ·exact o.tr _ _ _ a k
   ·exact o.tr _ _ _ j a
   ·exact o.tr _ _ _ (o.tr _ _ _ j a) k
 refine⟨?_,jd.2 ⟨D,E,λt m u n=>?_⟩⟩
 ·refine(A.append B).trans ?_;have:(i++(h++g)).Perm (h++(i++g)):=by
   rw[← gF,← gF];exact List.perm_append_comm.append_right g
  simpa using this.append_left l
 ·rcases fp.1 (A.mem_iff.1 m)with m|m<;>rcases fp.1 (B.mem_iff.1 n)with n|n
  ·exact v.2.2 t m u n
  ·exact F t m u n
  ·exact G t m u n
  ·exact w.2.2 t m u n
def U8(z:Int):Prop:=0≤z∧z<256
theorem U8.u32{z:Int}(h:U8 z):jL z:=⟨h.1,by have:=h.2;omega⟩
def num(l:List Int):Int:=l.foldl (λb a=>b*256+a) 0
theorem wC(n:Int):IntKind.wrap .u8 n=n % 256:=by
 unfold IntKind.wrap;simp[-a7N,IntKind.signed,IntKind.bits,IntKind.min,IntKind.max]
theorem PH(a b c d:Int):num [a,b,c,d]=((a*256+b)*256+c)*256+d:=by simp[-a7N,num]
theorem xZ(n:Int):∀z∈fh n,U8 z:=by
 intro z a;unfold fh at a;simp only[wC,fc,oj,k9]at a;unfold U8;rcases a with rfl|rfl|rfl|rfl<;>omega
theorem a2s{a b c d:Int}(e:U8 a)(f:U8 b)(g:U8 c)(h:U8 d):jL (num [a,b,c,d]):=by
 rw[PH];unfold U8 jL at *;omega
def nU:Nat→List Int→List (List Int) × Nat
 |0,_=>([],0)
 | k+1,r=>if r.length<8∨(num (r.take 4)).toNat<1∨8388608<(num (r.take 4)).toNat∨r.length - 8<(num (r.take 4)).toNat∨num ((r.drop 4).take 4)≠jr (r.take 4++(r.drop 8).take (num (r.take 4)).toNat)then([],0)
  else((r.drop 8).take (num (r.take 4)).toNat::(nU k (r.drop (8+(num (r.take 4)).toNat))).1,8+(num (r.take 4)).toNat+(nU k (r.drop (8+(num (r.take 4)).toNat))).2)
end Go.Proofs.YtkcdpfogoepamaaGreatDoor

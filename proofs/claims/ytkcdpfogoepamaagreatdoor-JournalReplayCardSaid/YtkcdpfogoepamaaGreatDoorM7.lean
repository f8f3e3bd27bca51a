/- Part 7 of the texts that the theorem needs: an interpreter on data, proved sound; the functions on data; laws about them. -/
import Derived.Test.YtkcdpfogoepamaaGreatDoorM6
set_option linter.unusedSimpArgs false
set_option linter.unusedVariables false
set_option linter.unnecessarySimpa false
set_option maxRecDepth 100000
namespace Go.Eng
abbrev vC:=@gt_iff_lt
abbrev Az:=@Bool.not_not
abbrev BG:=@Int.lt_irrefl
end Go.Eng
namespace Go.Proofs.YtkcdpfogoepamaaGreatDoor
open Go.Eng Go.Pi
open Option renaming bind_some → a7N
theorem Qx(e:Ev)(h:J):R u5 [.agg (bG e)] h=some (.int .i64 (if gX e=true then 0 else 2),h):=by
 rw[M7];simp only[AJ,gq,bs,bG,mT,mU,lA,iB,eU,bS,dE,iw];by_cases c:e.a0<0
 ·have a:gX e=false:=by
    cases b:gX e
    ·rfl
    ·simp[-a7N,gX]at b;omega
  simp only[c,a,cM,bT,bZ,fq,reduceCtorEq,eP,aU,aN,aJ,bs,mT,mU,lA,iB,eU,bS,dE,iw,bW,aK,cP]
 by_cases d:999<e.a0
 ·have a:gX e=false:=by
    cases b:gX e
    ·rfl
    ·simp[-a7N,gX]at b;omega
  simp only[c,d,a,cM,bT,bZ,fq,reduceCtorEq,eP,aU,aN,aJ,bs,mT,mU,lA,iB,eU,bS,dE,iw,bW,aK,cP]
 by_cases f:e.a1<0
 ·have a:gX e=false:=by
    cases b:gX e
    ·rfl
    ·simp[-a7N,gX]at b;omega
  simp only[c,d,f,a,cM,bT,bZ,fq,reduceCtorEq,eP,aU,aN,aJ,bs,mT,mU,lA,iB,eU,bS,dE,iw,bW,aK,cP]
 by_cases g:2147483646<e.a1
 ·have a:gX e=false:=by
    cases b:gX e
    ·rfl
    ·simp[-a7N,gX]at b;omega
  simp only[c,d,f,g,a,cM,bT,bZ,fq,reduceCtorEq,eP,aU,aN,aJ,bs,mT,mU,lA,iB,eU,bS,dE,iw,bW,aK,cP]
 by_cases i:e.a2<0
 ·have a:gX e=false:=by
    cases b:gX e
    ·rfl
    ·simp[-a7N,gX]at b;omega
  simp only[c,d,f,g,i,a,cM,bT,bZ,fq,reduceCtorEq,eP,aU,aN,aJ,bs,mT,mU,lA,iB,eU,bS,dE,iw,bW,aK,cP]
 by_cases j:e.a3≤e.a2
 ·have a:gX e=false:=by
    cases b:gX e
    ·rfl
    ·simp[-a7N,gX]at b;omega
  simp only[c,d,f,g,i,j,a,cM,bT,bZ,fq,reduceCtorEq,eP,aU,aN,aJ,bs,mT,mU,lA,iB,eU,bS,dE,iw,bW,aK,cP]
 by_cases k:60000<e.a3
 ·have a:gX e=false:=by
    cases b:gX e
    ·rfl
    ·simp[-a7N,gX]at b;omega
  simp only[c,d,f,g,i,j,k,a,cM,bT,bZ,fq,reduceCtorEq,eP,aU,aN,aJ,bs,mT,mU,lA,iB,eU,bS,dE,iw,bW,aK,cP]
 have a:gX e=true:=by simp[-a7N,gX];omega
 simp only[c,d,f,g,i,j,k,a,cM,bT,bZ,fq,reduceCtorEq,eP,aU,aN,aJ,bs,mT,mU,lA,iB,eU,bS,dE,iw,bW,aK,cP]
theorem a3g(w:Int)(h:J):R x6 [.int .i64 w] h=some (.bool (decide (¬(w<1∨Int.tmod 5040 w≠0))),h):=by
 rw[M9];simp only[AM,bs,mO,iw];by_cases b:w<1
 ·have a:¬w≥1:=by omega
  simp only[b,a,bT,bZ,reduceCtorEq,aU,aJ,bs,bW,l3,eF,cP]
 ·have a:w≥1:=by omega
  have e:¬w=0:=by omega
  by_cases d:w≤5040
  ·by_cases c:Int.tmod 5040 w=0
   ·simp only[b,a,d,e,c,cM,bZ,aN,aJ,bs,bW,qk,iw,e8,dU,eF,oZ,fw,cP]
   ·simp only[b,a,d,e,c,cM,bT,bZ,aN,aJ,bs,bW,qk,iw,e8,dU,fw,o0,eF,cP]
  ·have c:¬Int.tmod 5040 w=0:=by
     rw[Lv (by omega),Lt (by omega) (by omega)];omega
   simp only[b,a,d,c,cM,bT,bZ,reduceCtorEq,aU,aN,aJ,bs,iw,bW,dU,fw,o0,eF,cP]
theorem Qz(e:Ev)(m:Int)(h:J):R u6 [.agg (bG e),.int .i64 m] h=some (.int .i64 (ig e m),h):=by
 apply Wp.val;rw[M8];simp only[AK,gq,bs,aL,bG,lU,lA,jh,eU,hX e.ft,e8,dE];by_cases E:e.ls.length=0
 ·have v:(e.ls.length:Int)=0:=by omega
  simp only[v,cM,aK,aN,cP];exact .some (by simp[-a7N,ig,E])
 by_cases M:40<e.ls.length
 ·have v:¬(e.ls.length:Int)=0:=by omega
  have F:(40:Int)<(e.ls.length:Int):=by omega
  simp only[v,F,cM,bT,aU,aJ,aK,aN,cP];exact .some (by simp[-a7N,ig,E,M])
 have v:¬(e.ls.length:Int)=0:=by omega
 have F:¬(40:Int)<(e.ls.length:Int):=by omega
 have ab:ig e m=jP e.a3 m e.a2 e.ls:=by simp[-a7N,ig,E,M]
 rw[ab];generalize ac:jP e.a3 m e.a2 e.ls=B;simp only[v,F,bT,aU,aJ,aK];refine Wp.loop (λz D o=>o=h∧∃G H I K L,∃r:Int,∃b:Nat,D=[G,.int .i64 r,.int .i64 (b:Int),H,I,K,L]∧z+b=e.ls.length∧jP e.a3 m r (e.ls.drop b)=B)
   (λa=>a.2.2=h∧((a.1 = .ext 0∧B=0)∨(a.1 = .ret∧Z 0 a.2.1 = .int .i64 B))) e.ls.length ⟨rfl,_,_,_,_,_,_,0,rfl,rfl,ac⟩ ?_ ?_
 ·rintro z D o ⟨rfl,G,H,I,K,L,r,b,rfl,aj,c⟩;simp only[AL,aW,bL,bs,aL,lU,jh,hX e.ft,bS];refine Wp.dF ?_ ?_
  ·intro l;have l:b<e.ls.length:=fe l;have Q:e.ls[b]?=some e.ls[b]:=dG l;have y:=eR b (by omega);have w:IntKind.wrap .i64 ((e.ls.length:Int) - 1)=(e.ls.length:Int) - 1:=bJ (by omega) (by omega);rw[hS l]at c;generalize e.ls[b]=a at Q c;have ad:aO tab bU e.ld (.int .i64 (b:Int))=some (.aE (cR a)):=by rw[m0 e.ft];simp[-a7N,Q]
   have T:e.ls.drop (b+1)=[]↔(b:Int)=(e.ls.length:Int) - 1:=by
    rw[BM];omega
   have ag:Y tab o dD (.aE (cR a))=some (.agg (cR a)):=id rfl;have ah:gM 3 (.agg (cR a))=some (.aE (cR a)):=nB 3 _ rfl;have V:aB tab dD 0 (.aE (cR a))=some (.aE (cR a)):=id rfl;have X:aB tab dD 1 (.aE (cR a))=some (.aE [.int .i64 a.len,.str a.fj]):=id rfl;have aa:aB tab dD 2 (.aE (cR a))=some (.aE [.str a.fj]):=id rfl;have af:Y tab o U (.aE (cR a))=some (.int .i64 a.off):=id rfl;have p:Y tab o U (.aE [.int .i64 a.len,.str a.fj])=some (.int .i64 a.len):=id rfl;have A:Y tab o bH (.aE [.str a.fj])=some (.str a.fj):=id rfl;unfold jP at c;simp only[ad,ag,ah,V,X,aa,af,bs,dH];by_cases g:a.off=r
   case neg =>
    rw[cC (λd=>g d.1)]at c;simp only[g,dU,fw,cM,bZ,fq,reduceCtorEq,eP,aJ,bs,bW,aN,aK];exact .some (.inr ⟨by simp,rfl,.inr ⟨rfl,by rw[← c];rfl⟩⟩)
   by_cases j:a.len<1
   ·rw[cC (λd=>d.2.1 j)]at c;simp only[g,j,dU,eF,cM,bT,bZ,fq,reduceCtorEq,eP,aU,aJ,bs,p,bS,bW,aN,aK];exact .some (.inr ⟨by simp,rfl,.inr ⟨rfl,by rw[← c];rfl⟩⟩)
   generalize q:IntKind.wrap .i64 (e.a3 - r)=n at c;by_cases k:n<a.len
   ·rw[cC (λd=>d.2.2.1 k)]at c;simp only[g,j,k,dU,eF,cM,bT,bZ,fq,reduceCtorEq,eP,aU,aJ,bs,p,iB,eU,eB,q,bS,dE,bW,aN,aK];exact .some (.inr ⟨by simp,rfl,.inr ⟨rfl,by rw[← c];rfl⟩⟩)
   by_cases s:e.ls.drop (b+1)=[]∧a.len<n
   ·rw[cC (λd=>d.2.2.2 s)]at c;have f:(b:Int)=(e.ls.length:Int) - 1:=T.1 s.1;have i:¬a.len=n:=by have:=s.2;omega
    have u:decide ((b:Int)=(e.ls.length:Int) - 1)=true:=fX f;simp only[g,j,k,u,i,dU,eF,fw,cM,bT,bZ,fq,reduceCtorEq,eP,aU,aJ,bs,p,iB,lU,jh,hX e.ft,eU,eB,w,q,bS,dE,e8,dH,bW,aN,aK];exact .some (.inr ⟨by simp,rfl,.inr ⟨rfl,by rw[← c];rfl⟩⟩)
   rw[bO ⟨g,j,k,s⟩]at c;have i:(b:Int)=(e.ls.length:Int) - 1→a.len=n:=λf=>by
    have:¬a.len<n:=λd=>s ⟨T.2 f,d⟩
    omega
   by_cases x:m<a.fj.length
   ·rw[bO x]at c;have t:(a.fj.length:Int)>m:=x;by_cases f:(b:Int)=(e.ls.length:Int) - 1
    ·replace i:=i f;have u:decide ((b:Int)=(e.ls.length:Int) - 1)=true:=fX f;have C:decide (¬a.len=n)=false:=g2 (λd=>d i);simp only[g,j,k,u,C,t,dU,eF,fw,cM,bT,bZ,fq,reduceCtorEq,eP,aU,aJ,bs,p,A,iB,lU,jh,hX e.ft,eU,eB,w,q,bS,dE,e8,dH,bW,aN,aK,gn,cO,y,BG];exact .some (.inr ⟨by simp,rfl,.inr ⟨rfl,by rw[← c];rfl⟩⟩)
    ·clear i;simp only[g,j,k,f,t,dU,eF,fw,cM,bT,bZ,fq,reduceCtorEq,eP,aU,aJ,bs,p,A,iB,lU,jh,hX e.ft,eU,eB,w,q,bS,dE,e8,dH,bW,aN,aK,gn,cO,y,BG];exact .some (.inr ⟨by simp,rfl,.inr ⟨rfl,by rw[← c];rfl⟩⟩)
   ·rw[cC x]at c;have t:¬(a.fj.length:Int)>m:=x;by_cases f:(b:Int)=(e.ls.length:Int) - 1
    ·replace i:=i f;have u:decide ((b:Int)=(e.ls.length:Int) - 1)=true:=fX f;have C:decide (¬a.len=n)=false:=g2 (λd=>d i);simp only[g,j,k,u,C,t,dU,eF,fw,cM,bT,bZ,fq,reduceCtorEq,eP,aU,aJ,bs,p,A,iB,lU,jh,hX e.ft,eU,eB,w,q,bS,dE,e8,dH,bW,aN,aK,gn,cO,y,BG];exact .some (.inl ⟨rfl,z - 1,by omega,rfl,_,_,_,_,_,_,b+1,rfl,by omega,c⟩)
    ·clear i;simp only[g,j,k,f,t,dU,eF,fw,cM,bT,bZ,fq,reduceCtorEq,eP,aU,aJ,bs,p,A,iB,lU,jh,hX e.ft,eU,eB,w,q,bS,dE,e8,dH,bW,aN,aK,gn,cO,y,BG];exact .some (.inl ⟨rfl,z - 1,by omega,rfl,_,_,_,_,_,_,b+1,rfl,by omega,c⟩)
  ·intro l;have l:e.ls.length≤b:=by
    have:¬(b:Int)<e.ls.length:=by simpa using l
    omega
   rw[kD l]at c;exact .some (.inr ⟨by simp,rfl,.inl ⟨rfl,c.symm⟩⟩)
 ·rintro⟨ai,D,o⟩ ⟨N,P⟩;simp only at N P;subst N;rcases P with⟨rfl,rfl⟩|⟨rfl,ae⟩
  ·simp only[dA,cN,bs,cP];exact .some rfl
  ·simp only[jQ,jG,jX,aW,bs,ae,cP];exact .some rfl
def jE(x y:aD × aD):Prop:=Op.bytesLess x.1 y.1=true
theorem G3{x y:aD × aD}(h:jE x y):ku x y:=by
 rw[vR];cases a:Op.bytesLess y.1 x.1
 ·rfl
 ·have:=sI h a;rw[q8]at this;cases this
theorem a2b{C:List (aD × aD)}(h:C.Pairwise jE):kb C=false:=by
 rw[wo (h.imp G3),List.Nodup,List.pairwise_map];exact h.imp λ{a b} c d=>by
  have:Op.bytesLess a.1 b.1=true:=c;rw[d,q8]at this;cases this
theorem a4U{l C:List (aD × aD)}(g:C.Perm l)(c:C.Pairwise jE)(h:l.length≤32)(f:l.all (λp=>ic p.1)=true):fJ l=(0,C):=by
 obtain⟨a,d⟩:=Q1 g (c.imp G3);have b:=a2b c;have e:¬32<l.length:=by omega
 rw[d b];rw[b]at a;simp only[fJ,e,aJ,f,aN,← a,aU]
theorem a4V{l:List (aD × aD)}(g:l.length≤32)(f:l.all (λp=>ic p.1)=true)(e:¬(l.map Prod.fst).Nodup):fJ l=(7,[]):=by
 obtain⟨b,c⟩:=Q5 l;have:kb (kP l)=true:=by
  cases a:kb (kP l)
  ·rw[wo c,(b.map Prod.fst).nodup_iff]at a;exact absurd a e
  ·rfl
 have d:¬32<l.length:=by omega
 simp only[fJ,d,aJ,f,aN,this]
theorem a0D(l:List (aD × aD))(d:D)(h:J)(w:aI 2 aM l d)(M:l.length≤32)(G:∀p∈l,p.1.length≤9223372036854775807){E:Type}{k:bK→Option E}{Q:E→Prop}(a b I K:D)
  (C:l.all (λp=>ic p.1)=true→∀x y z,Wp (k (.ext 0,[a,b,x,y,z],h)) Q) (k2:¬l.all (λp=>ic p.1)=true→∀x y z,Wp (k (.ret,[.aA,.int .i64 6,x,y,z],h)) Q) :
  Wp ((cA (um d) [a,b,.int .i64 0,I,K] h).bind k) Q:=by
 generalize F:l.all (λp=>ic p.1)=m at C k2;refine Wp.loop (λq n j=>j=h∧∃r s,∃c:Nat,n=[a,b,.int .i64 c,r,s]∧q+c=l.length∧(l.drop c).all (λp=>ic p.1)=m)
   (λx=>x.2.2=h∧((x.1 = .ext 0∧m=true∧∃p g i,x.2.1=[a,b,p,g,i])∨(x.1 = .ret∧m=false∧∃p g i,x.2.1=[.aA,.int .i64 6,p,g,i]))) l.length ⟨rfl,_,_,0,rfl,rfl,F⟩ ?_ ?_
 ·rintro q n j ⟨rfl,r,s,c,rfl,L,e⟩;simp only[um,aW,bL,bs,aL,hZ w,bS];refine Wp.dF ?_ ?_
  ·intro f;have f:c<l.length:=fe f;have B:l[c]?=some l[c]:=dG f;have H:=eR c (by omega);have v:=G l[c] (uB _);rw[hS f]at e;generalize l[c]=x at B e v;simp only[k7 w,jJ,aN,eQ,B,hU,bs,rB x,rC,QB x.1 j v,gB];simp only[w9]at e;cases A:ic x.1
   ·rw[A]at e;simp only[gb,aK,aN];exact .some (.inr ⟨by simp,rfl,.inr ⟨rfl,e.symm,_,_,_,rfl⟩⟩)
   ·rw[A]at e;simp only[fy,aK,aU,aJ,cO,bs,H];exact .some (.inl ⟨rfl,q - 1,by omega,rfl,_,_,c+1,rfl,by omega,e⟩)
  ·intro f;have f:l.length≤c:=by
    have:¬(c:Int)<l.length:=by simpa using f
    omega
   rw[kD f]at e;exact .some (.inr ⟨by simp,rfl,.inl ⟨rfl,e.symm,_,_,_,rfl⟩⟩)
 ·rintro⟨x,n,j⟩ ⟨t,u⟩;simp only at t u;subst t;rcases u with⟨rfl,o,p,g,i,rfl⟩|⟨rfl,o,p,g,i,rfl⟩
  ·exact C o _ _ _
  ·exact k2 (by rw[o];simp[-a7N]) _ _ _
theorem a0E(l:List (aD × aD))(d:D)(P:aI 2 aM l d)(G:List D)(i:Nat)(x:aD × aD)(af:l[i]?=some x)(X:Z 3 G = .int .i64 (i:Int))(a:List (aD × aD))(av:a.length≤1000)(e:Nat)(g:J)(R:g[e]?=some (.row bE 2 ((a++[x]).map aM)))(b:D){M:Type}{f:bK→Option M}{Q:M→Prop}
  (N:∀(k:Nat) (z:aD × aD) (g':J) (v:D),k≤a.length→g'[e]?=some (.row bE 2 ((a.take k++z::a.drop k).map aM))→bM e g g'→(k=0∨∃y,a[k - 1]?=some y∧¬jE x y)→(∀j y,k≤j→a[j]?=some y→jE x y)→Wp (f (.ext 4,[.int .i64 (k:Int),v],g')) Q) :
  Wp ((cA (se d G (.aZ 2 e 0 (a.length+1))) [.int .i64 (a.length:Int),b] g).bind f) Q:=by
 refine Wp.loop (λh u g'=>∃F z,u=[.int .i64 (h:Int),F]∧h≤a.length∧g'[e]?=some (.row bE 2 ((a.take h++z::a.drop h).map aM))∧bM e g g'∧∀j y,h≤j→a[j]?=some y→jE x y)
  (λs=>s.1 = .ext 4∧∃(k:Nat) (z:aD × aD) (v:D),s.2.1=[.int .i64 (k:Int),v]∧k≤a.length∧s.2.2[e]?=some (.row bE 2 ((a.take k++z::a.drop k).map aM))∧bM e g s.2.2∧(k=0∨∃y,a[k - 1]?=some y∧¬jE x y)∧(∀j y,k≤j→a[j]?=some y→jE x y)) a.length
  ⟨_,x,rfl,bB _,by rw[je,qb];exact R,.refl _ _,λj y ab m=>by have:=(bR.1 m).1;omega⟩ ?_ ?_
 ·rintro h u g' ⟨F,z,rfl,ad,n,sm,A⟩;have aa:aO tab bQ d (.int .i64 (i:Int))=some (.aE (aM x)):=by rw[k7 P];simp[-a7N,af]
  simp only[se,aW,bL,bs,aL,X,dE];by_cases O:h=0
  ·subst O;have t:decide (((0:Nat):Int)>0)=false:=g2 (by omega);simp only[t,bZ,fq,reduceCtorEq,aJ,aN,bs,bW,aU,aK];exact .some (.inr ⟨by simp,rfl,0,z,_,rfl,by omega,n,sm,.inl rfl,A⟩)
  ·obtain ⟨c,rfl⟩:∃c,h=c+1:=⟨h - 1,by omega⟩
   have t:decide (((c+1:Nat):Int)>0)=true:=fX (by omega);have E:IntKind.wrap .i64 (((c+1:Nat):Int) - 1)=(c:Int):=by rw[bJ (by omega) (by omega)];omega
   obtain⟨y,m⟩:∃y,a[c]?=some y:=⟨_,dG (by omega)⟩
   have H:(a.take (c+1)).length=c+1:=by simp;omega
   have I:((a.take (c+1)++z::a.drop (c+1)).map aM)[c]?=some (aM y):=by
    rw[eE,fg (by omega),gw,bO (by omega),m];rfl
   have ag:((a.take (c+1)++z::a.drop (c+1)).map aM)[c+1]?=some (aM z):=by
    rw[eE,hW _ _ z _ H];rfl
   have K:aO tab bQ (.aZ 2 e 0 (a.length+1)) (.int .i64 (c:Int))=some (.ptr e c 0):=by rw[mm,bO (by omega)];simp[-a7N]
   have ah:aO tab bQ (.aZ 2 e 0 (a.length+1)) (.int .i64 ((c+1:Nat):Int))=some (.ptr e (c+1) 0):=by rw[mm,bO (by omega)];simp[-a7N]
   have an:Y tab g' bH (.ptr e c 0)=some (.str y.1):=by rw[j1,dM n,I];rfl
   have ao:Y tab g' bE (.ptr e c 0)=some (.agg (aM y)):=by rw[ze,dM n,I];rfl
   simp only[t,bZ,aN,bs,eB,E,K,rA,an,aa,rB x,rC,HT,bW];by_cases o:jE x y
   ·have B:(!(Op.bytesLess y.1 x.1||y.1==x.1))=true:=by
      have q:Op.bytesLess x.1 y.1=true:=o;have w:Op.bytesLess y.1 x.1=false:=(vR x y).1 (G3 o);have r:(y.1==x.1)=false:=by
       cases C:(y.1==x.1)
       ·rfl
       ·rw[eq_of_beq C,q8]at q;cases q
      rw[w,r];rfl
    simp only[B,aK,aN,eB,E,K,ao,ah,bs,aL];refine nY (off:=0) n ag (by rfl) (by exact bB _) (by rfl) λau L ap=>?_
    have ae:((a.take (c+1)++z::a.drop (c+1)).map aM).set (c+1) (dZ (aM z) 0 (cX (.agg (aM y))))=(a.take c++y::a.drop c).map aM:=by
     rw[show dZ (aM z) 0 (cX (.agg (aM y)))=aM y from rfl,← j8,lY _ _ z y _ H,rp m,g9,m];simp[-a7N]
    rw[ae]at L
    try simp only[bs,eB,E]
    exact .some (.inl ⟨rfl,c,by omega,_,y,rfl,by omega,L,sm.trans ap,λj aq ab p=>by
     by_cases ac:j=c
     ·subst ac;rw[m]at p;injection p with p;subst p;exact o
     ·exact A j aq (by omega) p⟩)
   ·have B:(!(Op.bytesLess y.1 x.1||y.1==x.1))=false:=by
      by_cases r:y.1=x.1
      ·have:(y.1==x.1)=true:=by simpa using r
       rw[this];simp[-a7N]
      ·have q:Op.bytesLess x.1 y.1=false:=by
         cases C:Op.bytesLess x.1 y.1
         ·rfl
         ·exact absurd C o
       have w:=sH q (λT=>r T.symm);rw[w];rfl
    simp only[B,aK,aU,aJ];exact .some (.inr ⟨by simp,rfl,c+1,z,_,rfl,ad,n,sm,.inr ⟨y,by simpa using m,o⟩,A⟩)
 ·rintro⟨ar,u,g'⟩ ⟨rfl,k,z,v,rfl,ai,aj,ak,al,am⟩;exact N k z g' v ai aj ak al am
theorem a2a{x y z:aD × aD}(h:jE x y)(k:jE y z):jE x z:=sI h k
theorem Oy{b:List (aD × aD)}{y:aD × aD}{k:Nat}(h:b.Pairwise jE)(o:k=0∨∃z,b[k - 1]?=some z∧jE z y)(h2:∀j z,k≤j→b[j]?=some z→jE y z):(b.take k++y::b.drop k).Pairwise jE:=by
 rw[jd];have g:=h;rw[← h6 k b,jd]at g;have s:∀c∈b.take k,jE c y:=by
  intro c e;rcases o with rfl|⟨z,i,l⟩
  ·simp at e
  ·obtain⟨j,a⟩:=j7 e;rw[gw]at a;split at a
   ·rename_i u;by_cases p:j=k - 1
    ·subst p;rw[i]at a;injection a with a;subst a;exact l
    ·obtain⟨q,m⟩:=bR.1 a;obtain⟨r,n⟩:=bR.1 i;have:=om.1 h j (k - 1) q r (by omega);rw[m,n]at this;exact a2a this l
   ·cases a
 have t:∀d∈b.drop k,jE y d:=by
  intro d f;obtain⟨j,a⟩:=j7 f;rw[ko]at a;exact h2 (k+j) d (by omega) a
 refine⟨g.1,im.2 ⟨t,g.2.1⟩,λc e d f=>?_⟩;rcases fc.1 f with rfl|f
 ·exact s c e
 ·exact g.2.2 c e d f
theorem T7{l:List (aD × aD)}{i:Nat}{y z:aD × aD}(d:l[i]?=some y)(e:z∈l.take i)(c:z.1=y.1):¬(l.map Prod.fst).Nodup:=by
 intro a;have b:l=l.take i++y::l.drop (i+1):=by
  rw[← rp d,h6]
 rw[b,gL,fP,List.nodup_append]at a;exact a.2.2 z.1 (g8.2 ⟨z,e,rfl⟩) y.1 (by simp) c
theorem a3i(l:List (aD × aD))(d:D)(h:J)(v:aI 2 aM l d)(a4:∀p∈l,p.1.length≤9223372036854775807):∃d',R s6 [d] h=some (.bD [d',.int .i64 (fJ l).1],h)∧((fJ l).1=0→aI 2 aM (fJ l).2 d'):=by
 suffices Wp (R s6 [d] h) (λp=>p.2=h∧∃d',p.1 = .bD [d',.int .i64 (fJ l).1]∧((fJ l).1=0→aI 2 aM (fJ l).2 d')) by
  obtain⟨⟨j,bu⟩,C,rfl,d',rfl,T⟩:=this;exact⟨d',C,T⟩
 have ag:∀(g:J) (P:Int),h.length≤g.length→(∀e,e<h.length→g[e]?=h[e]?)→scope h g (.bD [.aA,.int .i64 P])=some (.bD [.aA,.int .i64 P],h):=λg P C T=>ff (by simp) (.bD _ λj H=>by
  simp only[fc,oj,k9]at H;rcases H with rfl|rfl
  ·exact .aA
  ·exact .int _ _) C T
 rw[Na];by_cases an:32<l.length
 ·have X:decide ((l.length:Int)>32)=true:=fX (by omega);have k:fJ l=(4,[]):=by simp only[fJ,an,aN]
  rw[k];simp only[wM,bs,aL,hZ v,dE,X,aK,aN,gp,ag h 4 (bB _) (λ_ _=>rfl)];exact .some ⟨rfl,.aA,rfl,λu=>by cases u⟩
 have X:decide ((l.length:Int)>32)=false:=g2 (by omega);simp only[wM,bs,aL,hZ v,dE,X,aK,aU,aJ];refine a0D l d h v (by omega) a4 _ _ _ _ (λN j b r=>?_) (λN j b r=>?_)
 case refine_2 =>
  have k:fJ l=(6,[]):=by simp only[fJ,an,aJ,N];rfl
  rw[k];simp only[jQ,jG,jX,aW,bL,bs,gp,ag h 6 (bB _) (λ_ _=>rfl)];exact .some ⟨rfl,.aA,rfl,λu=>by cases u⟩
 simp only[dA,cN,aW,bL,bs,aL];clear j b r;refine Wp.loop (λO s g=>h.length≤g.length∧(∀e,e<h.length→g[e]?=h[e]?)∧∃w x j y z A K,∃(i:Nat) (a:List (aD × aD)),s=[w,x,j,.int .i64 (i:Int),y,z,A,K]∧O+i=l.length∧aR g h.length bE 2 (a.map aM) j∧a.Perm (l.take i)∧a.Pairwise jE)
   (λf=>h.length≤f.2.2.length∧(∀e,e<h.length→f.2.2[e]?=h[e]?)∧((f.1 = .ext 2∧∃a:List (aD × aD),aR f.2.2 h.length bE 2 (a.map aM) (Z 2 f.2.1)∧fJ l=(0,a))∨(f.1 = .ret∧Z 0 f.2.1 = .aA∧Z 1 f.2.1 = .int .i64 7∧fJ l=(7,[])))) l.length
   ⟨bB _,λ_ _=>rfl,_,_,_,_,_,_,_,0,[],rfl,rfl,aR.aA _ _ _ _,by simp,List.Pairwise.nil⟩ ?_ ?_
 ·rintro O s g ⟨E,F,w,x,j,y,z,A,K,i,a,rfl,bw,I,G,k⟩;simp only[AN,aW,bL,bs,aL,hZ v,bS];refine Wp.dF ?_ ?_
  ·intro t;have t:i<l.length:=fe t;obtain⟨b,m⟩:=hq t;have au:=eR i (by omega);have bv:a.length=i:=by rw[G.length_eq,lq];omega
   have a9:dL tab bQ 1 [0] [.agg (aM b)]=some (.sl 2 true [aM b]):=id rfl;have ac:aO tab bQ d (.int .i64 (i:Int))=some (.aE (aM b)):=by rw[k7 v];simp[-a7N,m]
   simp only[GX I,fN,ac,bs,rD,a9,aL];refine wA E I (hC _ _ _ _) (by simp only[fN,g7,e6];omega) λb1 a2 az bz a1 _ _=>?_
   have bc:a.map aM++[aM b]=(a++[b]).map aM:=by simp
   rw[bc]at az;obtain⟨q,ba,rfl,a6⟩:=m5 az (i:=0) (by simp);have a7:((a++[b]).map aM).length=a.length+1:=by simp
   rw[a7]
   try simp only[bs]
   refine a0E l d v [w,x,j,.int .i64 (i:Int),y,z,A,K] i b m rfl a (by omega) q a2 a6 _ λc r bt P bx bn aw bo ax=>?_
   have ar:(a.take c).length=c:=by simp;omega
   have bk:((a.take c++r::a.drop c).map aM)[c]?=some (aM r):=by rw[eE,hW _ _ r _ ar];rfl
   have bl:aO tab bQ (.aZ 2 q 0 (a.length+1)) (.int .i64 (c:Int))=some (.ptr q c 0):=by rw[mm,bO (by omega)];simp[-a7N]
   simp only[dA,cN,bs,aW,bL,aL,ac,rD,bl];refine nY (off:=0) bn bk (by rfl) (by exact bB _) (by rfl) λB af a0=>?_
   rw[show dZ (aM r) 0 (cX (.agg (aM b)))=aM b from rfl,← j8,lY _ _ r b _ ar]at af;have a8:(a.take c++b::a.drop c).length=a.length+1:=by
    have:=fR List.length (h6 c a);simp only[bF,g7]at this ⊢;omega
   have bq:aR B h.length bE 2 ((a.take c++b::a.drop c).map aM) (.aZ 2 q 0 (a.length+1)) :=.inr ⟨q,ba,by rw[fN,a8],af⟩;have ao:h.length≤B.length:=by have:=a0.1;have:=aw.1;omega
   have ap:∀e,e<h.length→B[e]?=h[e]?:=λe M=>by rw[a0.2 e (by omega),aw.2 e (by omega),a1 e M];exact F e M
   have bb:(a.take c++b::a.drop c).Perm (l.take (i+1)):=by
    rw[g9,m,Ca];refine List.perm_middle.trans ?_;rw[h6];exact(List.Perm.cons b G).trans (by simpa using(BW (l₁:=[b]) (l₂:=l.take i)))
   have ay:(a.take c++b::a.drop c).Pairwise jE→∀(ah ai aj ak al am:D),(λf:bK=>(f.1 = .aQ∧∃av ,av<O∧h.length≤f.2.2.length∧(∀e,e<h.length→f.2.2[e]?=h[e]?)∧∃w x j y z A K,∃(i:Nat) (a:List (aD × aD)),f.2.1=[w,x,j,.int .i64 (i:Int),y,z,A,K]∧av+i=l.length∧aR f.2.2 h.length bE 2 (a.map aM) j∧a.Perm (l.take i)∧a.Pairwise jE)) (.aQ,[ah,ai,.aZ 2 q 0 (a.length+1),.int .i64 ((i+1:Nat):Int),aj,ak,al,am],B):=λbd ah ai aj ak al am=>⟨rfl,O - 1,by omega,ao,ap,_,_,_,_,_,_,_,i+1,_,rfl,by omega,bq,bb,bd⟩
   try simp only[bs,dE,aL]
   by_cases aq:c=0
   ·subst aq;have Q:decide (((0:Nat):Int)>0)=false:=g2 (by omega);simp only[Q,bZ,fq,reduceCtorEq,aJ,aN,bs,bW,aU,aK,cO,au];exact .some (.inl (ay (Oy k (.inl rfl) ax) _ _ _ _ _ _))
   ·obtain⟨o,ad,bh⟩:=bo.resolve_left aq;have Q:decide ((c:Int)>0)=true:=fX (by omega);have bf:IntKind.wrap .i64 ((c:Int) - 1)=((c - 1:Nat):Int):=by rw[bJ (by omega) (by omega)];omega
    have bm:aO tab bQ (.aZ 2 q 0 (a.length+1)) (.int .i64 ((c - 1:Nat):Int))=some (.ptr q (c - 1) 0):=by rw[mm,bO (by omega)];simp[-a7N]
    have bi:((a.take c++b::a.drop c).map aM)[c - 1]?=some (aM o):=by
     rw[eE,fg (by omega),gw,bO (by omega),ad];rfl
    have bp:Y tab B bH (.ptr q (c - 1) 0)=some (.str o.1):=by rw[j1,dM af,bi];rfl
    simp only[Q,bZ,aN,bs,eB,bf,bm,rA,bp,ac,rB b,rC,kc,bW];by_cases L:o.1=b.1
    ·have ab:(o.1==b.1)=true:=by simpa using L
     have bg:o∈l.take i:=G.mem_iff.1 (eW ad);have a5:=a4V (l:=l) (by omega) N (T7 m bg L);simp only[ab,aK,aN];exact .some (.inr ⟨by simp,ao,ap,.inr ⟨rfl,rfl,rfl,a5⟩⟩)
    ·have ab:(o.1==b.1)=false:=by simpa using L
     have bj:jE o b:=by
      have C:Op.bytesLess b.1 o.1=false:=by
       cases M:Op.bytesLess b.1 o.1
       ·rfl
       ·exact absurd M bh
      exact sH C (λu=>L u.symm)
     simp only[ab,aK,aU,aJ,cO,au,bs];exact .some (.inl (ay (Oy k (.inr ⟨o,ad,bj⟩) ax) _ _ _ _ _ _))
  ·intro t;have t:l.length≤i:=by
    have:¬(i:Int)<l.length:=by simpa using t
    omega
   rw[hN t]at G;exact .some (.inr ⟨by simp,E,F,.inl ⟨rfl,a,I,a4U G k (by omega) N⟩⟩)
 ·rintro ⟨br,s,g⟩ ⟨E,F,a3⟩;rcases a3 with⟨rfl,a,I,aa⟩|⟨rfl,n0,ae,aa⟩
  ·have k:=gS (n0:=h.length) (n:=2) I (bB _) λp _ b m=>by
     simp only[aM,fc,oj,k9]at m;rcases m with rfl|rfl<;>exact yS _ _ _ _
   have be:scope h g (.bD [Z 2 s,.int .i64 0])=some (.bD [cS h.length g 3 (Z 2 s),.int .i64 0],h):=by
    refine ff (by simp) (.bD _ λj H=>?_) E F;simp only[fc,oj,k9]at H;rcases H with rfl|rfl
    ·exact e7 k λp _ b m=>by
       simp only[aM,fc,oj,k9]at m;rcases m with rfl|rfl<;>exact .str _
    ·exact .int _ _
   simp only[dA,cN,bs,aW,bL,gp,be,aa];exact .some ⟨rfl,_,rfl,λ_=>k⟩
  ·replace n0:Z 0 s = .aA:=n0;replace ae:Z 1 s = .int .i64 7:=ae;simp only[jQ,jG,jX,aW,bL,bs,n0,ae,gp,ag g 7 E F,aa];exact .some ⟨rfl,.aA,rfl,λu=>by cases u⟩
theorem a0B(l:List (aD × aD))(d:D)(h:J)(v:aI 2 aM l d)(N:l.length≤1000){C:Type}{j:bK→Option C}{Q:C→Prop}(a K L:D)
  (B:(l.any λp=>decide (2000<p.2.length))=false→∀x y z,Wp (j (.ext 0,[a,x,y,z],h)) Q) (k2:(l.any λp=>decide (2000<p.2.length))=true→∀x y z,Wp (j (.ret,[.int .i64 3,x,y,z],h)) Q) :
  Wp ((cA (wL d) [a,.int .i64 0,K,L] h).bind j) Q:=by
 generalize F:(l.any λp=>decide (2000<p.2.length))=k at B k2;refine Wp.loop (λq m i=>i=h∧∃r s,∃b:Nat,m=[a,.int .i64 (b:Int),r,s]∧q+b=l.length∧((l.drop b).any λp=>decide (2000<p.2.length))=k)
   (λx=>x.2.2=h∧((x.1 = .ext 0∧k=false∧∃p f g,x.2.1=[a,p,f,g])∨(x.1 = .ret∧k=true∧∃p f g,x.2.1=[.int .i64 3,p,f,g]))) l.length ⟨rfl,_,_,0,rfl,rfl,F⟩ ?_ ?_
 ·rintro q m i ⟨rfl,r,s,b,rfl,M,c⟩;simp only[wL,aW,bL,bs,aL,hZ v,bS];refine Wp.dF ?_ ?_
  ·intro e;have e:b<l.length:=fe e;obtain⟨x,A⟩:=hq e;have H:=eR b (by omega);rw[rp A]at c;have G:aO tab bQ d (.int .i64 (b:Int))=some (.aE (aM x)):=by rw[k7 v];simp[-a7N,A]
   have E:aB tab bE 1 (.aE (aM x))=some (.aE [.str x.2]):=id rfl;have I:Y tab i bH (.aE [.str x.2])=some (.str x.2):=id rfl;simp only[G,E,I,bs,gn,dE];simp only[List.any_cons]at c;by_cases w:2000<x.2.length
   ·have n:(x.2.length:Int)>2000:=by omega
    simp only[w,cM,AA]at c;simp only[n,cM,aK,aN];exact .some (.inr ⟨by simp,rfl,.inr ⟨rfl,c.symm,_,_,_,rfl⟩⟩)
   ·have n:¬(x.2.length:Int)>2000:=by omega
    simp only[w,bT,ui]at c;simp only[n,bT,aK,aU,aJ,cO,bs,H];exact .some (.inl ⟨rfl,q - 1,by omega,rfl,_,_,b+1,rfl,by omega,c⟩)
  ·intro e;have e:l.length≤b:=by
    have:¬(b:Int)<l.length:=by simpa using e
    omega
   rw[kD e]at c;exact .some (.inr ⟨by simp,rfl,.inl ⟨rfl,c.symm,_,_,_,rfl⟩⟩)
 ·rintro⟨x,m,i⟩ ⟨t,u⟩;simp only at t u;subst t;rcases u with⟨rfl,o,p,f,g,rfl⟩|⟨rfl,o,p,f,g,rfl⟩
  ·exact B o _ _ _
  ·exact k2 o _ _ _
def qd(e:Ev):Prop:=∀a∈e.fs,a.1.length≤9223372036854775807
theorem a3e(e:Ev)(h:J)(I:qd e):R x5 [.agg (bG e)] h=some (.int .i64 (pq e),h):=by
 apply Wp.val;have L:aB tab aC 5 (.aE (bG e))=some (.aE [.int .i64 e.a5,.int .i64 e.a6,.str e.s7,.str e.s8,e.fd]):=id rfl;have M:aB tab aC 6 (.aE (bG e))=some (.aE [.int .i64 e.a6,.str e.s7,.str e.s8,e.fd]):=id rfl;have N:aB tab aC 7 (.aE (bG e))=some (.aE [.str e.s7,.str e.s8,e.fd]):=id rfl;have P:aB tab aC 8 (.aE (bG e))=some (.aE [.str e.s8,e.fd]):=id rfl;have Q:aB tab aC 9 (.aE (bG e))=some (.aE [e.fd]):=id rfl;have K:∀a,Y tab a bQ (.aE [e.fd])=some e.fd:=λa=>by
  have w:=fx e.gH;generalize e.fd=F at w;cases F<;>first|rfl|(simp[-a7N,D.one]at w)
 have x:∀a,Y tab a aC (.aE (bG e))=some (.agg (bG e)):=λa=>id rfl
 rw[M6];simp only[AH,gq,bs,aL,x,Qx,L,M,N,P,Q];unfold pq;by_cases b:gX e=true
 case neg =>
  have G:gX e=false:=by simpa using b
  simp only[G,aU,aJ,dH,dU,show ¬(2:Int)=0 by omega,fw,cM,bZ,fq,reduceCtorEq,eP,bs,bW,aN,aK,gb,AA,cP];exact .some rfl
 by_cases f:e.a5<0
 ·have c:¬0≤e.a5:=by omega
  simp only[b,f,c,aN,dH,dU,eF,cM,bT,bZ,fq,eU,bS,reduceCtorEq,eP,aU,aJ,bs,bW,aK,fy,l7,gb,Bool.or_true,cP];exact .some rfl
 have c:0≤e.a5:=by omega
 by_cases q:253402300799999<e.a5
 ·have g:¬e.a5≤253402300799999:=by omega
  simp only[b,f,c,q,g,aN,dH,dU,eF,cM,bT,bZ,fq,eU,bS,dE,reduceCtorEq,eP,aU,aJ,bs,bW,aK,fy,qZ,gb,Bool.or_true,cP,vC];exact .some rfl
 have g:e.a5≤253402300799999:=by omega
 simp only[b,f,c,q,g,aN,dH,dU,eF,cM,bT,bZ,fq,eU,bS,dE,reduceCtorEq,eP,aU,aJ,bs,bW,aK,fy,Bool.and_true,Bool.or_self,q0,vC,a3g,gB,aL];by_cases r:e.a6<1∨¬Int.tmod 5040 e.a6=0
 ·simp only[r,eF,bT,gb,aN,cP];exact .some rfl
 simp only[r,fw,cM,fy,aU,aJ,x,Qz,bs,dH,dU];generalize ab:ig e 2000=C;by_cases s:C=0
 case neg =>
  simp only[s,fw,cM,aN,cP];exact .some rfl
 subst s;simp only[eF,bT,aU,aJ,gW,gn,bs,dE,vC];by_cases i:32<e.s7.length
 ·have d:(32:Int)<(e.s7.length:Int):=by omega
  simp only[i,d,l3,cM,aN,bZ,fq,reduceCtorEq,aJ,eP,bs,bW,aK,cP];exact .some rfl
 have d:¬(32:Int)<(e.s7.length:Int):=by omega
 by_cases t:32<e.s8.length
 ·have j:(32:Int)<(e.s8.length:Int):=by omega
  simp only[i,d,t,j,o0,cM,bT,aN,bZ,aJ,aU,bs,gW,gn,dE,vC,bW,aK,cP];exact .some rfl
 have j:¬(32:Int)<(e.s8.length:Int):=by omega
 obtain⟨v,y,n⟩:=a3i e.fs e.fd h e.gH I;simp only[i,d,t,j,oZ,bT,aN,bZ,aJ,aU,bs,gW,gn,dE,vC,bW,aK,K,y,fU,fC,fV,dH,dU];have z:=Q0 e.fs;have l:(fJ e.fs).1=0→(fJ e.fs).2.length≤1000:=λH=>by
  unfold fJ at H ⊢;split
  ·simp[-a7N]
  ·split
   ·split
    ·simp[-a7N]
    ·simp only[Q4];omega
   ·simp[-a7N]
 generalize ac:fJ e.fs=E at y n z l;obtain⟨S,B⟩:=E;simp only at n z l ⊢;by_cases u:S=0
 case neg =>
  simp only[u,fw,cM,aN,cP];exact .some rfl
 subst u;have m:=n rfl;have A:=l rfl;simp only[eF,bT,aU,aJ,bs,HN B e.fs v e.fd h m e.gH (by omega),gB,aL];by_cases k:B=e.fs
 case neg =>
  simp only[k,bT,gb,aN,fw,cP];exact .some rfl
 simp only[k,cM,fy,aU,aJ,eF];rw[k]at m A;refine a0B e.fs v h m A _ _ _ (λo T X aa=>?_) (λo T X aa=>?_)
 ·simp only[dA,cN,bs,cP,o,aU,aJ];exact .some rfl
 ·simp only[jQ,jG,jX,aW,bs,cP,o,aN];exact .some rfl
theorem GZ(t m:Int):∀(l:List eV) (a:Int),jP t m a l=0∨jP t m a l=3∨jP t m a l=19
 |[],a =>.inl rfl
 | x::r,a=>by
  unfold jP;split
  ·split
   ·exact .inr (.inl rfl)
   ·exact GZ t m r _
  ·exact .inr (.inr rfl)
theorem Pn(t:Int):∀(l:List eV) (a:Int),(∀x∈l,x.fj.length≤20000)→jP t 20000 a l=jP t 60000 a l
 |[],a,_=>rfl
 | x::r,a,h=>by
  have g:=h x (by simp);have b:=Pn t r (IntKind.wrap .i64 (a+x.len)) λf e=>h f (by simp[-a7N,e])
  have c:¬(20000:Int)<(x.fj.length:Int):=by omega
  have d:¬(60000:Int)<(x.fj.length:Int):=by omega
  simp only[jP,b,c,d,aJ]
def GF(i:It):Int:=
 if i.r=[]then pq i.e
 else if 32<i.r.length then 3
 else if gX i.e=false then 2
 else if ig i.e 20000≠0∧ig i.e 20000≠3 then ig i.e 20000
 else if i.e.a5≠0∨i.e.a6≠0∨i.e.s7≠[]∨i.e.s8≠[]∨i.e.fs.length≠0∨(i.e.ls.any λa => !(a.fj==[]))=true then 19 else 0
theorem a0a(i:It):GF i=j0 i:=by
 unfold GF j0;by_cases a:i.r=[]
 ·simp only[a,aN]
 by_cases d:32<i.r.length
 ·simp only[a,d,aN,aJ]
 by_cases h:gX i.e=false
 ·simp only[a,d,h,aN,aJ]
 simp only[a,d,h,aJ];unfold ig;by_cases f:i.e.ls.length=0
 ·simp[-a7N,f]
 by_cases j:40<i.e.ls.length
 ·simp[-a7N,f,j]
 simp only[f,j,aJ];have n:=GZ i.e.a3 20000 i.e.ls i.e.a2;have b:=GZ i.e.a3 60000 i.e.ls i.e.a2;by_cases m:∀c∈i.e.ls,c.fj.length≤20000
 ·rw[Pn i.e.a3 i.e.ls i.e.a2 m];generalize jP i.e.a3 60000 i.e.a2 i.e.ls=o at b ⊢;rcases b with rfl|rfl|rfl<;>simp[-a7N]
 ·have l:(i.e.ls.any λg => !(g.fj==[]))=true:=by
    rw[BL];refine n4 λp=>m λc s=>?_
    refine n4 λk=>p ⟨c,s,?_⟩
    cases q:c.fj with
    |nil=>rw[q]at k;simp at k
    |cons u v=>rfl
  generalize (i.e.ls.any λg => !(g.fj==[]))=w at l ⊢;subst l;generalize jP i.e.a3 60000 i.e.a2 i.e.ls=o at b ⊢;generalize jP i.e.a3 20000 i.e.a2 i.e.ls=t at n ⊢;rcases b with rfl|rfl|rfl<;>rcases n with rfl|rfl|rfl<;>simp[-a7N]
theorem a0z(e:Ev)(h:J){w:Type}{k:bK→Option w}{Q:w→Prop}(a H I:D)
  (u:(e.ls.any λp => !(p.fj==[]))=false→∀x y z,Wp (k (.ext 0,[a,x,y,z],h)) Q) (k2:(e.ls.any λp => !(p.fj==[]))=true→∀x y z,Wp (k (.ret,[.int .i64 19,x,y,z],h)) Q) :
  Wp ((cA (wK (.aE (bG e))) [a,.int .i64 0,H,I] h).bind k) Q:=by
 have G:aB tab aC 4 (.aE (bG e))=some (.aE [e.ld,.int .i64 e.a5,.int .i64 e.a6,.str e.s7,.str e.s8,e.fd]):=id rfl;have L:=e.qB;generalize B:(e.ls.any λp => !(p.fj==[]))=l at u k2;refine Wp.loop (λo m j=>j=h∧∃v q,∃b:Nat,m=[a,.int .i64 (b:Int),v,q]∧o+b=e.ls.length∧((e.ls.drop b).any λp => !(p.fj==[]))=l)
   (λx=>x.2.2=h∧((x.1 = .ext 0∧l=false∧∃p g i,x.2.1=[a,p,g,i])∨(x.1 = .ret∧l=true∧∃p g i,x.2.1=[.int .i64 19,p,g,i]))) e.ls.length ⟨rfl,_,_,0,rfl,rfl,B⟩ ?_ ?_
 ·rintro o m j ⟨rfl,v,q,b,rfl,K,c⟩;simp only[wK,aW,bL,bs,aL,G,jh,hX e.ft,bS];refine Wp.dF ?_ ?_
  ·intro d;have d:b<e.ls.length:=fe d;obtain⟨x,t⟩:=hq d;have E:=eR b (by omega);rw[rp t]at c;have C:aO tab bU e.ld (.int .i64 (b:Int))=some (.aE (cR x)):=by rw[m0 e.ft];simp[-a7N,t]
   have A:aB tab dD 2 (.aE (cR x))=some (.aE [.str x.fj]):=id rfl;have F:Y tab j bH (.aE [.str x.fj])=some (.str x.fj):=id rfl;simp only[C,A,F,bs,ly];simp only[List.any_cons]at c;by_cases f:(x.fj==[])=true
   ·simp only[f,fy,ui]at c;simp only[f,fy,aK,aU,aJ,cO,bs,E];exact .some (.inl ⟨rfl,o - 1,by omega,rfl,_,_,b+1,rfl,by omega,c⟩)
   ·have f:(x.fj==[])=false:=by simpa using f
    simp only[f,gb,AA]at c;simp only[f,gb,aK,aN];exact .some (.inr ⟨by simp,rfl,.inr ⟨rfl,c.symm,_,_,_,rfl⟩⟩)
  ·intro d;have d:e.ls.length≤b:=by
    have:¬(b:Int)<e.ls.length:=by simpa using d
    omega
   rw[kD d]at c;exact .some (.inr ⟨by simp,rfl,.inl ⟨rfl,c.symm,_,_,_,rfl⟩⟩)
 ·rintro⟨x,m,j⟩ ⟨r,s⟩;simp only at r s;subst r;rcases s with⟨rfl,n,p,g,i,rfl⟩|⟨rfl,n,p,g,i,rfl⟩
  ·exact u n _ _ _
  ·exact k2 n _ _ _
theorem Hz(i:It)(h:J)(M:qd i.e):R qu [.agg (aT i)] h=some (.int .i64 (j0 i),h):=by
 rw[← a0a];apply Wp.val;have N:gM 10 (.agg (bG i.e))=some (.aE (bG i.e)):=nB 10 _ rfl;have Q:aB tab aC 5 (.aE (bG i.e))=some (.aE [.int .i64 i.e.a5,.int .i64 i.e.a6,.str i.e.s7,.str i.e.s8,i.e.fd]):=id rfl;have b:aB tab aC 6 (.aE (bG i.e))=some (.aE [.int .i64 i.e.a6,.str i.e.s7,.str i.e.s8,i.e.fd]):=id rfl;have d:aB tab aC 7 (.aE (bG i.e))=some (.aE [.str i.e.s7,.str i.e.s8,i.e.fd]):=id rfl;have g:aB tab aC 8 (.aE (bG i.e))=some (.aE [.str i.e.s8,i.e.fd]):=id rfl;have t:aB tab aC 9 (.aE (bG i.e))=some (.aE [i.e.fd]):=id rfl;rw[M5];simp only[AE,gq,bs,aL,pG,pH,pJ,kJ,N,kc,cP];unfold GF;by_cases k:i.r=[]
 ·simp only[k,lr,aK,aN,a3e i.e h M,bs];exact .some rfl
 have C:(i.r==[])=false:=by simpa using k
 simp only[k,C,aK,aU,aJ,gn,bs,dE];by_cases u:32<i.r.length
 ·have l:(i.r.length:Int)>32:=by omega
  simp only[u,l,cM,aN];exact .some rfl
 have l:¬(i.r.length:Int)>32:=by omega
 simp only[u,l,bT,aU,aJ,Qx,bs,dH,dU];by_cases v:gX i.e=true
 case neg =>
  have E:gX i.e=false:=by simpa using v
  simp only[E,aU,aJ,show ¬(2:Int)=0 by omega,fw,cM,aK,aN];exact .some rfl
 simp only[v,aN,eF,bT,aK,aU,eP,aJ,Qz,bs,dH,dU];generalize ig i.e 20000=a;by_cases m:a≠0∧a≠3
 ·obtain⟨G,H⟩:=m;simp only[dU,G,H,fw,cM,bZ,aN,bs,bW,aK,jq,dH];exact .some rfl
 have F:decide (¬a=0)=true→decide (¬a=3)=false:=by
  intro s;have s:¬a=0:=by simpa using s
  by_cases A:a=3
  ·simp[-a7N,A]
  ·exact absurd ⟨s,A⟩ m
 rw[cC (by simpa[-a7N,dU]using m)];have step:∀(j:D→Option (D × J)),((W (.bool (decide (¬a=0))) true (some (.int .i64 a))).bind λT=>(W (.bool (decide (¬a=0))) true (O tab .neq hz T (.int .i64 3))).bind λX=>(cV (.bool (decide (¬a=0))) X (.bool false)).bind j)=j (.bool false):=by
  intro j;cases P:decide (¬a=0)with
  |false=>simp only[bZ,aU,aJ,reduceCtorEq,bs,bW]
  |true=>simp only[bZ,aN,bs,dH,dU,F P,bW]
 rw[step];simp only[aK,aU,aJ,Q,b,d,g,t,eU,gW,lW,bs,dH,ly,hZ i.e.gH,aL,dU];have B:(i.e.fs.length:Int)=0↔i.e.fs.length=0:=by omega
 by_cases w:¬i.e.a5=0
 ·simp only[w,fw,l3,cM,bZ,fq,reduceCtorEq,aN,eP,aJ,bs,bW,aK];exact .some rfl
 have c:i.e.a5=0:=j5.1 w;by_cases x:¬i.e.a6=0
 ·simp only[c,x,eF,fw,l3,mV,cM,bT,bZ,fq,b,eU,dH,dU,reduceCtorEq,aN,eP,aU,aJ,bs,bW,aK];exact .some rfl
 have f:i.e.a6=0:=j5.1 x;by_cases o:¬i.e.s7=[]
 ·have I:(i.e.s7==[])=false:=by simpa using o
  simp only[c,f,o,I,eF,fw,l3,mV,cM,bT,bZ,fq,b,d,eU,gW,dH,ly,dU,gb,reduceCtorEq,aN,eP,aU,aJ,bs,bW,aK];exact .some rfl
 have n:i.e.s7=[]:=j5.1 o;by_cases p:¬i.e.s8=[]
 ·have K:(i.e.s8==[])=false:=by simpa using p
  simp only[c,f,n,p,K,eF,fw,l3,mV,cM,bT,bZ,fq,b,d,g,eU,gW,dH,ly,dU,lr,fy,gb,reduceCtorEq,aN,eP,aU,aJ,bs,bW,aK];exact .some rfl
 have y:i.e.s8=[]:=j5.1 p;by_cases z:¬i.e.fs.length=0
 ·simp only[c,f,n,y,z,B,eF,fw,l3,mV,cM,bT,bZ,fq,b,d,g,t,eU,gW,lW,hZ i.e.gH,dH,ly,dU,lr,fy,gb,reduceCtorEq,aN,eP,aU,aJ,bs,bW,aK];exact .some rfl
 have L:i.e.fs.length=0:=j5.1 z;simp only[c,f,n,y,L,B,eF,mV,bT,bZ,fq,b,d,g,t,eU,gW,lW,hZ i.e.gH,dH,ly,dU,lr,fy,reduceCtorEq,aN,aU,aJ,bs,bW,aK];refine a0z i.e h _ _ _ (λq aa ab ac=>?_) (λq aa ab ac=>?_)
 ·simp only[dA,cN,bs,cP,q,aU,aJ];exact .some rfl
 ·simp only[jQ,jG,jX,aW,bs,cP,q,aN];exact .some rfl
theorem Cr{l:List Int}{d:D}(b:aI 1 aY l d)(n0:Nat)(h:J)(n:Nat):cS n0 h (n+1) d=d:=iJ b λa _ e c=>nC n0 h n a e c
theorem Cs{l:List Int}{d:D}(b:aI 1 aY l d)(n:Nat):Ok n d:=e7 b λc _ e a=>by
 simp only[aY,np]at a;subst a;constructor
def j9(B:List Int)(d:D)(s:cU)(x:D):Prop:=∃a:Nat,x = .agg [d,.int .i64 a,.bool (!s.2)]∧a≤B.length∧B.drop a=s.1
structure M2 (h g:J) (T1 z1 T2 z2:Nat) (a b:List D):Prop where
 ha:g[h.length]?=some (.row T1 z1 [a])
 hb:g[h.length+1]?=some (.row T2 z2 [b])
 hl:h.length+2≤g.length
 lo:∀q,q<h.length→g[q]?=h[q]?
theorem M2.new(h:J)(c d e f:Nat)(a b:List D):M2 h (aG (aG h c d [a]) e f [b]) c d e f a b:=by
 have hl:(aG h c d [a]).length=h.length+1:=by simp[-a7N,aG]
 refine⟨?_,?_,by simp[-a7N,aG],λi g=>?_⟩
 ·rw[eT _ _ _ _ (by omega)];exact fO _ _ _ _
 ·rw[← hl];exact fO _ _ _ _
 ·rw[eT _ _ _ _ (by omega),eT _ _ _ _ g]
theorem M2.cL{h g g':J}{e i f j:Nat}{a b:List D}(M:M2 h g e i f j a b)(hl:g.length≤g'.length)(d:∀c,c<g.length→g'[c]?=g[c]?):M2 h g' e i f j a b:=by
 have l:=M.hl;exact⟨by rw[d _ (by omega)];exact M.ha,by rw[d _ (by omega)];exact M.hb,by omega,λc k=>by rw[d c (by omega)];exact M.lo c k⟩
theorem M2.qQ{h g g':J}{c d e i:Nat}{a b x:List D}(M:M2 h g c d e i a b)(p:g'[h.length]?=some (.row c d [x]))(s:bM h.length g g'):M2 h g' c d e i x b:=
 ⟨p,by rw[s.2 _ (by omega)];exact M.hb,by rw[s.1];exact M.hl,λf j=>by rw[s.2 f (by omega)];exact M.lo f j⟩
theorem M2.wq{h g g':J}{e i c d:Nat}{a b x:List D}(M:M2 h g e i c d a b)(p:g'[h.length+1]?=some (.row c d [x]))(s:bM (h.length+1) g g'):M2 h g' e i c d a x:=
 ⟨by rw[s.2 _ (by omega)];exact M.ha,p,by rw[s.1];exact M.hl,λf j=>by rw[s.2 f (by omega)];exact M.lo f j⟩
theorem jk{g:J}{n:Nat}{d x y:D}(h:g[n]?=some (.row bI 3 [[d,x,y]])):Y tab g aP (.ptr n 0 (0+0))=some d∧Y tab g U (.ptr n 0 (0+1))=some x∧Y tab g iZ (.ptr n 0 (0+2))=some y∧Y tab g bI (.ptr n 0 0)=some (.agg [d,x,y]):=by
 refine⟨?_,?_,?_,?_⟩
 ·rw[zf,dM h];rfl
 ·rw[iC,dM h];rfl
 ·rw[O2,dM h];rfl
 ·rw[a1h,dM h];rfl
theorem my{g:J}{n T:Nat}{a b c x y z:D}(h:g[n]?=some (.row T 3 [[a,b,c]])){d:Type}{f:J→Option d}{Q:d→Prop}(k:∀g',g'[n]?=some (.row T 3 [[x,y,z]])→bM n g g'→Wp (f g') Q):Wp ((aS tab g bI (.ptr n 0 0) (.agg [x,y,z])).bind f) Q:=
 a6V (kk:=0) (row:=[a,b,c]) h rfl rfl (by simp) rfl λg' e i=>k g' e i
theorem Qa{g:J}{n T:Nat}{a b c:D}{v:Bool}(h:g[n]?=some (.row T 3 [[a,b,c]])){d:Type}{f:J→Option d}{Q:d→Prop}(k:∀g',g'[n]?=some (.row T 3 [[a,b,.bool v]])→bM n g g'→Wp (f g') Q):Wp ((aS tab g iZ (.ptr n 0 (0+2)) (.bool v)).bind f) Q:=
 Iy (kk:=0) (row:=[a,b,c]) h rfl rfl (by simp) rfl λg' e i=>k g' e i
theorem P9{g:J}{n T:Nat}{a b c:D}{v:Int}(h:g[n]?=some (.row T 3 [[a,b,c]])){d:Type}{f:J→Option d}{Q:d→Prop}(k:∀g',g'[n]?=some (.row T 3 [[a,.int .i64 v,c]])→bM n g g'→Wp (f g') Q):Wp ((aS tab g U (.ptr n 0 (0+1)) (.int .i64 v)).bind f) Q:=
 lJ (kk:=0) (row:=[a,b,c]) h rfl rfl (by simp) rfl λg' e i=>k g' e i
theorem wb{h g:J}{B:List Int}{d:D}(e:aI 1 aY B d){n:Nat}{b:Bool}{v:D}(l:∀m k,cS m g (k+1) v=v)(i:Ok h.length v)(j:h.length≤g.length)(f:∀c,c<h.length→g[c]?=h[c]?):scope h g (.bD [.agg [d,.int .i64 n,.bool b],v])=some (.bD [.agg [d,.int .i64 n,.bool b],v],h):=by
 refine ff ?_ ?_ j f
 ·simp[-a7N,Cr e,l]
 ·refine .bD _ λo a=>?_
  simp at a;rcases a with rfl|rfl
  ·refine .agg _ λo a=>?_
   simp at a;rcases a with rfl|rfl|rfl
   ·exact Cs e _
   ·constructor
   ·constructor
  ·exact i
theorem tR {B:List Int} {d x:D} {s:cU} (h:J) (u:aI 1 aY B d) (a0:B.length≤1000000000) (P:∀z∈B,U8 z) (ap:j9 B d s x) (n:Nat) (a3:n≤8):∃e,R lD [x,.int .i64 n] h=some (.bD [e,.int .u64 (num (dJ s n).1)],h)∧j9 B d (dJ s n).2 e:=by
 suffices Wp (R lD [x,.int .i64 n] h) (λt=>t.2=h∧∃e,t.1 = .bD [e,.int .u64 (num (dJ s n).1)]∧j9 B d (dJ s n).2 e) by
  obtain⟨⟨p,k⟩,af,rfl,e,rfl,ag⟩:=this;exact⟨e,af,ag⟩
 obtain⟨c,rfl,ah,r⟩:=ap;have ak:(aG h bI 3 [[d,.int .i64 c,.bool (!s.2)]]).length=h.length+1:=by simp[-a7N,aG]
 have q:=M2.new h bI 3 bI 3 [d,.int .i64 c,.bool (!s.2)] [.aA,.int .i64 0,.bool false];rw[Vp];simp only[Kl,lj bI 3 h [d,.int .i64 c,.bool (!s.2)] rfl (by omega),bs,aL,ak];generalize aG (aG h bI 3 [[d,.int .i64 c,.bool (!s.2)]]) bI 3 [[.aA,.int .i64 0,.bool false]]=w at *;obtain⟨T,E,ar,a6⟩:=jk q.ha;have ay:IntKind.wrap .i64 ((B.length:Int) - c)=(B.length:Int) - c:=bJ (by omega) (by omega);have a5:(s.1.length:Int)=(B.length:Int) - c:=by rw[← r];simp[-a7N];omega
 simp only[xS,uY,sZ,ar,gB,bs,Az];have M:∀b:Bool,s=(s.1,b)→((dJ s n).1=[]∧(dJ s n).2=(s.1,true))→Wp ((aS tab w iZ (.ptr h.length 0 (0+2)) (.bool false)).bind λk=>(Y tab k bI (.ptr h.length 0 0)).bind λaw=>(aS tab k bI (.ptr (h.length+1) 0 0) aw).bind λk=>(Y tab k bI (.ptr (h.length+1) 0 0)).bind λd=>scope h k (aF [d,.int .u64 0])) (λt=>t.2=h∧∃e,t.1 = .bD [e,.int .u64 (num (dJ s n).1)]∧j9 B d (dJ s n).2 e):=by
  intro b _ ⟨av,aa⟩;refine Qa q.ha λad G K=>?_
  have g:=q.qQ G K;simp only[(jk g.ha).2.2.2,bs];refine my g.hb λae H L=>?_
  have i:=g.wq H L;simp only[(jk i.hb).2.2.2,bs,gp];rw[wb u (by simp) (by constructor) (by have:=i.hl;omega) i.lo];exact .some ⟨rfl,_,by rw[av];rfl,c,by rw[aa];rfl,ah,by rw[aa];exact r⟩
 cases m:s.2 with
 | true =>
  simp only[bZ,aN,reduceCtorEq,eP,aJ,bs,bW,aK,fy,gb];have j:dJ s n=([],(s.1,true)):=by unfold dJ;rw[bO (.inl m)]
  exact M true (by rw[← m]) ⟨by rw[j],by rw[j]⟩
 | false =>
  simp only[bZ,aN,T,E,fm u,eB,ay,bS,bs,bW,aK,fy,gb,aU,aJ];by_cases N:(B.length:Int) - c<n
  ·simp only[N,cM,aN];have j:dJ s n=([],(s.1,true)):=by unfold dJ;rw[bO (.inr (.inr (by omega)))]
   exact M false (by rw[← m]) ⟨by rw[j],by rw[j]⟩
  ·simp only[N,bT,aU,aJ];have j:dJ s n=(s.1.take n,(s.1.drop n,false)):=by unfold dJ;rw[cC (by rw[m];simp[-a7N];omega),eQ]
   rw[j];have a2:n≤s.1.length:=by omega
   refine Wp.loop (λC v y=>y=w∧∃p,∃a:Nat,v=[.int .u64 (num (s.1.take a)),.int .i64 a,p]∧C+a=n) (λI=>I.1 = .ext 0∧I.2.2=w∧∃p z,I.2.1=[.int .u64 (num (s.1.take n)),p,z]) n ⟨rfl,_,0,rfl,rfl⟩ ?_ ?_
   ·rintro C v y ⟨rfl,p,a,rfl,a1⟩;simp only[Km,aW,bL,bs,aL,bS];refine Wp.dF ?_ ?_
    ·intro l;have l:a<n:=fe l;obtain⟨z,f⟩:∃z,s.1[a]?=some z:=⟨_,dG (by omega)⟩
     have Q:B[c+a]?=some z:=by rw[← r,ko]at f;exact f
     have aq:=P z (eW Q);have ao:=eR a (by omega);have A:IntKind.wrap .i64 ((c:Int)+(a:Int))=((c+a:Nat):Int):=by
      rw[bJ (by omega) (by omega)];omega
     unfold U8 at aq;have an:∀z∈s.1,U8 z:=λz f=>P z (by rw[← r]at f;exact fM f)
     obtain⟨am,a4⟩:=nR a (s.1.take a) (by simp;omega) λz f=>an z (fG f)
     have m:num (s.1.take a)<72057594037927936:=by
      have:a=0∨a=1∨a=2∨a=3∨a=4∨a=5∨a=6∨a=7:=by omega
      rcases this with rfl|rfl|rfl|rfl|rfl|rfl|rfl|rfl<;>omega
     have au:min ((8:Int).toNat) IntKind.u64.bits=8:=by decide
     have o:(2:Int) ^ 8=256:=by decide
     have ab:IntKind.wrap .u64 (num (s.1.take a)*2 ^ 8)=num (s.1.take a)*2 ^ 8:=by rw[o];exact iF (by omega) (by omega)
     have ax:IntKind.wrap .u64 z=z:=iF (by omega) (by omega);have ac:=zC (x:=num (s.1.take a)) (b:=z) 8 am (by omega) (by rw[o];omega) (by rw[o];omega);have aj:∀F:Nat,B[F]?=some z→aO tab aP d (.int .i64 (F:Int))=some (.aE (aY z)):=λF al=>by rw[kh u];simp[-a7N,al]
     have ai:=aj _ Q;rw[o,← tF f]at ac;rw[o]at ab;simp only[xS,uY,T,E,cO,A,ai,rb,bs,uR,show ¬(8:Int)<0 by omega,aJ,au,o,ab,uP,ax,uQ,ac,ao];exact .some (.inl ⟨rfl,C - 1,by omega,rfl,_,a+1,rfl,by omega⟩)
    ·intro l;have l:a=n:=by
      have:¬(a:Int)<n:=by simpa using l
      omega
     subst l;exact .some (.inr ⟨by simp,rfl,rfl,_,_,rfl⟩)
   ·rintro⟨az,v,y⟩ ⟨rfl,X,p,z,rfl⟩;simp only at X;subst X;have A:IntKind.wrap .i64 ((c:Int)+(n:Int))=((c+n:Nat):Int):=by
     rw[bJ (by omega) (by omega)];omega
    simp only[dA,cN,bs,aW,uY,E,cO,A];refine P9 q.ha λad G K=>?_
    have g:=q.qQ G K;simp only[(jk g.ha).2.2.2,bs];refine my g.hb λae H L=>?_
    have i:=g.wq H L;simp only[(jk i.hb).2.2.2,bs,gp];rw[wb u (by simp) (by constructor) (by have:=i.hl;omega) i.lo];exact .some ⟨rfl,_,rfl,c+n,by rw[m],by omega,by rw[← r,mF]⟩
theorem a4e{B:List Int}{d x:D}{s:cU}(h:J)(j:aI 1 aY B d)(p:B.length≤1000000000)(u:∀z∈B,U8 z)(k:j9 B d s x):∃a,R mj [x] h=some (.bD [a,.int .i64 (cQ s).1],h)∧j9 B d (cQ s).2 a:=by
 suffices Wp (R mj [x] h) (λl=>l.2=h∧∃a,l.1 = .bD [a,.int .i64 (cQ s).1]∧j9 B d (cQ s).2 a) by
  obtain⟨⟨T,I⟩,n,rfl,a,rfl,o⟩:=this;exact⟨a,n,o⟩
 have v:=k;obtain⟨b,rfl,K,L⟩:=k;have r:(aG h bI 3 [[d,.int .i64 b,.bool (!s.2)]]).length=h.length+1:=by simp[-a7N,aG]
 have c:=M2.new h bI 3 bI 3 [d,.int .i64 b,.bool (!s.2)] [.aA,.int .i64 0,.bool false];rw[Vr];simp only[Ko,lj bI 3 h [d,.int .i64 b,.bool (!s.2)] rfl (by omega),bs,aL,r];generalize aG (aG h bI 3 [[d,.int .i64 b,.bool (!s.2)]]) bI 3 [[.aA,.int .i64 0,.bool false]]=i at *;obtain⟨M,N,P,w⟩:=jk c.ha;obtain⟨Q,g,C⟩:=tR i j p u v 8 (by omega);obtain⟨m,rfl,q,t⟩:=C;have g:R lD [.agg [d,.int .i64 b,.bool (!s.2)],.int .i64 8] i=_:=g;simp only[w,bs,g,fU,fC,fV];refine my c.ha λG y E=>?_
 have e:=c.qQ y E;simp only[(jk e.ha).2.2.2,nE,bs];refine my e.hb λH A F=>?_
 have f:=e.wq A F;simp only[(jk f.hb).2.2.2,bs,gp];rw[wb j (by simp) (by constructor) (by have:=f.hl;omega) f.lo];exact .some ⟨rfl,_,rfl,m,rfl,q,t⟩
theorem GV{s:cU}(c:∀z∈s.1,U8 z):(dI s).1=num (dJ s 4).1∧0≤num (dJ s 4).1∧num (dJ s 4).1<4294967296:=by
 have a:=Aa c 4;have g:(dJ s 4).1.length≤4:=z8 s 4;obtain⟨d,e⟩:=nR _ _ rfl a.1;have f:num (dJ s 4).1<4294967296:=by
  have b:(dJ s 4).1.length=0∨(dJ s 4).1.length=1∨(dJ s 4).1.length=2∨(dJ s 4).1.length=3∨(dJ s 4).1.length=4:=by omega
  rcases b with h|h|h|h|h<;>rw[h]at e<;>omega
 exact⟨bJ (by omega) (by omega),d,f⟩
theorem a4d{B:List Int}{d x:D}{s:cU}(h:J)(m:aI 1 aY B d)(T:B.length≤1000000000)(C:∀z∈B,U8 z)(E:j9 B d s x):∃e,R nK [x] h=some (.bD [e,.str ((dK s).1.getD [])],h)∧j9 B d (dK s).2 e:=by
 suffices Wp (R nK [x] h) (λo=>o.2=h∧∃e,o.1 = .bD [e,.str ((dK s).1.getD [])]∧j9 B d (dK s).2 e) by
  obtain⟨⟨a4,g⟩,P,rfl,e,rfl,Q⟩:=this;exact⟨e,P,Q⟩
 have ad:=E;obtain⟨k,rfl,ax,ab⟩:=E;have ac:∀z∈s.1,U8 z:=λz F=>C z (by rw[← ab]at F;exact fM F)
 have aa:(aG h bI 3 [[d,.int .i64 k,.bool (!s.2)]]).length=h.length+1:=by simp[-a7N,aG]
 have p:=M2.new h bI 3 bI 3 [d,.int .i64 k,.bool (!s.2)] [.aA,.int .i64 0,.bool false];rw[Vq];simp only[Kn,lj bI 3 h [d,.int .i64 k,.bool (!s.2)] rfl (by omega),bs,aL,aa];generalize aG (aG h bI 3 [[d,.int .i64 k,.bool (!s.2)]]) bI 3 [[.aA,.int .i64 0,.bool false]]=y at *;obtain⟨a0,a1,a2,ah⟩:=jk p.ha;obtain⟨a3,l,al⟩:=tR y m T C ad 4 (by omega);obtain⟨c,rfl,X,i⟩:=al;have l:R lD [.agg [d,.int .i64 k,.bool (!s.2)],.int .i64 4] y=_:=l;obtain⟨G,H,aj⟩:=GV ac;have jN:dJ s ((4:Nat):Int)=dJ s 4:=rfl;rw[jN]at l i;have g4:(dJ s 4).2=(dI s).2:=rfl;rw[g4]at l i;simp only[ah,bs,l,fU,fC,fV];rw[← G]at H aj;rw[← G];refine my p.ha λL ak am=>?_
 have j:=p.qQ ak am;obtain⟨ae,af,ag,az⟩:=jk j.ha;unfold dK;generalize (dI s).2=b at *;generalize (dI s).1=av at *;obtain⟨a,rfl⟩:=lM H;have aq:IntKind.wrap .i64 ((B.length:Int) - c)=(B.length:Int) - c:=bJ (by omega) (by omega);have au:IntKind.wrap .u64 ((B.length:Int) - c)=(B.length:Int) - c:=iF (by omega) (by omega);have ar:IntKind.wrap .i64 (a:Int)=(a:Int):=bJ (by omega) (by omega);have ap:IntKind.wrap .i64 ((c:Int)+(a:Int))=((c+a:Nat):Int):=by
  rw[bJ (by omega) (by omega)];omega
 have ay:(b.1.length:Int)=(B.length:Int) - c:=by rw[← i];simp[-a7N];omega
 simp only[xS,uY,sZ,ag,gB,bs,Az];have w:dJ b a=([],(b.1,true))→Wp ((aS tab L iZ (.ptr h.length 0 (0+2)) (.bool false)).bind λg=>(Y tab g bI (.ptr h.length 0 0)).bind λao=>(aS tab g bI (.ptr (h.length+1) 0 0) ao).bind λg=>(Y tab g bI (.ptr (h.length+1) 0 0)).bind λd=>scope h g (aF [d,.str []])) (λo=>o.2=h∧∃e,o.1 = .bD [e,.str ((if(dJ b a).2.2=true then((none:Option aD),(dJ b a).2)else(some (lu (dJ b a).1),(dJ b a).2)).1.getD [])]∧j9 B d (if(dJ b a).2.2=true then((none:Option aD),(dJ b a).2)else(some (lu (dJ b a).1),(dJ b a).2)).2 e):=by
  intro an;rw[an];simp only[aN];refine Qa j.ha λM r u=>?_
  have M2:=j.qQ r u;simp only[(jk M2.ha).2.2.2,bs];refine my M2.hb λN t v=>?_
  have f:=M2.wq t v;simp only[(jk f.hb).2.2.2,bs,gp];rw[wb m (by simp) (by constructor) (by have:=f.hl;omega) f.lo];exact .some ⟨rfl,_,rfl,c,rfl,X,i⟩
 cases q:b.2 with
 | true =>
  simp only[bZ,aN,reduceCtorEq,eP,aJ,bs,bW,aK,fy,gb];have n:dJ b a=([],(b.1,true)):=by unfold dJ;rw[bO (.inl q)]
  exact w n
 | false =>
  simp only[bZ,aN,ae,af,fm m,eB,aq,lx,au,dE,bs,bW,aK,fy,gb,aU,aJ];by_cases A:(a:Int)>(B.length:Int) - c
  ·simp only[A,cM,aN];have n:dJ b a=([],(b.1,true)):=by unfold dJ;rw[bO (.inr (.inr (by omega)))]
   exact w n
  ·simp only[A,bT,aU,aJ];have n:dJ b a=(b.1.take a,(b.1.drop a,false)):=by unfold dJ;rw[cC (by rw[q];simp[-a7N];omega),eQ]
   rw[n];obtain⟨aw,K,I⟩:=qj m c (c+a) (by omega) (by omega);have ai:(B.take (c+a)).drop c=b.1.take a:=by rw[← i,od];congr 1;omega
   rw[ai]at I;simp only[nE,ar,cO,ap,K,Am I,bs,aU,aJ];refine P9 j.ha λM r u=>?_
   have M2:=j.qQ r u;simp only[(jk M2.ha).2.2.2,bs];refine my M2.hb λN t v=>?_
   have f:=M2.wq t v;simp only[(jk f.hb).2.2.2,bs,gp];rw[wb m (by simp) (by constructor) (by have:=f.hl;omega) f.lo];exact .some ⟨rfl,_,rfl,c+a,by rw[q],by omega,by rw[← i,mF]⟩
def gY(B:List Int)(d:D)(g:J)(o:Nat)(s:cU):Prop:=∃a:Nat,g[o]?=some (.row bI 3 [[d,.int .i64 a,.bool (!s.2)]])∧a≤B.length∧B.drop a=s.1
theorem gY.cL{B:List Int}{d:D}{g g':J}{o:Nat}{s:cU}(C:gY B d g o s)(h:g'[o]?=g[o]?):gY B d g' o s:=by
 obtain⟨c,a,b⟩:=C;exact⟨c,by rw[h];exact a,b⟩
theorem gY.lt{B:List Int}{d:D}{g:J}{o:Nat}{s:cU}(C:gY B d g o s):o<g.length:=by
 obtain⟨c,a,b⟩:=C;exact(bR.1 a).1
theorem gY.ok{B:List Int}{d:D}{g:J}{o:Nat}{s:cU}(C:gY B d g o s):Y tab g iZ (.ptr o 0 (0+2))=some (.bool (!s.2)):=by
 obtain⟨c,a,b⟩:=C;exact(jk a).2.2.1
theorem gY.all{B:List Int}{d:D}{g:J}{o:Nat}{s:cU}(C:gY B d g o s):∃x,Y tab g bI (.ptr o 0 0)=some x∧j9 B d s x:=by
 obtain⟨c,a,b⟩:=C;exact⟨_,(jk a).2.2.2,c,rfl,b⟩
theorem gY.st{B:List Int}{d x:D}{g:J}{o:Nat}{s a:cU}(C:gY B d g o s)(h:j9 B d a x){b:Type}{f:J→Option b}{Q:b→Prop}(k:∀g',gY B d g' o a→bM o g g'→Wp (f g') Q):Wp ((aS tab g bI (.ptr o 0 0) x).bind f) Q:=by
 obtain⟨m,c,l⟩:=C;obtain⟨i,rfl,e⟩:=h;exact my c λg' j s=>k g' ⟨i,j,e⟩ s
theorem Hk{B:List Int}{d:D}{g:J}{o:Nat}{s:cU}(i:aI 1 aY B d)(h:B.length≤1000000000)(j:∀z∈B,U8 z)(C:gY B d g o s){c:Type}{f:D→J→Option c}{Q:c→Prop}(k:∀g',gY B d g' o (cQ s).2→bM o g g'→Wp (f (.int .i64 (cQ s).1) g') Q):
  Wp ((Y tab g bI (.ptr o 0 0)).bind λt=>(R mj [t] g).bind λp=>(cT 0 p.1).bind λa=>(cT 1 p.1).bind λb=>(aS tab p.2 bI (.ptr o 0 0) a).bind λg'=>f b g') Q:=by
 obtain⟨q,l,m⟩:=C.all;obtain⟨r,e,n⟩:=a4e g i h j m;simp only[l,bs,e,fU,fC,fV];exact C.st n k
theorem zJ{B:List Int}{d:D}{g:J}{o:Nat}{s:cU}(i:aI 1 aY B d)(h:B.length≤1000000000)(j:∀z∈B,U8 z)(C:gY B d g o s){c:Type}{f:D→J→Option c}{Q:c→Prop}(k:∀g',gY B d g' o (dK s).2→bM o g g'→Wp (f (.str ((dK s).1.getD [])) g') Q):
  Wp ((Y tab g bI (.ptr o 0 0)).bind λt=>(R nK [t] g).bind λp=>(cT 0 p.1).bind λa=>(cT 1 p.1).bind λb=>(aS tab p.2 bI (.ptr o 0 0) a).bind λg'=>f b g') Q:=by
 obtain⟨q,l,m⟩:=C.all;obtain⟨r,e,n⟩:=a4d g i h j m;simp only[l,bs,e,fU,fC,fV];exact C.st n k
def fZ:Nat→cU→List eV × cU
 |0,s=>([],s)
 |n+1,s=>if s.2=true then([],s)else((g5 s).1::(fZ n (g5 s).2).1,(fZ n (g5 s).2).2)
def fY:Nat→cU→List (aD × aD) × cU
 |0,s=>([],s)
 |n+1,s=>if s.2=true then([],s)else((hB s).1::(fY n (hB s).2).1,(fY n (hB s).2).2)
theorem Qi(n:Nat)(s:cU)(h:s.2=true):fZ n s=([],s):=by
 cases n with
 |zero=>rfl
 |succ n=>simp[-a7N,fZ,h]
theorem Qf(n:Nat)(s:cU)(h:s.2=true):fY n s=([],s):=by
 cases n with
 |zero=>rfl
 |succ n=>simp[-a7N,fY,h]
theorem a4f{B:List Int}{d x:D}{s:cU}(h:J)(A:aI 1 aY B d)(P:B.length≤1000000000)(G:∀z∈B,U8 z)(t:j9 B d s x):∃w e,R vp [x] h=some (.bD [w,e],h)∧j9 B d (fZ (dI s).1.toNat (dI s).2).2 w∧aI 3 cR (fZ (dI s).1.toNat (dI s).2).1 e:=by
 suffices Wp (R vp [x] h) (λa3=>a3.2=h∧∃w e,a3.1 = .bD [w,e]∧j9 B d (fZ (dI s).1.toNat (dI s).2).2 w∧aI 3 cR (fZ (dI s).1.toNat (dI s).2).1 e) by
  obtain⟨⟨a9,cj⟩,r,rfl,w,e,rfl,N⟩:=this;exact⟨w,e,r,N⟩
 have b2:=t;obtain⟨o,rfl,cl,b0⟩:=t;have b1:∀z∈s.1,U8 z:=λz Q=>G z (by rw[← b0]at Q;exact fM Q)
 have bu:(aG h bI 3 [[d,.int .i64 o,.bool (!s.2)]]).length=h.length+1:=by simp[-a7N,aG]
 have X:=M2.new h bI 3 bI 3 [d,.int .i64 o,.bool (!s.2)] [.aA,.int .i64 0,.bool false];rw[Vs];simp only[Kp,lj bI 3 h [d,.int .i64 o,.bool (!s.2)] rfl (by omega),bs,aL,bu];generalize aG (aG h bI 3 [[d,.int .i64 o,.bool (!s.2)]]) bI 3 [[.aA,.int .i64 0,.bool false]]=av at *;have b3:=(jk X.ha).2.2.2;obtain⟨ct,C,ce⟩:=tR av A P G b2 4 (by omega);obtain⟨bi,rfl,br,ah⟩:=ce;have C:R lD [.agg [d,.int .i64 o,.bool (!s.2)],.int .i64 4] av=_:=C;obtain⟨a1,a2,b6⟩:=GV b1;have jN:dJ s ((4:Nat):Int)=dJ s 4:=rfl;rw[jN]at C ah;have g4:(dJ s 4).2=(dI s).2:=rfl;rw[g4]at C ah;simp only[b3,bs,C,fU,fC,fV];rw[← a1]at a2 b6;rw[← a1];refine my X.ha λbj a4 cf=>?_
 have aa:=X.qQ a4 cf;have ba:gY B d bj h.length (dI s).2:=⟨bi,a4,br,ah⟩
 generalize (dI s).2=j at *;generalize (dI s).1=ch at *;obtain⟨n,rfl⟩:=lM a2;rw[eQ];refine Wp.loop (λk ac c=>∃p q e,∃g:Nat,∃l:List eV,∃b:cU,ac=[e,.int .u64 g,p,q]∧k+g=n∧gY B d c h.length b∧c[h.length+1]?=some (.row bI 3 [[.aA,.int .i64 0,.bool false]])∧(∀a,a<h.length→c[a]?=h[a]?)∧aR c (h.length+2) dD 3 (l.map cR) e∧h.length+2≤c.length∧l.length≤g∧l++(fZ k b).1=(fZ n j).1∧(fZ k b).2=(fZ n j).2)
  (λf=>f.1 = .ext 0∧∃p q T e,f.2.1=[e,p,q,T]∧gY B d f.2.2 h.length (fZ n j).2∧f.2.2[h.length+1]?=some (.row bI 3 [[.aA,.int .i64 0,.bool false]])∧(∀a,a<h.length→f.2.2[a]?=h[a]?)∧aR f.2.2 (h.length+2) dD 3 ((fZ n j).1.map cR) e∧h.length+2≤f.2.2.length) n ⟨_,_,.aA,0,[],j,rfl,rfl,ba,aa.hb,aa.lo,aR.aA _ _ _ _,aa.hl,by simp,by simp,rfl⟩ ?_ ?_
 ·rintro k ac c ⟨p,q,e,g,l,b,rfl,co,u,F,I,v,ad,ck,K,L⟩;simp only[Kq,aW,bL,bs,aL,sZ,u.ok];have stop:(b.2=true∨k=0)→fZ k b=([],b):=by
   rintro(E|E)
   ·exact Qi k b E
   ·rw[E];rfl
  have au:(b.2=true∨k=0)→∀a6 a7 a8,Wp (some (Ex.ext 0,[e,a6,a7,a8],c)) (λf=>(f.1 = .aQ∧∃m<k,∃p q e,∃g:Nat,∃l:List eV,∃b:cU,f.2.1=[e,.int .u64 g,p,q]∧m+g=n∧gY B d f.2.2 h.length b∧f.2.2[h.length+1]?=some (.row bI 3 [[.aA,.int .i64 0,.bool false]])∧(∀a,a<h.length→f.2.2[a]?=h[a]?)∧aR f.2.2 (h.length+2) dD 3 (l.map cR) e∧h.length+2≤f.2.2.length∧l.length≤g∧l++(fZ m b).1=(fZ n j).1∧(fZ m b).2=(fZ n j).2)∨(f.1 ≠ .aQ∧(f.1 = .ext 0∧∃p q T e,f.2.1=[e,p,q,T]∧gY B d f.2.2 h.length (fZ n j).2∧f.2.2[h.length+1]?=some (.row bI 3 [[.aA,.int .i64 0,.bool false]])∧(∀a,a<h.length→f.2.2[a]?=h[a]?)∧aR f.2.2 (h.length+2) dD 3 ((fZ n j).1.map cR) e∧h.length+2≤f.2.2.length))):=by
   intro E a6 a7 a8;have r:=stop E;rw[r]at K L;simp only[nm]at K L;refine .some (.inr ⟨by simp,rfl,_,_,_,e,rfl,by rw[← L];exact u,F,I,by rw[← K];exact v,ad⟩)
  cases az:b.2 with
  | true =>
   simp only[fy,bZ,aU,reduceCtorEq,aJ,bs,bW,aK];exact au (.inl az) _ _ _
  | false =>
   simp only[gb,bZ,aN,bs,bS,bW,aK];by_cases cn:g<n
   case neg =>
    have ae:¬(g:Int)<(n:Int):=by omega
    simp only[ae,bT,aU,aJ];exact au (.inr (by omega)) _ _ _
   have ae:(g:Int)<(n:Int):=by omega
   simp only[ae,cM,aN];obtain⟨m,rfl⟩:∃m,k=m+1:=⟨k - 1,by omega⟩
   have bv:fZ (m+1) b=((g5 b).1::(fZ m (g5 b).2).1,(fZ m (g5 b).2).2):=by simp[-a7N,fZ,az]
   rw[bv]at K L;have bp:(aG c dD 3 [jy])[c.length]?=some (.row dD 3 [jy]):=fO _ _ _ _;have bq:(aG c dD 3 [jy]).length=c.length+1:=by simp[-a7N,aG]
   have ay:∀a,a<c.length→(aG c dD 3 [jy])[a]?=c[a]?:=λa i=>eT _ _ _ _ i
   have Q:([.int .i64 0,.int .i64 0,.str []]:List D)=jy:=rfl;have af:∀a,e.eC a→a<c.length:=λa i=>(bR.1 (qI v i)).1
   have bo:=u.lt;have bb:gY B d (aG c dD 3 [jy]) h.length b:=u.cL (ay _ bo)
   try simp only[Q]
   generalize aG c dD 3 [jy]=M at *;refine Hk A P G bb λbk bc am=>?_
   have cb:bk[c.length]?=some (.row dD 3 [jy]):=by rw[am.2 _ (by omega)];exact bp
   simp only[nH,nI,mh];refine lJ (kk:=0) (row:=jy) cb rfl rfl (by simp[-a7N,jy]) rfl λaw ai an=>?_
   have ai:aw[c.length]?=some (.row dD 3 [[.int .i64 (cQ b).1,.int .i64 0,.str []]]):=ai;have bd:gY B d aw h.length (cQ b).2:=bc.cL (an.2 _ (by omega))
   try simp only[bs]
   refine Hk A P G bd λbl be ao=>?_
   have cc:bl[c.length]?=some (.row dD 3 [[.int .i64 (cQ b).1,.int .i64 0,.str []]]):=by rw[ao.2 _ (by omega)];exact ai
   refine lJ (kk:=0) cc rfl rfl (by simp) rfl λax aj ap=>?_
   have aj:ax[c.length]?=some (.row dD 3 [[.int .i64 (cQ b).1,.int .i64 (cQ (cQ b).2).1,.str []]]):=aj;have bf:gY B d ax h.length (cQ (cQ b).2).2:=be.cL (ap.2 _ (by omega))
   try simp only[bs]
   refine zJ A P G bf λbm bg aq=>?_
   have cd:bm[c.length]?=some (.row dD 3 [[.int .i64 (cQ b).1,.int .i64 (cQ (cQ b).2).1,.str []]]):=by rw[aq.2 _ (by omega)];exact aj
   refine pZ (kk:=0) cd rfl rfl (by simp) rfl λy ak ar=>?_
   have ak:y[c.length]?=some (.row dD 3 [cR (g5 b).1]):=ak;have bh:gY B d y h.length (g5 b).2:=bg.cL (ar.2 _ (by omega));have b5:Y tab y dD (.ptr c.length 0 0)=some (.agg (cR (g5 b).1)):=by rw[O4,dM ak];rfl
   have bt:dL tab bU 1 [0] [.agg (cR (g5 b).1)]=some (.sl 3 true [cR (g5 b).1]):=id rfl;have ag:∀a,a≠h.length→a<c.length→y[a]?=c[a]?:=λa r N=>by
    rw[ar.2 a (by omega),aq.2 a r,ap.2 a (by omega),ao.2 a r,an.2 a (by omega),am.2 a r,ay a N]
   have cp:y.length=c.length+1:=by rw[ar.1,aq.1,ap.1,ao.1,an.1,am.1,bq]
   have b8:aR y (h.length+2) dD 3 (l.map cR) e:=v.cL λa i t=>ag a (by omega) (af a t)
   have cg:IntKind.wrap .u64 ((g:Int)+1)=((g+1:Nat):Int):=by rw[iF (by omega) (by omega)];omega
   simp only[bs,b5,bt];refine r7 (ys:=[cR (g5 b).1]) (by omega) b8 (hC _ _ _ _) (by simp;omega) λb4 bn b9 gn ab cs _=>?_
   simp only[bs,cO,cg];refine .some (.inl ⟨rfl,m,by omega,_,_,b4,g+1,l++[(g5 b).1],(g5 b).2,rfl,by omega,bh.cL (ab _ (by omega)),?_,λa i=>?_,by rw[gL];exact b9,(by show _≤bn.length;omega),by simp;omega,?_,L⟩)
   ·rw[ab _ (by omega),ag _ (by omega) (by omega)];exact F
   ·rw[ab _ (by omega),ag _ (by omega) (by omega)];exact I a i
   ·rw[← K];simp[-a7N]
 ·rintro⟨ci,ac,c⟩ ⟨rfl,p,q,T,e,rfl,u,F,I,v,ad⟩;simp only at u F I v ad;obtain⟨a0,bw,bx,bz⟩:=u;simp only[dA,cN,bs,aW,(jk bw).2.2.2];refine my F λM ca al=>?_
  have af:∀a,e.eC a→a≠h.length+1:=λa i cm=>by
   rcases v with⟨rfl,_⟩|⟨cr,r,rfl,_⟩
   ·exact pT a i
   ·obtain⟨z,n,t⟩:=i;injection t with _ N;omega
  have b7:aR M (h.length+2) dD 3 ((fZ n j).1.map cR) e:=v.cL λa i t=>al.2 a (af a t)
  simp only[(jk ca).2.2.2,bs,gp];have a5:=gS (n0:=h.length) (n:=2) b7 (by omega) λo _=>nQ _ M _ o
  rw [ff (d' :=.bD [.agg [d,.int .i64 a0,.bool (!(fZ n j).2.2)],cS h.length M 3 e]) (by simp[-a7N,Cr A]) (by
   refine .bD _ λa9 H=>?_
   simp at H;rcases H with rfl|rfl
   ·refine .agg _ λa9 H=>?_
    simp at H;rcases H with rfl|rfl|rfl
    ·exact Cs A _
    ·constructor
    ·constructor
   ·exact e7 a5 λo _=>zj _ o) (by rw[al.1];omega) (λa i=>by rw[al.2 a (by omega)];exact I a i)]
  exact .some ⟨rfl,_,_,rfl,⟨a0,rfl,bx,bz⟩,a5⟩
theorem a4g{B:List Int}{d x:D}{s:cU}(h:J)(F:aI 1 aY B d)(ac:B.length≤1000000000)(N:∀z∈B,U8 z)(r:j9 B d s x):∃w c,R vq [x] h=some (.bD [w,c],h)∧j9 B d (fY (dI s).1.toNat (dI s).2).2 w∧aI 2 aM (fY (dI s).1.toNat (dI s).2).1 c:=by
 suffices Wp (R vq [x] h) (λaz=>az.2=h∧∃w c,az.1 = .bD [w,c]∧j9 B d (fY (dI s).1.toNat (dI s).2).2 w∧aI 2 aM (fY (dI s).1.toNat (dI s).2).1 c) by
  obtain⟨⟨a5,cb⟩,u,rfl,w,c,rfl,M⟩:=this;exact⟨w,c,u,M⟩
 have bu:=r;obtain⟨o,rfl,cd,br⟩:=r;have bt:∀z∈s.1,U8 z:=λz P=>N z (by rw[← br]at P;exact fM P)
 have bm:(aG h bI 3 [[d,.int .i64 o,.bool (!s.2)]]).length=h.length+1:=by simp[-a7N,aG]
 have T:=M2.new h bI 3 bI 3 [d,.int .i64 o,.bool (!s.2)] [.aA,.int .i64 0,.bool false];rw[Vt];simp only[Kr,lj bI 3 h [d,.int .i64 o,.bool (!s.2)] rfl (by omega),bs,aL,bm];generalize aG (aG h bI 3 [[d,.int .i64 o,.bool (!s.2)]]) bI 3 [[.aA,.int .i64 0,.bool false]]=aq at *;have bv:=(jk T.ha).2.2.2;obtain⟨cl,A,b6⟩:=tR aq F ac N bu 4 (by omega);obtain⟨bc,rfl,bk,ah⟩:=b6;have A:R lD [.agg [d,.int .i64 o,.bool (!s.2)],.int .i64 4] aq=_:=A;obtain⟨ax,ay,bz⟩:=GV bt;have jN:dJ s ((4:Nat):Int)=dJ s 4:=rfl;rw[jN]at A ah;have g4:(dJ s 4).2=(dI s).2:=rfl;rw[g4]at A ah;simp only[bv,bs,A,fU,fC,fV];rw[← ax]at ay bz;rw[← ax];refine my T.ha λbd a0 b7=>?_
 have X:=T.qQ a0 b7;have a6:gY B d bd h.length (dI s).2:=⟨bc,a0,bk,ah⟩
 generalize (dI s).2=j at *;generalize (dI s).1=b9 at *;obtain⟨n,rfl⟩:=lM ay;rw[eQ];refine Wp.loop (λk ab e=>∃p q c,∃g:Nat,∃l:List (aD × aD),∃b:cU,ab=[c,.int .u64 g,p,q]∧k+g=n∧gY B d e h.length b∧e[h.length+1]?=some (.row bI 3 [[.aA,.int .i64 0,.bool false]])∧(∀a,a<h.length→e[a]?=h[a]?)∧aR e (h.length+2) bE 2 (l.map aM) c∧h.length+2≤e.length∧l.length≤g∧l++(fY k b).1=(fY n j).1∧(fY k b).2=(fY n j).2)
  (λf=>f.1 = .ext 0∧∃p q Q c,f.2.1=[c,p,q,Q]∧gY B d f.2.2 h.length (fY n j).2∧f.2.2[h.length+1]?=some (.row bI 3 [[.aA,.int .i64 0,.bool false]])∧(∀a,a<h.length→f.2.2[a]?=h[a]?)∧aR f.2.2 (h.length+2) bE 2 ((fY n j).1.map aM) c∧h.length+2≤f.2.2.length) n ⟨_,_,.aA,0,[],j,rfl,rfl,a6,X.hb,X.lo,aR.aA _ _ _ _,X.hl,by simp,by simp,rfl⟩ ?_ ?_
 ·rintro k ab e ⟨p,q,c,g,l,b,rfl,cg,t,E,H,v,ad,cc,I,K⟩;simp only[Kt,aW,bL,bs,aL,sZ,t.ok];have stop:(b.2=true∨k=0)→fY k b=([],b):=by
   rintro(C|C)
   ·exact Qf k b C
   ·rw[C];rfl
  have ap:(b.2=true∨k=0)→∀a2 a3 a4,Wp (some (Ex.ext 0,[c,a2,a3,a4],e)) (λf=>(f.1 = .aQ∧∃m<k,∃p q c,∃g:Nat,∃l:List (aD × aD),∃b:cU,f.2.1=[c,.int .u64 g,p,q]∧m+g=n∧gY B d f.2.2 h.length b∧f.2.2[h.length+1]?=some (.row bI 3 [[.aA,.int .i64 0,.bool false]])∧(∀a,a<h.length→f.2.2[a]?=h[a]?)∧aR f.2.2 (h.length+2) bE 2 (l.map aM) c∧h.length+2≤f.2.2.length∧l.length≤g∧l++(fY m b).1=(fY n j).1∧(fY m b).2=(fY n j).2)∨(f.1 ≠ .aQ∧(f.1 = .ext 0∧∃p q Q c,f.2.1=[c,p,q,Q]∧gY B d f.2.2 h.length (fY n j).2∧f.2.2[h.length+1]?=some (.row bI 3 [[.aA,.int .i64 0,.bool false]])∧(∀a,a<h.length→f.2.2[a]?=h[a]?)∧aR f.2.2 (h.length+2) bE 2 ((fY n j).1.map aM) c∧h.length+2≤f.2.2.length))):=by
   intro C a2 a3 a4;have u:=stop C;rw[u]at I K;simp only[nm]at I K;refine .some (.inr ⟨by simp,rfl,_,_,_,c,rfl,by rw[← K];exact t,E,H,by rw[← I];exact v,ad⟩)
  cases av:b.2 with
  | true =>
   simp only[fy,bZ,aU,reduceCtorEq,aJ,bs,bW,aK];exact ap (.inl av) _ _ _
  | false =>
   simp only[gb,bZ,aN,bs,bS,bW,aK];by_cases cf:g<n
   case neg =>
    have ae:¬(g:Int)<(n:Int):=by omega
    simp only[ae,bT,aU,aJ];exact ap (.inr (by omega)) _ _ _
   have ae:(g:Int)<(n:Int):=by omega
   simp only[ae,cM,aN];obtain⟨m,rfl⟩:∃m,k=m+1:=⟨k - 1,by omega⟩
   have bn:fY (m+1) b=((hB b).1::(fY m (hB b).2).1,(fY m (hB b).2).2):=by simp[-a7N,fY,av]
   rw[bn]at I K;have bi:(aG e bE 2 [jH])[e.length]?=some (.row bE 2 [jH]):=fO _ _ _ _;have bj:(aG e bE 2 [jH]).length=e.length+1:=by simp[-a7N,aG]
   have au:∀a,a<e.length→(aG e bE 2 [jH])[a]?=e[a]?:=λa i=>eT _ _ _ _ i
   have P:([.str [],.str []]:List D)=jH:=rfl;have af:∀a,c.eC a→a<e.length:=λa i=>(bR.1 (qI v i)).1
   have bh:=t.lt;have a7:gY B d (aG e bE 2 [jH]) h.length b:=t.cL (au _ bh)
   try simp only[P]
   generalize aG e bE 2 [jH]=L at *;refine zJ F ac N a7 λbe a8 al=>?_
   have b4:be[e.length]?=some (.row bE 2 [jH]):=by rw[al.2 _ (by omega)];exact bi
   simp only[rA,C7];refine pZ (kk:=0) (row:=jH) b4 rfl rfl (by simp[-a7N,jH]) rfl λar ai am=>?_
   have ai:ar[e.length]?=some (.row bE 2 [[.str ((dK b).1.getD []),.str []]]):=ai;have a9:gY B d ar h.length (dK b).2:=a8.cL (am.2 _ (by omega))
   try simp only[bs]
   refine zJ F ac N a9 λbf ba an=>?_
   have b5:bf[e.length]?=some (.row bE 2 [[.str ((dK b).1.getD []),.str []]]):=by rw[an.2 _ (by omega)];exact ai
   refine pZ (kk:=0) b5 rfl rfl (by simp) rfl λy aj ao=>?_
   have aj:y[e.length]?=some (.row bE 2 [aM (hB b).1]):=aj;have bb:gY B d y h.length (hB b).2:=ba.cL (ao.2 _ (by omega));have bx:Y tab y bE (.ptr e.length 0 0)=some (.agg (aM (hB b).1)):=by rw[ze,dM aj];rfl
   have bl:dL tab bQ 1 [0] [.agg (aM (hB b).1)]=some (.sl 2 true [aM (hB b).1]):=id rfl;have ag:∀a,a≠h.length→a<e.length→y[a]?=e[a]?:=λa u M=>by
    rw[ao.2 a (by omega),an.2 a u,am.2 a (by omega),al.2 a u,au a M]
   have ch:y.length=e.length+1:=by rw[ao.1,an.1,am.1,al.1,bj]
   have b1:aR y (h.length+2) bE 2 (l.map aM) c:=v.cL λa i r=>ag a (by omega) (af a r)
   have b8:IntKind.wrap .u64 ((g:Int)+1)=((g+1:Nat):Int):=by rw[iF (by omega) (by omega)];omega
   simp only[bs,bx,bl];refine wA (ys:=[aM (hB b).1]) (by omega) b1 (hC _ _ _ _) (by simp;omega) λbw bg b2 gn aa ck _=>?_
   simp only[bs,cO,b8];refine .some (.inl ⟨rfl,m,by omega,_,_,bw,g+1,l++[(hB b).1],(hB b).2,rfl,by omega,bb.cL (aa _ (by omega)),?_,λa i=>?_,by rw[gL];exact b2,(by show _≤bg.length;omega),by simp;omega,?_,K⟩)
   ·rw[aa _ (by omega),ag _ (by omega) (by omega)];exact E
   ·rw[aa _ (by omega),ag _ (by omega) (by omega)];exact H a i
   ·rw[← I];simp[-a7N]
 ·rintro⟨ca,ab,e⟩ ⟨rfl,p,q,Q,c,rfl,t,E,H,v,ad⟩;simp only at t E H v ad;obtain⟨aw,bo,bp,bq⟩:=t;simp only[dA,cN,bs,aW,(jk bo).2.2.2];refine my E λL b3 ak=>?_
  have af:∀a,c.eC a→a≠h.length+1:=λa i ce=>by
   rcases v with⟨rfl,_⟩|⟨cj,u,rfl,_⟩
   ·exact pT a i
   ·obtain⟨z,n,r⟩:=i;injection r with _ M;omega
  have b0:aR L (h.length+2) bE 2 ((fY n j).1.map aM) c:=v.cL λa i r=>ak.2 a (af a r)
  simp only[(jk b3).2.2.2,bs,gp];have a1:=gS (n0:=h.length) (n:=2) b0 (by omega) λo _=>pt _ L _ o
  rw [ff (d' :=.bD [.agg [d,.int .i64 aw,.bool (!(fY n j).2.2)],cS h.length L 3 c]) (by simp[-a7N,Cr F]) (by
   refine .bD _ λa5 G=>?_
   simp at G;rcases G with rfl|rfl
   ·refine .agg _ λa5 G=>?_
    simp at G;rcases G with rfl|rfl|rfl
    ·exact Cs F _
    ·constructor
    ·constructor
   ·exact e7 a1 λo _=>u4 _ o) (by rw[ak.1];omega) (λa i=>by rw[ak.2 a (by omega)];exact H a i)]
  exact .some ⟨rfl,_,_,rfl,⟨aw,rfl,bp,bq⟩,a1⟩
def kz(s:cU):List eV × cU:=fZ (dI (gD s)).1.toNat (dI (gD s)).2
def pV(s:cU):cU:=(dK (dK (cQ (cQ (kz s).2).2).2).2).2
def lH(s:cU):List (aD × aD) × cU:=fY (dI (pV s)).1.toNat (dI (pV s)).2
def mA(s:cU):RI:=
 { r:=(dK s).1.getD [],a0:=(cQ (dK s).2).1,a1:=(cQ (cQ (dK s).2).2).1,a2:=(cQ (cQ (cQ (dK s).2).2).2).1,a3:=(cQ (cQ (cQ (cQ (dK s).2).2).2).2).1,
   ls:=(kz s).1,a5:=(cQ (kz s).2).1,a6:=(cQ (cQ (kz s).2).2).1,t7:=(dK (cQ (cQ (kz s).2).2).2).1.getD [],t8:=(dK (dK (cQ (cQ (kz s).2).2).2).2).1.getD [],
   fs:=(lH s).1 }
def jW(c:Int)(l:List Int):Int × Int × RI:=
 if l.length<4 then(14,0,⟨[],0,0,0,0,[],0,0,[],[],[]⟩)
 else if num (l.take 4)<4∨(l.length:Int) - 4<num (l.take 4)then(14,0,⟨[],0,0,0,0,[],0,0,[],[],[]⟩)
 else if gz (l.take (num (l.take 4)).toNat)≠num ((l.drop (num (l.take 4)).toNat).take 4)then(15,0,⟨[],0,0,0,0,[],0,0,[],[],[]⟩)
 else if(lH ((l.take (num (l.take 4)).toNat).drop 4,false)).2.2=true∨(lH ((l.take (num (l.take 4)).toNat).drop 4,false)).2.1≠[]∨c≠0 then(1,0,⟨[],0,0,0,0,[],0,0,[],[],[]⟩)
 else(0,num (l.take 4)+4,mA ((l.take (num (l.take 4)).toNat).drop 4,false))
theorem Qk:∀(n:Nat) (s:cU),(fZ n s).1.length≤n
 |0,s=>bB _
 | n+1,s=>by
  have:=Qk n (g5 s).2;unfold fZ;split
  ·simp[-a7N]
  ·simp only[g7];omega
theorem Qg:∀(n:Nat) (s:cU),(fY n s).1.length≤n
 |0,s=>bB _
 | n+1,s=>by
  have:=Qg n (hB s).2;unfold fY;split
  ·simp[-a7N]
  ·simp only[g7];omega
structure l8 (h g:J) (B:List Int) (d:D) (x:List D) (s:cU):Prop where
 hr:g[h.length]?=some (.row aH 11 [aT fF])
 C:gY B d g (h.length+1) s
 hi:g[h.length+2]?=some (.row aH 11 [x])
 lo:∀q,q<h.length→g[q]?=h[q]?
theorem l8.to{h g g':J}{B:List Int}{d:D}{x y:List D}{s c:cU}(S:l8 h g B d x s){g1:J}(C:gY B d g1 (h.length+1) c)(e:bM (h.length+1) g g1)(p:g'[h.length+2]?=some (.row aH 11 [y]))(b:bM (h.length+2) g1 g'):l8 h g' B d y c:=
 ⟨by rw[b.2 _ (by omega),e.2 _ (by omega)];exact S.hr,C.cL (b.2 _ (by omega)),p,λa f=>by rw[b.2 a (by omega),e.2 a (by omega)];exact S.lo a f⟩
theorem wj(x:List D)(off:Nat)(v:D)(a:off<x.length)(b:v.one=true):([x].set 0 (dZ x off (cX v)))=[x.set off v]:=by
 rw[z0 _ _ _ b a];rfl
theorem sS{h g:J}{B:List Int}{d:D}{x:List D}{s:cU}(S:l8 h g B d x s)(o:aI 1 aY B d)(n:B.length≤1000000000)(r:∀z∈B,U8 z){off:Nat}(q:off<x.length){i:Type}{f:J→Option i}{Q:i→Prop}(k:∀g',l8 h g' B d (x.set off (.int .i64 (cQ s).1)) (cQ s).2→Wp (f g') Q):
  Wp ((Y tab g bI (.ptr (h.length+1) 0 0)).bind λt=>(R mj [t] g).bind λp=>(cT 0 p.1).bind λa=>(cT 1 p.1).bind λb=>(aS tab p.2 bI (.ptr (h.length+1) 0 0) a).bind λg'=>(aS tab g' U (.ptr (h.length+2) 0 off) b).bind f) Q:=by
 refine Hk o n r S.C λl j e=>?_
 have u:l[h.length+2]?=some (.row aH 11 [x]):=by rw[e.2 _ (by omega)];exact S.hi
 refine lJ (kk:=0) (row:=x) u rfl rfl (by omega) rfl λm c v=>?_
 rw[wj x off _ q rfl]at c;exact k m (S.to j e c v)
theorem CM{h g:J}{B:List Int}{d:D}{x:List D}{s:cU}(S:l8 h g B d x s)(o:aI 1 aY B d)(n:B.length≤1000000000)(r:∀z∈B,U8 z){off:Nat}(q:off<x.length){i:Type}{f:J→Option i}{Q:i→Prop}(k:∀g',l8 h g' B d (x.set off (.str ((dK s).1.getD []))) (dK s).2→Wp (f g') Q):
  Wp ((Y tab g bI (.ptr (h.length+1) 0 0)).bind λt=>(R nK [t] g).bind λp=>(cT 0 p.1).bind λa=>(cT 1 p.1).bind λb=>(aS tab p.2 bI (.ptr (h.length+1) 0 0) a).bind λg'=>(aS tab g' bH (.ptr (h.length+2) 0 off) b).bind f) Q:=by
 refine zJ o n r S.C λl j e=>?_
 have u:l[h.length+2]?=some (.row aH 11 [x]):=by rw[e.2 _ (by omega)];exact S.hi
 refine pZ (kk:=0) (row:=x) u rfl rfl (by omega) rfl λm c v=>?_
 rw[wj x off _ q rfl]at c;exact k m (S.to j e c v)
theorem Ts{h g:J}{B:List Int}{d:D}{x:List D}{s:cU}(S:l8 h g B d x s)(v:aI 1 aY B d)(u:B.length≤1000000000)(y:∀z∈B,U8 z){off:Nat}(w:off<x.length){m:Type}{f:J→Option m}{Q:m→Prop}(k:∀g' c,aI 3 cR (fZ (dI s).1.toNat (dI s).2).1 c→l8 h g' B d (x.set off c) (fZ (dI s).1.toNat (dI s).2).2→Wp (f g') Q):
  Wp ((Y tab g bI (.ptr (h.length+1) 0 0)).bind λt=>(R vp [t] g).bind λp=>(cT 0 p.1).bind λa=>(cT 1 p.1).bind λb=>(aS tab p.2 bI (.ptr (h.length+1) 0 0) a).bind λg'=>(aS tab g' bU (.ptr (h.length+2) 0 off) b).bind f) Q:=by
 obtain⟨K,A,F⟩:=S.C.all;obtain⟨I,c,o,G,l⟩:=a4f g v u y F;simp only[A,bs,o,fU,fC,fV];refine S.C.st G λq n j=>?_
 have E:q[h.length+2]?=some (.row aH 11 [x]):=by rw[j.2 _ (by omega)];exact S.hi
 have e:=fx l;refine qX (kk:=0) (row:=x) E rfl (by rw[(fT e).1];rfl) (by omega) (fT e).2 λr i H=>?_
 rw[wj x off _ w e]at i;exact k r c l (S.to n j i H)
theorem Tq{h g:J}{B:List Int}{d:D}{x:List D}{s:cU}(S:l8 h g B d x s)(v:aI 1 aY B d)(u:B.length≤1000000000)(y:∀z∈B,U8 z){off:Nat}(w:off<x.length){m:Type}{f:J→Option m}{Q:m→Prop}(k:∀g' c,aI 2 aM (fY (dI s).1.toNat (dI s).2).1 c→l8 h g' B d (x.set off c) (fY (dI s).1.toNat (dI s).2).2→Wp (f g') Q):
  Wp ((Y tab g bI (.ptr (h.length+1) 0 0)).bind λt=>(R vq [t] g).bind λp=>(cT 0 p.1).bind λa=>(cT 1 p.1).bind λb=>(aS tab p.2 bI (.ptr (h.length+1) 0 0) a).bind λg'=>(aS tab g' bQ (.ptr (h.length+2) 0 off) b).bind f) Q:=by
 obtain⟨K,A,F⟩:=S.C.all;obtain⟨I,c,o,G,l⟩:=a4g g v u y F;simp only[A,bs,o,fU,fC,fV];refine S.C.st G λq n j=>?_
 have E:q[h.length+2]?=some (.row aH 11 [x]):=by rw[j.2 _ (by omega)];exact S.hi
 have e:=fx l;refine wD (kk:=0) (row:=x) E rfl (by rw[(fT e).1];rfl) (by omega) (fT e).2 λr i H=>?_
 rw[wj x off _ w e]at i;exact k r c l (S.to n j i H)
theorem a4c(l:List Int)(d:D)(c:Int)(h:J)(x:aI 1 aY l d)(az:l.length≤1000000000)(aa:∀z∈l,U8 z)
  (av:∀j:It,e5 j=mA ((l.take (num (l.take 4)).toNat).drop 4,false)→∀g,R qu [.agg (aT j)] g=some (.int .i64 c,g)) :
  ∃j:It,R vm [d] h=some (.bD [.agg (aT j),.int .i64 (jW c l).2.1,.int .i64 (jW c l).1],h)∧e5 j=(jW c l).2.2:=by
 suffices Wp (R vm [d] h) (λH=>H.2=h∧∃j:It,H.1 = .bD [.agg (aT j),.int .i64 (jW c l).2.1,.int .i64 (jW c l).1]∧e5 j=(jW c l).2.2) by
  obtain⟨⟨cz,w⟩,ag,rfl,j,rfl,ah⟩:=this;exact⟨j,ag,ah⟩
 have cf:([.str [],.int .i64 0,.int .i64 0,.int .i64 0,.int .i64 0,.aA,.int .i64 0,.int .i64 0,.str [],.str [],.aA]:List D)=aT fF:=rfl;have bu:eD tab aH [] []=some (.agg (aT fF)):=id rfl;have v:∀(g:J) (j:It) (ac ad:Int),g[h.length]?=some (.row aH 11 [aT fF])→(∀a,a<h.length→g[a]?=h[a]?)→(ac,ad,e5 j)=((jW c l).2.1,(jW c l).1,(jW c l).2.2) →
   Wp ((aS tab g aH (.ptr h.length 0 0) (.agg (aT j))).bind λw=>(Y tab w aH (.ptr h.length 0 0)).bind λd=>scope h w (aF [d,.int .i64 ac,.int .i64 ad])) (λH=>H.2=h∧∃j:It,H.1 = .bD [.agg (aT j),.int .i64 (jW c l).2.1,.int .i64 (jW c l).1]∧e5 j=(jW c l).2.2):=by
  intro g j ac ad aw b0 bw;injection bw with bx ai;injection ai with ai bz;have cu:=(bR.1 aw).1;refine l5 (kk:=0) (off:=0) (row:=aT fF) aw rfl rfl (bB _) (y4 j) λar w a5=>?_
  have w:ar[h.length]?=some (.row aH 11 [aT j]):=by
   rw[w];have cb:dZ (aT fF) 0 (cX (.agg (aT j)))=aT j:=by
    have bp:(aT j).length=11:=rfl;have bq:(aT fF).length=11:=rfl;simp[-a7N,dZ,cX,bp,bq]
   rw[cb];rfl
  have E:Y tab ar aH (.ptr h.length 0 0)=some (.agg (aT j)):=by rw[pM,dM w];rfl
  rw[E];simp only[bs,pR];rw[MU (by rw[a5.1];omega) (λa t=>by rw[a5.2 a (by omega)];exact b0 a t)];exact .some ⟨rfl,j,by rw[bx,ai],bz⟩
 rw[Vl];simp only[Kf,cf,bs,aL,bu,Sd d true (fx x)];have b9:(aG h aH 11 [aT fF])[h.length]?=some (.row aH 11 [aT fF]):=fO _ _ _ _;have ca:∀a,a<h.length→(aG h aH 11 [aT fF])[a]?=h[a]?:=λa t=>eT _ _ _ _ t
 have ak:(aG h aH 11 [aT fF]).length=h.length+1:=by simp[-a7N,aG]
 generalize aG h aH 11 [aT fF]=u at *;obtain⟨c0,P,cm⟩:=tR (s:=(l,false)) u x az aa ⟨0,rfl,by omega,rfl⟩ 4 (by omega);obtain⟨y,rfl,ct,al⟩:=cm;have jN:dJ (l,false) ((4:Nat):Int)=dJ (l,false) 4:=rfl;rw[jN]at P al;have P:R lD [.agg [d,.int .i64 0,.bool true],.int .i64 4] u=_:=P;simp only[P,bs,fU,fC,fV,ak];have b7:(aG u bI 3 [[.aA,.int .i64 0,.bool false]])[h.length+1]?=some (.row bI 3 [[.aA,.int .i64 0,.bool false]]):=by rw[← ak];exact fO _ _ _ _
 have a1:∀a,a<u.length→(aG u bI 3 [[.aA,.int .i64 0,.bool false]])[a]?=u[a]?:=λa t=>eT _ _ _ _ t
 have b8:(aG u bI 3 [[.aA,.int .i64 0,.bool false]]).length=h.length+2:=by simp[-a7N,aG,ak]
 generalize aG u bI 3 [[.aA,.int .i64 0,.bool false]]=cr at *;refine my b7 λp I an=>?_
 have G:p[h.length]?=some (.row aH 11 [aT fF]):=by rw[an.2 _ (by omega),a1 _ (by omega)];exact b9
 have F:∀a,a<h.length→p[a]?=h[a]?:=λa t=>by rw[an.2 _ (by omega),a1 _ (by omega)];exact ca a t
 have b2:p.length=h.length+2:=by rw[an.1,b8]
 obtain⟨-, -,cg, -⟩:=jk I;simp only[sZ,cg,gB,bs,Az];by_cases af:l.length<4
 ·have X:dJ (l,false) 4=([],(l,true)):=by unfold dJ;rw[bO (.inr (.inr (by show(l.length:Int)<4;omega)))]
  have r:jW c l=(14,0,⟨[],0,0,0,0,[],0,0,[],[],[]⟩):=by unfold jW;rw[bO af]
  simp only[X,bZ,reduceCtorEq,eP,aJ,aN,bs,bW,aK];exact v p fF 0 14 G F (by rw[r,l6])
 have X:dJ (l,false) 4=(l.take 4,(l.drop 4,false)):=by
  unfold dJ;rw[cC (by show ¬(false=true∨(4:Int)<0∨(l.length:Int)<4);simp[-a7N];omega)];rfl
 rw[X]at al I;have b3:(l.take 4).length=4:=by simp;omega
 have ce:∀z∈l.take 4,U8 z:=λz r=>aa z (fG r)
 obtain⟨ck,cl⟩:=nR 4 _ b3 ce;rw[v9]at cl;simp only[X,bZ,aU,aN,aJ,bs,bS,bW];obtain⟨a6,B⟩:∃a6,a6=jW c l:=⟨_,rfl⟩
 have e:=B;unfold jW at e;generalize br:num (l.take 4)=cq at *;obtain⟨n,rfl⟩:=lM ck;simp only[eQ]at av e;have a7:IntKind.wrap .i64 ((l.length:Int) - 4)=(l.length:Int) - 4:=bJ (by omega) (by omega);have a8:IntKind.wrap .u64 ((l.length:Int) - 4)=(l.length:Int) - 4:=iF (by omega) (by omega);have co:IntKind.wrap .i64 (n:Int)=(n:Int):=bJ (by omega) (by omega);by_cases au:(n:Int)<4∨(l.length:Int) - 4<(n:Int)
 ·have r:jW c l=(14,0,⟨[],0,0,0,0,[],0,0,[],[],[]⟩):=by unfold jW;rw[cC af,br,bO au]
  by_cases M:(n:Int)<4
  ·simp only[M,cM,bZ,reduceCtorEq,eP,aJ,bs,bW,aN,aK];exact v p fF 0 14 G F (by rw[r,l6])
  ·have ae:(n:Int)>(l.length:Int) - 4:=by omega
   simp only[M,bT,bZ,aN,bs,fm x,eB,a7,lx,a8,dE,ae,cM,reduceCtorEq,eP,aU,aJ,bW,aK];exact v p fF 0 14 G F (by rw[r,l6])
 have M:¬(n:Int)<4:=by omega
 have ae:¬(n:Int)>(l.length:Int) - 4:=by omega
 simp only[M,bT,bZ,aN,bs,fm x,eB,a7,lx,a8,dE,ae,reduceCtorEq,eP,aU,aJ,bW,aK,nE,co,Sc d (n:Int) true (fx x)];obtain⟨c1,Q,cn⟩:=tR (s:=(l.drop n,false)) p x az aa ⟨n,rfl,by omega,rfl⟩ 4 (by omega);have Q:R lD [.agg [d,.int .i64 n,.bool true],.int .i64 4] p=_:=Q;obtain⟨bl,rfl, -, -⟩:=cn;have cd:dJ (l.drop n,false) ((4:Nat):Int)=((l.drop n).take 4,((l.drop n).drop 4,false)):=by
  unfold dJ;rw[cC (by show ¬(false=true∨(4:Int)<0∨((l.drop n).length:Int)<4);simp[-a7N];omega)];rfl
 rw[cd]at Q;obtain⟨dn,bo,f⟩:=rY x (k :=.i64) (n:=(n:Int)) (by omega) (by omega);rw[eQ]at f;have i:∀z∈l.take n,U8 z:=λz r=>aa z (fG r)
 have cw:(l.take n).length=n:=by simp;omega
 have rq:=QO (l.take n) dn p (.inl f) (by omega) i;simp only[Q,bs,fU,fC,fV,nB 3 [d,.int .i64 bl,.bool (!false)] rfl,bo,rq,dH,dU,aK];rw[cC af,cC au]at e;by_cases N:gz (l.take n)=num ((l.drop n).take 4)
 case neg =>
  have bn:¬num ((l.drop n).take 4)=gz (l.take n):=λaj=>N aj.symm
  rw[bO N]at e;simp only[bn,fw,cM,aN];exact v p fF 0 15 G F (by rw[← B,e,l6])
 rw[cC (λaj=>aj N)]at e;simp only[N.symm,eF,bT,aU,aJ,xS];have I:p[h.length+1]?=some (.row bI 3 [[d,.int .i64 y,.bool (!false)]]):=I;have am:=fx f;refine Ix (kk:=0) (row:=[d,.int .i64 y,.bool (!false)]) I rfl (by rw[(fT am).1];rfl) (by simp) (fT am).2 λT ab ao=>?_
 rw[wj _ _ _ (by simp) am]at ab;have ab:T[h.length+1]?=some (.row bI 3 [[dn,.int .i64 y,.bool (!false)]]):=ab;have bt:y=4:=by
  have ag:l.drop y=l.drop 4:=al;have ah:=fR List.length ag;simp at ah;omega
 have a0:T.length=h.length+2:=by rw[ao.1,b2]
 simp only[bs,a0];have a9:l8 h (aG T aH 11 [aT fF]) (l.take n) dn (fu [] 0 0 0 0 .aA 0 0 [] [] .aA) ((l.take n).drop 4,false):=
  ⟨by rw[eT _ _ _ _ (by omega),ao.2 _ (by omega)];exact G,⟨y,by rw[eT _ _ _ _ (by omega)];exact ab,by omega,by rw[bt]⟩,by rw[← a0];exact fO _ _ _ _,λa t=>by rw[eT _ _ _ _ (by omega),ao.2 a (by omega)];exact F a t⟩
 generalize aG T aH 11 [aT fF]=cs at *;have q:(l.take n).length≤1000000000:=by omega
 generalize cc:((l.take n).drop 4,false)=m at *;have cy:∀z∈m.1,U8 z:=λz r=>by
  rw[← cc]at r;exact i z (fM r)
 simp only[u1,lB,uZ,u0,qs,s3,jY,xT,xU,xV,xW,oM];refine CM a9 f q i (by simp[-a7N,fu]) λb ba=>?_
 refine sS ba f q i (by simp[-a7N,fu]) λb bd=>?_
 refine sS bd f q i (by simp[-a7N,fu]) λb be=>?_
 refine sS be f q i (by simp[-a7N,fu]) λb bf=>?_
 refine sS bf f q i (by simp[-a7N,fu]) λb bg=>?_
 refine Ts bg f q i (by simp[-a7N,fu]) λb E aq bh=>?_
 refine sS bh f q i (by simp[-a7N,fu]) λb bi=>?_
 refine sS bi f q i (by simp[-a7N,fu]) λb bj=>?_
 refine CM bj f q i (by simp[-a7N,fu]) λb bk=>?_
 refine CM bk f q i (by simp[-a7N,fu]) λb bb=>?_
 refine Tq bb f q i (by simp[-a7N,fu]) λb S ap bc=>?_
 have o:l8 h b (l.take n) dn ((mA m).row E S) (lH m).2:=bc;have aq:aI 3 cR (mA m).ls E:=aq;have ap:aI 2 aM (mA m).fs S:=ap;have a2:∀s:cU,(dI s).1.toNat≤9223372036854775807:=λs=>by
  have:(dI s).1≤9223372036854775807:=by
   show IntKind.i64.wrap _≤_;rw[nk];omega
  omega
 obtain⟨j,ax⟩:∃j,j=v5 (mA m) E S aq ap (fD (Qk _ _) (a2 _)) (fD (Qg _ _) (a2 _)):=⟨_,rfl⟩
 have b1:aT j=(mA m).row E S:=by rw[ax];rfl
 have ay:e5 j=mA m:=by rw[ax];rfl
 rw[← b1]at o;have bv:=av j ay;have ch:Y tab b aH (.ptr (h.length+2) 0 0)=some (.agg (aT j)):=by rw[pM,dM o.hi];rfl
 obtain⟨ci,b4,cx,b5⟩:=o.C;obtain⟨-,a3,cj, -⟩:=jk b4;have b6:(ci:Int)=(n:Int)↔(lH m).2.1=[]:=by
  rw[← b5,BM];omega
 have cp:IntKind.wrap .i64 ((n:Int)+4)=(n:Int)+4:=bJ (by omega) (by omega);simp only[uY,sZ,a3,cj,gB,bs,Az,aL];by_cases A:(lH m).2.2=true
 ·rw[bO (.inl A)]at e;simp only[A,bZ,reduceCtorEq,eP,aJ,aN,bs,bW,gk,aK];exact v b fF 0 1 o.hr o.lo (by rw[← B,e,l6])
 have A:(lH m).2.2=false:=by simpa using A
 simp only[A,bZ,aN,a3,dH,dU,b6,bs,bW,aU,aJ];by_cases K:(lH m).2.1=[]
 case neg =>
  rw[bO (.inr (.inl K))]at e;simp only[K,fw,cM,bZ,reduceCtorEq,eP,aJ,aN,bs,bW,gk,aK];exact v b fF 0 1 o.hr o.lo (by rw[← B,e,l6])
 simp only[K,eF,bT,bZ,gk,ch,bv,aN,bs,dH,dU,bW,aU,aJ,aK];by_cases L:c=0
 case neg =>
  rw[bO (.inr (.inr L))]at e;simp only[L,fw,cM,aN];exact v b fF 0 1 o.hr o.lo (by rw[← B,e,l6])
 rw[cC (by simp[-a7N,A,K,L])]at e;have bm:decide (¬c=0)=false:=by simp[-a7N,L]
 simp only[bm,aU,aJ,bs,cO,cp];exact v b j ((n:Int)+4) 0 o.hr o.lo (by rw[← B,e,ay])
theorem z9{s:cU}{n:Int}(h:(dJ s n).2.2=false):s.2=false∧0≤n∧((dJ s n).2.1.length:Int)+n=s.1.length:=by
 unfold dJ at h ⊢;split
 ·rename_i a;rw[bO a]at h;cases h
 ·rename_i a;have c:¬s.2=true:=λb=>a (.inl b)
  have d:¬n<0:=λb=>a (.inr (.inl b))
  have e:¬(s.1.length:Int)<n:=λb=>a (.inr (.inr b))
  refine⟨by simpa using c,by omega,?_⟩;simp only[gK];omega
theorem lX{s:cU}(h:(cQ s).2.2=false):s.2=false∧(cQ s).2.1.length+8=s.1.length:=by
 obtain⟨a,c,b⟩:=z9 (s:=s) (n:=8) h;exact⟨a,by
  have:((cQ s).2.1.length:Int)+8=s.1.length:=b;omega⟩
theorem vT{s:cU}(h:(dI s).2.2=false):s.2=false∧(dI s).2.1.length+4=s.1.length:=by
 obtain⟨a,c,b⟩:=z9 (s:=s) (n:=4) h;exact⟨a,by
  have:((dI s).2.1.length:Int)+4=s.1.length:=b;omega⟩
theorem H7(s:cU):(dK s).2=(dJ (dI s).2 (dI s).1).2:=by unfold dK;split<;>rfl
theorem r2{s:cU}(h:(dK s).2.2=false):s.2=false∧(dK s).2.1.length+4≤s.1.length:=by
 rw[H7]at h ⊢;obtain⟨a,c,d⟩:=z9 h;obtain⟨b,e⟩:=vT a;exact⟨b,by omega⟩
theorem Pf{s:cU}(h:(g5 s).2.2=false):s.2=false∧(g5 s).2.1.length+8≤s.1.length:=by
 have h:(dK (cQ (cQ s).2).2).2.2=false:=h;obtain⟨a,d⟩:=r2 h;obtain⟨b,e⟩:=lX a;obtain⟨c,f⟩:=lX b;exact⟨c,by show(dK (cQ (cQ s).2).2).2.1.length+8≤_;omega⟩
theorem NT{s:cU}(h:(hB s).2.2=false):s.2=false∧(hB s).2.1.length+8≤s.1.length:=by
 have h:(dK (dK s).2).2.2=false:=h;obtain⟨a,c⟩:=r2 h;obtain⟨b,d⟩:=r2 a;exact⟨b,by show(dK (dK s).2).2.1.length+8≤_;omega⟩
theorem Ql:∀(n:Nat) (s:cU),(fZ n s).2.2=false→s.2=false∧8*n+(fZ n s).2.1.length≤s.1.length∧fZ n s=gR n s
 |0,s,h=>⟨h,by simp[-a7N,fZ],rfl⟩
 | n+1,s,h=>by
  by_cases d:s.2=true
  ·rw[Qi _ _ d]at h;rw[d]at h;cases h
  ·unfold fZ at h ⊢;rw[cC d]at h ⊢;obtain⟨a,b,c⟩:=Ql n (g5 s).2 h;obtain⟨e,f⟩:=Pf a;refine⟨e,?_,?_⟩
   ·show 8*(n+1)+(fZ n (g5 s).2).2.1.length≤_;omega
   ·rw[c];rfl
theorem Pp:∀(n:Nat) (s:cU),(gR n s).2.2=false→s.2=false∧fZ n s=gR n s
 |0,s,h=>⟨h,rfl⟩
 | n+1,s,h=>by
  obtain⟨a,c⟩:=Pp n (g5 s).2 h;obtain⟨b,d⟩:=Pf a;refine⟨b,?_⟩;unfold fZ;rw[cC (by simp[-a7N,b]),c];rfl
theorem Hs:∀(n:Nat) (s:cU),(fY n s).2.2=false→s.2=false∧8*n+(fY n s).2.1.length≤s.1.length∧fY n s=g3 n s
 |0,s,h=>⟨h,by simp[-a7N,fY],rfl⟩
 | n+1,s,h=>by
  by_cases d:s.2=true
  ·rw[Qf _ _ d]at h;rw[d]at h;cases h
  ·unfold fY at h ⊢;rw[cC d]at h ⊢;obtain⟨a,b,c⟩:=Hs n (hB s).2 h;obtain⟨e,f⟩:=NT a;refine⟨e,?_,?_⟩
   ·show 8*(n+1)+(fY n (hB s).2).2.1.length≤_;omega
   ·rw[c];rfl
theorem C8:∀(n:Nat) (s:cU),(g3 n s).2.2=false→s.2=false∧fY n s=g3 n s
 |0,s,h=>⟨h,rfl⟩
 | n+1,s,h=>by
  obtain⟨a,c⟩:=C8 n (hB s).2 h;obtain⟨b,d⟩:=NT a;refine⟨b,?_⟩;unfold fY;rw[cC (by simp[-a7N,b]),c];rfl
theorem MD{s:cU}(h:(dI s).2.2=false)(b:8*(dI s).1.toNat≤(dI s).2.1.length):eM s=dI s:=by
 unfold eM;rw[cC];rintro(a|a)
 ·rw[h]at a;cases a
 ·rw[w7 (by omega)]at a;omega
theorem xD{s:cU}(h:(eM s).2.2=false):eM s=dI s:=by
 unfold eM at h ⊢;split
 ·rename_i a;rw[bO a]at h;cases h
 ·rfl
theorem a2W{s:cU}:((kz s).2.2=false∨(ja s).2=false)→kz s=gR (eM (gD s)).1.toNat (eM (gD s)).2:=by
 rintro(h|h)
 ·obtain⟨b,d,a⟩:=Ql _ _ h;have c:=MD b (by omega);rw[c];exact a
 ·obtain⟨b,a⟩:=Pp _ _ h;have c:=xD b;rw[c]at a ⊢;exact a
theorem a2U{s:cU}(h:(pV s).2=false):(kz s).2.2=false:=by
 have h:(dK (dK (cQ (cQ (kz s).2).2).2).2).2.2=false:=h;exact(lX (lX (r2 (r2 h).1).1).1).1
theorem a6j{s:cU}(h:(ik s).2=false):(ja s).2=false:=by
 have h:(dK (dK (cQ (cQ (ja s)).2).2).2).2.2=false:=h;exact(lX (lX (r2 (r2 h).1).1).1).1
theorem a2X{s:cU}(h:(lH s).2.2=false∨(jb s).2=false):(lH s).2=jb s∧mA s=dW s:=by
 have g:kz s=gR (eM (gD s)).1.toNat (eM (gD s)).2:=by
  apply a2W;rcases h with h|h
  ·exact .inl (a2U (vT (Hs _ _ h).1).1)
  ·have c:=(C8 _ _ h).1;have i:=xD c;rw[i]at c;exact .inr (a6j (vT c).1)
 have e:(kz s).2=ja s:=by rw[g];rfl
 have j:pV s=ik s:=by unfold pV ik;rw[e]
 have f:lH s=g3 (eM (ik s)).1.toNat (eM (ik s)).2:=by
  unfold lH at h ⊢;rw[j]at h ⊢;rcases h with h|h
  ·obtain⟨b,k,a⟩:=Hs _ _ h;have d:=MD b (by omega);rw[d];exact a
  ·obtain⟨b,a⟩:=C8 _ _ h;have d:=xD b;rw[d]at a ⊢;exact a
 refine⟨by rw[f];rfl,?_⟩;unfold mA dW;rw[e,f,g]
theorem Tu(c i:Int)(l:List Int)(j:mA ((l.take (num (l.take 4)).toNat).drop 4,false)=dW ((l.take (num (l.take 4)).toNat).drop 4,false)→c=i):jW c l=iy i l:=by
 unfold jW iy;generalize p:((l.take (num (l.take 4)).toNat).drop 4,false)=a at j ⊢;by_cases b:l.length<4
 ·rw[bO b,bO b]
 rw[cC b,cC b];by_cases d:num (l.take 4)<4∨(l.length:Int) - 4<num (l.take 4)
 ·rw[bO d,bO d]
 rw[cC d,cC d];by_cases e:gz (l.take (num (l.take 4)).toNat)≠num ((l.drop (num (l.take 4)).toNat).take 4)
 ·rw[bO e,bO e]
 rw[cC e,cC e];by_cases f:(lH a).2.2=false∨(jb a).2=false
 ·obtain⟨k,h⟩:=a2X f;have:=j h;subst this;rw[k,h];have m:(jb a).1≠[]↔0<(jb a).1.length:=by
   rw[List.length_pos_iff]
  simp only[m];split
  ·rfl
  ·rw[Int.add_comm]
 ·have n:(lH a).2.2=true:=by
    cases g:(lH a).2.2
    ·exact absurd (.inl g) f
    ·rfl
  have o:(jb a).2=true:=by
   cases g:(jb a).2
   ·exact absurd (.inr g) f
   ·rfl
  rw[bO (.inl n),bO (.inl o)]
theorem a5h(s:cU)(n:Int):(dJ s n).1.length≤s.1.length:=by
 unfold dJ;split
 ·exact mI _
 ·simp[-a7N];omega
theorem a5i(s:cU):((dK s).1.getD []).length≤s.1.length:=by
 have a:=a5h (dI s).2 (dI s).1;have b:=vS s;unfold dK;split
 ·simp[-a7N]
 ·simp[-a7N,lu];omega
theorem Qj:∀(n:Nat) (s:cU),(fZ n s).2.1.length≤s.1.length
 |0,s=>bB _
 | n+1,s=>by
  have a:=Qj n (g5 s).2;have b:=Pe s;unfold fZ;split
  ·exact bB _
  ·simp only;omega
theorem Qh:∀(n:Nat) (s:cU),∀p∈(fY n s).1,p.1.length≤s.1.length
 |0,s,p,a=>by cases a
 | n+1,s,p,a=>by
  have b:=a5i s;have c:=qR s;have d:=qR (dK s).2;unfold fY at a;split at a
  ·cases a
  ·rcases fc.1 a with rfl|a
   ·exact b
   ·have:=Qh n (hB s).2 p a;have e:(hB s).2.1.length=(dK (dK s).2).2.1.length:=rfl;omega
theorem a2V(s:cU):∀p∈(mA s).fs,p.1.length≤s.1.length:=by
 intro p a;have d:=Qh _ _ p (show p∈(fY (dI (pV s)).1.toNat (dI (pV s)).2).1 from a);have e:=vS (pV s);have f:=qR (dK (cQ (cQ (kz s).2).2).2).2;have g:=qR (cQ (cQ (kz s).2).2).2;have h:=oY (cQ (kz s).2).2;have i:=oY (kz s).2;have j:=Qj (dI (gD s)).1.toNat (dI (gD s)).2;have k:=vS (gD s);have l:=Il s;have b:(pV s).1.length=(dK (dK (cQ (cQ (kz s).2).2).2).2).2.1.length:=rfl;have c:(kz s).2.1.length=(fZ (dI (gD s)).1.toNat (dI (gD s)).2).2.1.length:=rfl;omega
def lv(a:Int):List It→Int
 |[]=>0
 |i::r=>if j0 i≠0 then j0 i else if i.e.a0≠a then 24 else if i.r=[42]then 6 else lv a r
def gN(b:Int)(a:List It):Int:=if 40<a.length then 4 else lv b a
theorem QK(i T:Int)(b:List It)(d:D)(h:J)(E:nw h b d):R rJ [.agg (eJ i T d)] h=some (.int .i64 (gN i b),h):=by
 apply Wp.val;rw[U3];simp only[JT,gq,ra,lE,tK E,bs,aL,dE];by_cases C:40<b.length
 ·have t:(b.length:Int)>40:=by omega
  simp only[t,cM,aK,aN,cP,gN,C];exact .some rfl
 have t:¬(b.length:Int)>40:=by omega
 have H:gN i b=lv i b:=by simp only[gN,C,aJ]
 rw[H];simp only[t,bT,aK,aU,aJ];generalize I:lv i b=p;refine Wp.loop (λu r j=>j=h∧∃v w x y z A B,∃f:Nat,r=[v,w,x,.int .i64 f,y,z,A,B]∧u+f=b.length∧lv i (b.drop f)=p)
  (λo=>o.2.2=h∧((o.1 = .ext 0∧p=0)∨(o.1 = .ret∧Z 0 o.2.1 = .int .i64 p))) b.length ⟨rfl,_,_,_,_,_,_,_,0,rfl,rfl,I⟩ ?_ ?_
 ·rintro u r j ⟨rfl,v,w,x,y,z,A,B,f,rfl,aa,a⟩;simp only[JU,aW,bL,bs,aL,bS];refine Wp.dF ?_ ?_
  ·intro g;have g:f<b.length:=fe g;obtain⟨c,F⟩:=hq g;have P:=eR f (by omega);obtain⟨ab,L,M⟩:=zI E f c F;have K:=HE c j;have V:aB tab aC 0 (.aE (bG c.e))=some (.aE (bG c.e)):=id rfl;have n:Y tab j U (.aE (bG c.e))=some (.int .i64 c.e.a0):=id rfl;rw[rp F]at a;unfold lv at a;simp only[L,M,kL,mL,K,bs,dH];by_cases k:j0 c=0
   case neg =>
    rw[bO k]at a;simp only[k,dU,fw,cM,aK,aN];exact .some (.inr ⟨by simp,rfl,.inr ⟨rfl,by rw[← a];rfl⟩⟩)
   rw[cC (λs=>s k)]at a;simp only[k,dU,eF,bT,aK,aU,aJ,pH,V,n,uN,uO,bs,dH];by_cases l:c.e.a0=i
   case neg =>
    rw[bO l]at a;simp only[l,fw,cM,aK,aN];exact .some (.inr ⟨by simp,rfl,.inr ⟨rfl,by rw[← a];rfl⟩⟩)
   rw[cC (λs=>s l)]at a;simp only[l,eF,bT,aK,aU,aJ,pG,pJ,kc,bs];by_cases m:c.r=[42]
   ·rw[bO m]at a;have q:(c.r==([42]:aD))=true:=by simpa using m
    simp only[q,aK,aN];exact .some (.inr ⟨by simp,rfl,.inr ⟨rfl,by rw[← a];rfl⟩⟩)
   ·rw[cC m]at a;have q:(c.r==([42]:aD))=false:=by simpa using m
    simp only[q,aK,aU,aJ,cO,P,bs];exact .some (.inl ⟨rfl,u - 1,by omega,rfl,_,_,_,_,_,_,_,f+1,rfl,by omega,a⟩)
  ·intro g;have g:b.length≤f:=by
    have:¬(f:Int)<b.length:=by simpa using g
    omega
   rw[kD g]at a;exact .some (.inr ⟨by simp,rfl,.inl ⟨rfl,a.symm⟩⟩)
 ·rintro⟨X,r,j⟩ ⟨G,n⟩;simp only at n G;subst G;rcases n with⟨rfl,rfl⟩|⟨rfl,N⟩
  ·simp only[dA,cN,bs,cP];exact .some rfl
  ·simp only[jQ,jG,jX,aW,bs,N,cP];exact .some rfl
theorem HJ(g V:Int)(a:List It)(d:D)(h:J)(s:nw h a d)(M:∀i∈a,qd i.e):R qw [.agg (eJ g V d)] h=some (.int .i64 (gN g a),h):=by
 apply Wp.val;rw[Ni];simp only[Bd,gq,ra,lE,tK s,bs,aL,dE];by_cases F:40<a.length
 ·have v:(a.length:Int)>40:=by omega
  simp only[v,cM,aK,aN,cP,gN,F];exact .some rfl
 have v:¬(a.length:Int)>40:=by omega
 have H:gN g a=lv g a:=by simp only[gN,F,aJ]
 rw[H];simp only[v,bT,aK,aU,aJ];generalize I:lv g a=p;refine Wp.loop (λw r j=>j=h∧∃x y z A B C E,∃c:Nat,r=[x,.int .i64 c,y,z,A,B,C,E]∧w+c=a.length∧lv g (a.drop c)=p)
  (λo=>o.2.2=h∧((o.1 = .ext 0∧p=0)∨(o.1 = .ret∧Z 0 o.2.1 = .int .i64 p))) a.length ⟨rfl,_,_,_,_,_,_,_,0,rfl,rfl,I⟩ ?_ ?_
 ·rintro w r j ⟨rfl,x,y,z,A,B,C,E,c,rfl,ab,b⟩;simp only[Be,aW,bL,bs,aL,ra,lE,tK s,bS];refine Wp.dF ?_ ?_
  ·intro f;have f:c<a.length:=fe f;obtain⟨i,u⟩:=hq f;have Q:=eR c (by omega);obtain⟨ac,L,N⟩:=zI s c i u;have K:=Hz i j (M i (eW u));have X:aB tab aC 0 (.aE (bG i.e))=some (.aE (bG i.e)):=id rfl;have n:Y tab j U (.aE (bG i.e))=some (.int .i64 i.e.a0):=id rfl;rw[rp u]at b;unfold lv at b;simp only[L,N,kL,mL,K,bs,dH];by_cases k:j0 i=0
   case neg =>
    rw[bO k]at b;simp only[k,dU,fw,cM,aK,aN];exact .some (.inr ⟨by simp,rfl,.inr ⟨rfl,by rw[← b];rfl⟩⟩)
   rw[cC (λt=>t k)]at b;simp only[k,dU,eF,bT,aK,aU,aJ,pH,X,n,uN,uO,bs,dH];by_cases l:i.e.a0=g
   case neg =>
    rw[bO l]at b;simp only[l,fw,cM,aK,aN];exact .some (.inr ⟨by simp,rfl,.inr ⟨rfl,by rw[← b];rfl⟩⟩)
   rw[cC (λt=>t l)]at b;simp only[l,eF,bT,aK,aU,aJ,pG,pJ,kc,bs];by_cases m:i.r=[42]
   ·rw[bO m]at b;have q:(i.r==([42]:aD))=true:=by simpa using m
    simp only[q,aK,aN];exact .some (.inr ⟨by simp,rfl,.inr ⟨rfl,by rw[← b];rfl⟩⟩)
   ·rw[cC m]at b;have q:(i.r==([42]:aD))=false:=by simpa using m
    simp only[q,aK,aU,aJ,cO,Q,bs];exact .some (.inl ⟨rfl,w - 1,by omega,rfl,_,_,_,_,_,_,_,c+1,rfl,by omega,b⟩)
  ·intro f;have f:a.length≤c:=by
    have:¬(c:Int)<a.length:=by simpa using f
    omega
   rw[kD f]at b;exact .some (.inr ⟨by simp,rfl,.inl ⟨rfl,b.symm⟩⟩)
 ·rintro⟨aa,r,j⟩ ⟨G,n⟩;simp only at n G;subst G;rcases n with⟨rfl,rfl⟩|⟨rfl,P⟩
  ·simp only[dA,cN,bs,cP];exact .some rfl
  ·simp only[jQ,jG,jX,aW,bs,P,cP];exact .some rfl
theorem L1(b:hH):fA b=eJ b.hs b.nu b.d:=rfl
theorem a4G{a b:Ev}(h:j6 a b):kO a b=true:=by
 obtain⟨c,d,e,f,g,i,j,k,l,m⟩:=h;simp[-a7N,kO,c,d,e,f,g,i,j,k,l,m]
theorem j6.symm{a b:Ev}(h:j6 a b):j6 b a:=⟨h.a0.symm,h.a1.symm,h.a2.symm,h.a3.symm,h.a5.symm,h.a6.symm,h.s7.symm,h.s8.symm,h.ls.symm,h.fs.symm⟩
theorem j6.trans{a b c:Ev}(h:j6 a b)(k:j6 b c):j6 a c:=⟨h.a0.trans k.a0,h.a1.trans k.a1,h.a2.trans k.a2,h.a3.trans k.a3,h.a5.trans k.a5,h.a6.trans k.a6,h.s7.trans k.s7,h.s8.trans k.s8,h.ls.trans k.ls,h.fs.trans k.fs⟩
def h5:List Ev→List Ev→Prop
 |[],[]=>True
 |a::l,b::r=>j6 a b∧h5 l r
 |_,_=>False
theorem h5.len:∀{l r:List Ev},h5 l r→l.length=r.length
 |[],[],_=>rfl
 |_::_,_::_,h=>by simp[-a7N,h.2.len]
 |[],_::_,h=>h.elim
 |_::_,[],h=>h.elim
theorem h5.get:∀{l r:List Ev},h5 l r→∀(i:Nat) (a b:Ev),l[i]?=some a→r[i]?=some b→j6 a b
 | a::l,b::r,h,0,x,y,c,d=>by
  simp at c d;subst c;subst d;exact h.1
 |a::l,b::r,h,i+1,x,y,c,d=>h.2.get i x y (by simpa using c) (by simpa using d)
 |[],[],_,i,x,y,c,_=>by simp at c
 |[],_::_,h,_,_,_,_,_=>h.elim
 |_::_,[],h,_,_,_,_,_=>h.elim
theorem h5.app:∀{l r a b:List Ev},h5 l r→h5 a b→h5 (l++a) (r++b)
 |[],[],_,_,_,k=>k
 |_::_,_::_,_,_,h,k=>⟨h.1,h.2.app k⟩
 |[],_::_,_,_,h,_=>h.elim
 |_::_,[],_,_,h,_=>h.elim
theorem a4u(l r:List Ev)(c d:D)(h:J)(i:aI 10 bG l c)(k:aI 10 bG r d)(m:h5 l r)(E:l.length≤1000000):R DL [c,d] h=some (.bool true,h):=by
 apply Wp.val;have F:=m.len;have w:(r.length:Int)=(l.length:Int):=by omega
 rw[rq];simp only[KU,bs,aL,vU i,vU k,w,dH,dU,eF,bT,aK,aU,aJ];refine Wp.loop (λj e f=>f=h∧∃t u v,∃a:Nat,e=[t,.int .i64 a,u,v]∧j+a=l.length)
  (λr=>r.1 = .ext 0∧r.2.2=h) l.length ⟨rfl,_,_,_,0,rfl,rfl⟩ ?_ ?_
 ·rintro j e f ⟨rfl,t,u,v,a,rfl,C⟩;simp only[KV,aW,bL,bs,aL,vU i,bS];refine Wp.dF ?_ ?_
  ·intro g;have g:a<l.length:=fe g;obtain⟨s,n⟩:=hq g;obtain⟨b,o⟩:∃b,r[a]?=some b:=⟨_,dG (by omega)⟩
   have x:=a4G (m.get a s b n o);have z:aO tab dX c (.int .i64 a)=some (.aE (bG s)):=by rw[vJ i];simp[-a7N,n]
   have A:aO tab dX d (.int .i64 a)=some (.aE (bG b)):=by rw[vJ k];simp[-a7N,o]
   have y:=eR a (by omega);simp only[z,A,kJ,s61,x,bs,gB,fy,aK,aU,aJ,cO,y];exact .some (.inl ⟨rfl,j - 1,by omega,rfl,_,_,_,a+1,rfl,by omega⟩)
  ·intro _;exact .some (.inr ⟨by simp,rfl,rfl⟩)
 ·rintro⟨B,e,f⟩ ⟨p,q⟩;simp only at p q;subst p;subst q;simp only[dA,cN,bs,cP];exact .some rfl
theorem xo:∀(m:List It) (f:List bY) (n:List cB) (d e:List Ev),gZ f n m≠none→iu f m d→iu f m e→h5 d e
 | [],f,n,d,e,_,h,k=>by
  simp only[iu]at h k;subst h;subst k;trivial
 | i::r,f,n,d,e,c,h,k=>by
  rw[q7]at c;unfold iu at h k;split at h
  ·rename_i g;rw[g]at c;exact absurd rfl c
  ·rename_i g;rw[g]at c k;exact xo r f _ d e c h k
  ·rename_i kk g;rw[g]at c k;obtain⟨j,a,h⟩:=h;obtain⟨u,b,k⟩:=k;have t:j6 j.e u.e:=⟨a.a0.trans b.a0.symm,a.a1.trans b.a1.symm,a.a2.trans b.a2.symm,a.a3.trans b.a3.symm,a.a5.trans b.a5.symm,a.a6.trans b.a6.symm,a.s7.trans b.s7.symm,a.s8.trans b.s8.symm,a.ls.trans b.ls.symm,a.fs.trans b.fs.symm⟩
   split at h
   ·rename_i l;rw[bO l]at k;obtain⟨v,o,rfl,q,h⟩:=h;obtain⟨w,p,rfl,s,k⟩:=k;exact⟨q.trans (t.trans s.symm),xo r _ _ o p c h k⟩
   ·rename_i l;rw[cC l]at k;exact xo r _ _ d e c h k
theorem a4o(l:List bY)(d:D)(m:bY)(h:J)(g:aI 3 cZ l d)(P:l.length≤1000000):∃d',R vt [d,.agg (cZ m)] h=some (d',h)∧aI 3 cZ (ih l m) d':=by
 suffices Wp (R vt [d,.agg (cZ m)] h) (λb=>b.2=h∧aI 3 cZ (ih l m) b.1) by
  obtain⟨⟨A,ao⟩,F,rfl,G⟩:=this;exact⟨A,F,G⟩
 have e:=QI l d m.h m.f h g P;have M:kM ⟨m.h,m.f,0⟩ l=kM m l:=za ⟨m.h,m.f,0⟩ m rfl rfl l;have L:iO l ⟨m.h,m.f,0⟩=iO l m:=by
  have:=N6 l m.h m.f m.o;unfold iO at this ⊢;exact this
 have ag:aB tab eO 0 (.aE (cZ m))=some (.aE (cZ m)):=id rfl;have ah:aB tab eO 1 (.aE (cZ m))=some (.aE [.int .i64 m.f,.int .i64 m.o]):=id rfl;have X:Y tab h U (.aE (cZ m))=some (.int .i64 m.h):=id rfl;have ad:∀q:J,Y tab q eO (.aE (cZ m))=some (.agg (cZ m)):=λq=>id rfl
 have H:dL tab dV 1 [0] [.agg (cZ m)]=some (.sl 3 true [cZ m]):=id rfl;have N:=tu ⟨m.h,m.f,0⟩ l;rw[M]at e N;rw[L]at e;obtain⟨al,B,y⟩:=a4P g (k :=.i64) (n:=(kM m l:Int)) (by omega) (by omega);rw[eQ]at y;rw[VF];simp only[KH,gq,bs,ag,ah,X,eU,e,fU,fC,fV,B,aL];have t:=List.length_take_le (kM m l) l;have aq:(l.take (kM m l)).length≤1000000:=by omega
 refine Aq (n0:=h.length) (rows:=[]) (bB _) (.aA _ _ _ _) (mB _ y) (by simp only[fN,e6];omega) λaw an u ae aa _ _=>?_
 rw[kp]at u;simp only[bs,ad,H];refine Aq (n0:=h.length) ae u (hC _ _ _ _) (by simp only[fN,g7,e6];omega) λaj E af au ab _ _=>?_
 simp only[bs];have p:∀n:Nat,n≤l.length→(l.take (kM m l)++[m]++l.drop n)=ih l m→Wp ((eN tab dV true false false [d,.int .i64 (n:Int)]).bind λai=>(dB tab E dV dV aj ai).bind λw=>scope h w.2 (aF [w.1])) λb=>b.2=h∧aI 3 cZ (ih l m) b.1:=by
  intro n ar I;obtain⟨am,C,z⟩:=a4Q g (k :=.i64) (n:=(n:Int)) (by omega) (by omega);rw[eQ]at z;simp only[C,bs];have ap:(l.drop n).length≤1000000:=by simp;omega
  refine Aq (n0:=h.length) (by omega) af (mB _ z) (by simp only[fN,bF,g7,e6];omega) λak r v av ac _ _=>?_
  have Q:(l.take (kM m l)).map cZ++[cZ m]++(l.drop n).map cZ=(ih l m).map cZ:=by rw[← I];simp[-a7N]
  rw[Q]at v;have x:=gS (n0:=h.length) (n:=3) v (bB _) λc _=>oW _ r _ c
  simp only[bs,cP];rw[ff (d':=cS h.length r 4 ak) rfl (e7 x λc _=>oX _ c) (by omega) (λj i=>by rw[ac j i,ab j i,aa j i])];exact .some ⟨rfl,x⟩
 by_cases a:iO l m=true
 ·have t:kM m l<l.length:=by
    unfold iO at a;cases s:l[kM m l]? with
    |none=>rw[s]at a;cases a
    |some A=>exact(bR.1 s).1
  have T:IntKind.wrap .i64 ((kM m l:Int)+1)=((kM m l+1:Nat):Int):=by rw[bJ (by omega) (by omega)];omega
  simp only[a,aK,aN,cO,T,bs,cN,aW];refine p _ (by omega) ?_;unfold ih;rw[bO a,LB,bO t];simp[-a7N]
 ·have K:iO l m=false:=by simpa using a
  simp only[K,aK,aU,aJ,bs,cN,aW];refine p _ (by omega) ?_;unfold ih;rw[cC a]
theorem Pg{e:Ev}{m:Int}(d:ig e m≠9)(c:ig e m≠4)(a:ig e m≠19):e.ls.length≤40∧∃x r,e.ls=x::r∧x.off=e.a2:=by
 unfold ig at d c a;by_cases b:e.ls.length=0
 ·rw[bO b]at d;exact absurd rfl d
 rw[cC b]at c a;by_cases f:40<e.ls.length
 ·rw[bO f]at c;exact absurd rfl c
 rw[cC f]at a;refine⟨by omega,?_⟩;cases g:e.ls with
 |nil=>rw[g]at b;exact absurd rfl b
 | cons x r =>
  refine⟨x,r,rfl,?_⟩;rw[g]at a;unfold jP at a;split at a
  ·rename_i h;exact h.1
  ·exact absurd rfl a
theorem OE{i:It}(h:j0 i=0):i.e.ls.length≤40∧i.e.fs.length≤32∧∃x r,i.e.ls=x::r∧x.off=i.e.a2:=by
 unfold j0 at h;by_cases g:i.r=[]
 ·rw[bO g]at h;unfold pq at h;split at h
  ·cases h
  split at h
  ·cases h
  split at h
  ·rename_i a;exact absurd h a
  rename_i b;have b:ig i.e 2000=0:=j5.1 b;obtain⟨c,d⟩:=Pg (e:=i.e) (m:=2000) (by rw[b];decide) (by rw[b];decide) (by rw[b];decide);refine⟨c,?_,d⟩;split at h
  ·cases h
  split at h
  ·rename_i a;exact absurd h a
  rename_i k;by_cases j:32<i.e.fs.length
  ·have:(fJ i.e.fs).1=4:=by simp only[fJ,j,aN]
   exact absurd this (by rw[j5.1 k];decide)
  ·omega
 ·rw [cC g]at h;split at h
  ·cases h
  split at h
  ·cases h
  split at h
  ·rename_i a;rcases a with a|a|a<;>rw[a]at h<;>cases h
  rename_i b;obtain⟨c,d⟩:=Pg (e:=i.e) (m:=60000) (λx=>b (.inl x)) (λx=>b (.inr (.inl x))) (λx=>b (.inr (.inr x)));refine⟨c,?_,d⟩;split at h
  ·cases h
  ·rename_i a;have:i.e.fs.length=0:=by
    by_cases f:i.e.fs.length=0
    ·exact f
    ·exact absurd (.inr (.inr (.inr (.inr (.inl f))))) a
   omega
theorem Mt{a:Int}:∀{b:List It},lv a b=0→∀i∈b,j0 i=0∧i.e.a0=a∧i.r≠[42]
 |[],_,i,hi=>by cases hi
 | x::r,h,i,hi=>by
  unfold lv at h;split at h
  ·rename_i f;exact absurd h f
  rename_i c;split at h
  ·cases h
  rename_i h2;split at h
  ·cases h
  rename_i d;rcases fc.1 hi with rfl|hi
  ·exact⟨j5.1 c,j5.1 h2,d⟩
  ·exact Mt h i hi
theorem qh{b:Int}{a:List It}(h:gN b a=0):a.length≤40∧∀i∈a,j0 i=0∧i.e.a0=b∧i.r≠[42]:=by
 unfold gN at h;split at h
 ·cases h
 ·exact⟨by omega,Mt h⟩
theorem RO(a:List cB)(h:Int)(r:aD):fk a h r ((0:Nat):Int)=a:=by
 unfold fk;rw[bO (by omega)]
structure jf (h g:J) (ms:List bY) (ts:List cB) (es:List Ev) (dm dt out:D):Prop where
 len:h.length+2≤g.length
 p4:g[h.length]?=some (.row aX 2 [[.aA,.aA]])
 p8:g[h.length+1]?=some (.row aX 2 [[dm,dt]])
 m:aI 3 cZ ms dm
 t:aI 3 cY ts dt
 ow:aR g (h.length+2) aC 10 (es.map bG) out
 low:∀q,q<h.length→g[q]?=h[q]?
theorem jf.new{h g g':J}{f:List bY}{j:List cB}{e:List Ev}{c d i:D}(S:jf h g f j e c d i)(n:g.length≤g'.length)(b:∀a,a<g.length→g'[a]?=g[a]?):jf h g' f j e c d i:=by
 have:=S.len;exact⟨by omega,by rw[b _ (by omega)];exact S.p4,by rw[b _ (by omega)];exact S.p8,S.m,S.t,S.ow.cL λa _ k=>b a (S.ow.lt k).2,λa l=>by rw[b _ (by omega)];exact S.low a l⟩
theorem jf.z{h g g':J}{f:List bY}{j:List cB}{e:List Ev}{c d i:D}(S:jf h g f j e c d i){z:Nat}{row:List D}(a:g[z]?=some (.row aH 11 [row]))(r:h.length≤z)(s:bM z g g'):jf h g' f j e c d i:=by
 have p:h.length≠z:=ky S.p4 a (by decide);have q:h.length+1≠z:=ky S.p8 a (by decide);have n:=S.len;exact⟨by rw[s.1];exact n,by rw[s.2 _ p];exact S.p4,by rw[s.2 _ q];exact S.p8,S.m,S.t,S.ow.cL λb _ l=>s.2 b λk=>v8 S.ow a (by decide) (k▸l),λb o=>by rw[s.2 _ (by omega)];exact S.low b o⟩
theorem Ot(a b v:D)(k:Nat)(c:v.one=true)(d:k<2):([[a,b]].set 0 (dZ [a,b] (0+k) (cX v)))=[[a,b].set k v]:=by
 rw[eS,z0 _ _ _ c (by simp;omega)];rfl
end Go.Proofs.YtkcdpfogoepamaaGreatDoor
namespace Go.Eng
abbrev B1:=@List.sublist_flatten_of_mem
end Go.Eng
namespace Go.Proofs.YtkcdpfogoepamaaGreatDoor
open Go.Eng Go.Pi
open Option renaming bind_some → a7N
theorem jf.H5{h g:J}{p:List bY}{x:List cB}{j:List Ev}{c i q:D}(S:jf h g p x j c i q){s:List cB}{b:D}(n:aI 3 cY s b){z:Nat}{row:List D}(o:g[z]?=some (.row aH 11 [row])){t:Type}{f:J→Option t}{Q:t→Prop}
  (k:∀g',jf h g' p s j c b q→g'[z]?=some (.row aH 11 [row])→g'.length=g.length→Wp (f g') Q):Wp ((aS tab g dN (.ptr (h.length+1) 0 (0+1)) b).bind f) Q:=by
 have d:=fx n;have u:=S.len;have w:h.length+1≠z:=ky S.p8 o (by decide);refine Iz (kk:=0) (off:=0+1) (row:=[c,i]) (v:=b) S.p8 (by rfl) (by rw[(fT d).1];rfl) (by simp) (fT d).2 λg' r a=>?_
 rw[Ot _ _ _ _ d (by omega)]at r;exact k g' ⟨by rw[a.1];exact u,by rw[a.2 _ (by omega)];exact S.p4,r,S.m,n,S.ow.cL λe l _=>a.2 e (by omega),λe l=>by rw[a.2 _ (by omega)];exact S.low e l⟩ (by rw[a.2 _ (iG w)];exact o) a.1
theorem jf.mrk{h g:J}{w:List bY}{r:List cB}{j:List Ev}{i c p:D}(S:jf h g w r j i c p){o:List bY}{b:D}(m:aI 3 cZ o b){z:Nat}{row:List D}(n:g[z]?=some (.row aH 11 [row])){s:Type}{f:J→Option s}{Q:s→Prop}
  (k:∀g',jf h g' o r j b c p→g'[z]?=some (.row aH 11 [row])→g'.length=g.length→Wp (f g') Q):Wp ((aS tab g dV (.ptr (h.length+1) 0 (0+0)) b).bind f) Q:=by
 have d:=fx m;have u:=S.len;have x:h.length+1≠z:=ky S.p8 n (by decide);refine Aw (kk:=0) (off:=0+0) (row:=[i,c]) (v:=b) S.p8 (by rfl) (by rw[(fT d).1];rfl) (by simp) (fT d).2 λg' q a=>?_
 rw[Ot _ _ _ _ d (by omega)]at q;exact k g' ⟨by rw[a.1];exact u,by rw[a.2 _ (by omega)];exact S.p4,q,m,S.t,S.ow.cL λe l _=>a.2 e (by omega),λe l=>by rw[a.2 _ (by omega)];exact S.low e l⟩ (by rw[a.2 _ (iG x)];exact n) a.1
theorem jf.l0{h g:J}{d:List bY}{f:List cB}{c:List Ev}{a b e:D}(S:jf h g d f c a b e):Y tab g dV (.ptr (h.length+1) 0 (0+0))=some a:=by rw[zd,dM S.p8];rfl
theorem jf.l1{h g:J}{d:List bY}{f:List cB}{c:List Ev}{b a e:D}(S:jf h g d f c b a e):Y tab g dN (.ptr (h.length+1) 0 (0+1))=some a:=by rw[O3,dM S.p8];rfl
theorem jf.la{h g:J}{d:List bY}{f:List cB}{c:List Ev}{a b e:D}(S:jf h g d f c a b e):Y tab g aX (.ptr (h.length+1) 0 0)=some (.agg [a,b]):=by rw[m1,dM S.p8];rfl
structure RF (g:J) (z:Nat) (i:It):Prop where
 a0:Y tab g U (.ptr z 0 (0+1+0))=some (.int .i64 i.e.a0)
 a1:Y tab g U (.ptr z 0 (0+1+1))=some (.int .i64 i.e.a1)
 a2:Y tab g U (.ptr z 0 (0+1+2))=some (.int .i64 i.e.a2)
 a3:Y tab g U (.ptr z 0 (0+1+3))=some (.int .i64 i.e.a3)
 ls:Y tab g bU (.ptr z 0 (0+1+4))=some i.e.ld
 r:Y tab g bH (.ptr z 0 (0+0))=some (.str i.r)
 e:Y tab g aC (.ptr z 0 (0+1))=some (.agg (bG i.e))
 i:Y tab g aH (.ptr z 0 0)=some (.agg (aT i))
theorem vG{g:J}{z:Nat}{i:It}(b:g[z]?=some (.row aH 11 [aT i])):RF g z i:=by
 have a:g.row z 0=some (aT i):=by rw[dM b];rfl
 exact⟨by rw[iC,a];rfl,by rw[iC,a];rfl,by rw[iC,a];rfl,by rw[iC,a];rfl,by rw[m2,a];rfl,by rw[j1,a];rfl,by rw[tA,a];rfl,by rw[pM,a];rfl⟩
theorem a4n{b:hH}(eh:b.cW.length≤40)(dh:∀i∈b.cW,j0 i=0∧i.e.a0=b.hs∧i.r≠[42])(dl:∀g,R qw [.agg (fA b)] g=some (.int .i64 0,g)){y:List bY}{G:List cB}{l o:D}(h:J)(az:aI 3 cZ y l)(a4:aI 3 cY G o)(et:y.length≤90000)(ew:G.length≤90000):
  ∃x,R qy [.agg [l,o],.agg (fA b)] h=some (x,h)∧na y G l o b.cW x:=by
 suffices Wp (R qy [.agg [l,o],.agg (fA b)] h) (λc2=>c2.2=h∧na y G l o b.cW c2.1) by
  obtain⟨⟨x,h'⟩,av,rfl,aw⟩:=this;exact⟨x,av,aw⟩
 have dj:∀g:J,Y tab g bP (.aE (fA b))=some (.agg (fA b)):=λg=>id rfl
 have b5:∀g:J,Y tab g aX (.aE [l,o])=some (.agg [l,o]):=λg=>id rfl
 have bz:∀{x ap:D},x.one=true→ap.one=true→(D.agg [x,ap]).fo=true:=λ{x ap} av aw=>by
  cases x<;>first|(cases ap<;>first|rfl|(simp[-a7N,D.one]at aw))|(simp[-a7N,D.one]at av)
 have b0:(aG h aX 2 [[.aA,.aA]])[h.length]?=some (.row aX 2 [[.aA,.aA]]):=fO _ _ _ _;have a1:(aG h aX 2 [[.aA,.aA]]).length=h.length+1:=by simp[-a7N,aG]
 have b1:∀a,a<h.length→(aG h aX 2 [[.aA,.aA]])[a]?=h[a]?:=λa K=>eT _ _ _ _ K
 generalize bq:((D.ptr h.length 0 0,aG h aX 2 [[.aA,.aA]]):D × J)=c3;have al:c3.1 = .ptr h.length 0 0:=by rw[← bq]
 have c0:c3.2=aG h aX 2 [[.aA,.aA]]:=by rw[← bq]
 generalize aG h aX 2 [[.aA,.aA]]=aa at b0 a1 b1 c0;have c5:=dl aa;rw[Nl];simp only[Bl,gq,bs,bq,c0,dj,c5,dH,dU,eF,bT,aK,aU,aJ,b5,a1,aL];have b9:(aG aa aX 2 [[.aA,.aA]])[h.length+1]?=some (.row aX 2 [[.aA,.aA]]):=by rw[← a1];exact fO _ _ _ _
 have bb:∀a,a<h.length+1→(aG aa aX 2 [[.aA,.aA]])[a]?=aa[a]?:=λa K=>eT _ _ _ _ (by omega)
 have cy:(aG aa aX 2 [[.aA,.aA]]).length=h.length+2:=by simp[-a7N,aG,a1]
 generalize cu:((D.ptr (h.length+1) 0 0,aG aa aX 2 [[.aA,.aA]]):D × J)=c4;have dw:c4.1 = .ptr (h.length+1) 0 0:=by rw[← cu]
 have dx:c4.2=aG aa aX 2 [[.aA,.aA]]:=by rw[← cu]
 generalize aG aa aX 2 [[.aA,.aA]]=ee at b9 bb cy dx;refine m8 (kk:=0) (off:=0) (row:=[.aA,.aA]) (v :=.agg [l,o]) b9 (by rfl) (by rfl) (by simp) (bz (fx az) (fx a4)) λct bg bf=>?_
 replace bg:ct[h.length+1]?=some (.row aX 2 [[l,o]]):=bg;have c8:jf h ct y G [] l o .aA:=⟨by rw[bf.1];omega,by rw[bf.2 _ (by omega),bb _ (by omega)];exact b0,bg,az,a4,.aA _ _ _ _,λa K=>by rw[bf.2 _ (by omega),bb _ (by omega),b1 _ K]⟩
 clear bg bf b9 bb cy b0 a1 b1 c5;simp only[al];refine Wp.loop (λa5 cp g=>∃(n:Nat) (cf ci cj ck I ba cl cm cn cg ch:D) (j:List bY) (s:List cB) (q:List Ev) (u A F:D),cp=[.aA,.int .i64 0,F,.int .i64 n,cf,ci,cj,ck,I,ba,cl,cm,cn,cg,ch]∧a5+n=b.cW.length∧jf h g j s q u A F ∧
   j.length≤y.length+n∧s.length≤G.length+2*n∧q.length≤n∧gZ y G b.cW=gZ j s (b.cW.drop n)∧∀C,iu j (b.cW.drop n) C→iu y b.cW (q++C))
  (λc=>(c.1 = .ret∧Z 0 c.2.1 = .aA∧Z 1 c.2.1 = .int .i64 23∧gZ y G b.cW=none∧h.length≤c.2.2.length∧(∀a,a<h.length→c.2.2[a]?=h[a]?)∧c.2.2[h.length]?=some (.row aX 2 [[l,o]])) ∨
   (c.1 = .ext 0∧∃(j:List bY) (s:List cB) (q:List Ev) (u A F:D),Z 2 c.2.1=F∧jf h c.2.2 j s q u A F∧gZ y G b.cW=some (j,s)∧iu y b.cW q∧q.length≤b.cW.length))
  b.cW.length ⟨0,_,_,_,_,_,_,_,_,_,_,_,y,G,[],l,o,.aA,rfl,rfl,c8,by omega,by omega,by simp,rfl,λC af=>af⟩ ?_ ?_
 ·rintro a5 cp g ⟨n,cf,ci,cj,ck,I,ba,cl,cm,cn,cg,ch,j,s,q,u,A,F,rfl,eo,p,eq,es,cz,w,ac⟩;simp only[KG,al,dw,aW,bL,bs,aL,L1,ra,lE,pO b.hd,bS];refine Wp.dF ?_ ?_
  ·intro ae;have ae:n<b.cW.length:=fe ae;obtain⟨i,bv⟩:=hq ae;have cx:=rp bv;obtain⟨dz,b4,ex⟩:=dh i (eW bv);obtain⟨el,ek,ap,c,d5,ey⟩:=OE dz;have d1:=eR n (by omega);have dq:aO tab dO b.d (.int .i64 (n:Int))=some (.aE (aT i)):=by rw[qD b.hd];simp[-a7N,bv]
   have d6:([.str [],.int .i64 0,.int .i64 0,.int .i64 0,.int .i64 0,.aA,.int .i64 0,.int .i64 0,.str [],.str [],.aA]:List D)=aT k6:=rfl;have ds:=p.len;have a9:(aG g aH 11 [aT k6])[g.length]?=some (.row aH 11 [aT k6]):=fO _ _ _ _;have bj:jf h (aG g aH 11 [aT k6]) j s q u A F:=p.new (by simp[-a7N,aG]) λa K=>eT _ _ _ _ K
   simp only[dq,kL,bs,d6];generalize aG g aH 11 [aT k6]=ef at a9 bj ⊢;refine l5 (kk:=0) (off:=0) (row:=aT k6) (v :=.agg (aT i)) a9 (by rfl) (by rfl) (by exact bB _) (y4 _) λB ah ao=>?_
   have ah:B[g.length]?=some (.row aH 11 [aT i]):=ah;have N:=bj.z a9 (by omega) ao;have ai:=vG ah;clear a9 bj ao;have cq:=a3H j u A i.e.a0 i.e.a1 B N.m (by omega);simp only[N.la,lB,uZ,u0,qs,s3,jY,ai.a0,ai.a1,ai.ls,ai.a3,hX i.e.ft,cq,bs,iw];rw[cx,q7]at w;rw[cx]at ac;have ei:∀C,iu j (i::b.cW.drop (n+1)) C=iu j (i::b.cW.drop (n+1)) C:=λ_=>rfl
   generalize bx:j2 j i.e.a0 i.e.a1=f at cq w;have cs:∀(au:J),h.length≤au.length→(∀a,a<h.length→au[a]?=h[a]?)→au[h.length]?=some (.row aX 2 [[.aA,.aA]])→∀{bo:J→Option bK} {bi:bK→Prop},(∀ak,h.length≤ak.length→(∀a,a<h.length→ak[a]?=h[a]?)→ak[h.length]?=some (.row aX 2 [[l,o]])→Wp (bo ak) bi) →
     Wp ((aS tab au aX (.ptr h.length 0 0) (.agg [l,o])).bind bo) bi:=by
    intro au dr di du bo bi a5;refine m8 (kk:=0) (off:=0) (row:=[.aA,.aA]) du (by rfl) (by rfl) (by simp) (bz (fx az) (fx a4)) λak eb c6=>?_
    exact a5 ak (by rw[c6.1];exact dr) (λa K=>by rw[c6.2 _ (by omega)];exact di a K) eb
   have b3:=uO b.hs b.nu b.d;have bt:=uN b.hs b.nu b.d;have dm:([42]:aD)=iI:=rfl;refine Wp.bind (P:=λc:bK=>(c.1 = .aQ∧∃an a8 ar ad T bd,Z 0 c.2.1 = .aA∧Z 1 c.2.1 = .int .i64 0∧Z 2 c.2.1=bd∧jf h c.2.2 an a8 ar ad T bd∧an.length≤y.length+(n+1)∧a8.length≤G.length+2*(n+1)∧ar.length≤n+1∧gZ y G b.cW=gZ an a8 (b.cW.drop (n+1))∧∀C,iu an (b.cW.drop (n+1)) C→iu y b.cW (ar++C)) ∨
     (c.1 = .ret∧Z 0 c.2.1 = .aA∧Z 1 c.2.1 = .int .i64 23∧gZ y G b.cW=none∧h.length≤c.2.2.length∧(∀a,a<h.length→c.2.2[a]?=h[a]?)∧c.2.2[h.length]?=some (.row aX 2 [[l,o]]))) ?_ ?_
   ·refine Wp.dF (λX=>?_) λX=>?_
    ·
     have X:i.e.a3≤f:=by simpa using X
     have r:ij f i=some none:=by unfold ij;rw[bO X]
     obtain⟨T,rr,a7⟩:=zS s A b.hs [42] (i.e.ls.length:Int) B N.t (by omega) (by omega);simp only[uX,N.l1,bt,b3,rr,bs];refine N.H5 a7 ah λV H e3 e0=>?_
     rw[r]at w;simp only[b4]at w;have dg:=ny s b.hs iI (i.e.ls.length:Int);refine .some (.inl ⟨rfl,j,_,q,u,T,F,rfl,rfl,rfl,H,by omega,by rw[dm];omega,by omega,w,λC af=>ac C ?_⟩);unfold iu;rw[bx,r];exact af
    have X:¬i.e.a3≤f:=by simpa using X
    simp only[ai.a2,bs,bS];refine Wp.bind (P:=λc:bK=>(c.1 = .aQ∧Z 0 c.2.1 = .aA∧Z 1 c.2.1 = .int .i64 0∧∃(x:It) (kk:Nat) (bl:D),jf h c.2.2 j (fk s i.e.a0 iI (kk:Nat)) q u bl F∧c.2.2[g.length]?=some (.row aH 11 [aT x])∧((n7 i f kk x∧ij f i=some (some kk))∨(x=i∧f<i.e.a2∧ij f i=none))) ∨
      (c.1 = .ret∧Z 0 c.2.1 = .aA∧Z 1 c.2.1 = .int .i64 23∧ij f i=none∧h.length≤c.2.2.length∧(∀a,a<h.length→c.2.2[a]?=h[a]?)∧c.2.2[h.length]?=some (.row aX 2 [[l,o]]))) ?_ ?_
    ·refine Wp.dF (λab=>?_) λab=>?_
     ·have ab:i.e.a2<f:=by simpa using ab
      have dp:idx (λag:eV=>decide (ag.off=f)) 0 i.e.ls=idx (λag:eV=>decide (ag.off=f)) 1 (i.e.ls.drop 1):=by
       rw[d5];have:¬ap.off=f:=by omega
       simp[-a7N,idx,this]
      obtain⟨am,bn,d⟩:=a3a i f B (by omega);rw[← dp]at bn d;generalize bw:idx (λag:eV=>decide (ag.off=f)) 0 i.e.ls=kk at bn d;simp only[ai.i,bn,bs,fU,fC,fV,mL,gB];by_cases ay:kk<1
      ·have r:ij f i=none:=by unfold ij;rw[cC X,cC (by omega),bO ab,bw,bO ay]
       simp only[ay,eF,bT,gb,aK,aN,b5,al,bs,aL];refine cs B (by have:=N.len;omega) N.low N.p4 λV Q S I=>?_
       exact .some (.inr ⟨rfl,rfl,rfl,r,Q,S,I⟩)
      ·have r:ij f i=some (some kk.toNat):=by unfold ij;rw[cC X,cC (by omega),bO ab,bw,cC ay]
       rw[cC ay]at d;have en:am.e.ls.length=i.e.ls.length - kk.toNat:=by rw[d.ls,gK]
       have dy:=yY (λag:eV=>decide (ag.off=f)) i.e.ls 0;rw[bw]at dy;simp only[ay,fw,cM,fy,aK,aU,aJ,kL,bs,aL];refine l5 (kk:=0) (off:=0) (row:=aT i) (v :=.agg (aT am)) ah (by rfl) (by rfl) (by exact bB _) (y4 _) λV be d9=>?_
       have be:V[g.length]?=some (.row aH 11 [aT am]):=be;have H:=N.z ah (by omega) d9;have aj:=vG be;have d0:IntKind.wrap .i64 ((i.e.ls.length:Int) - (am.e.ls.length:Int))=(kk.toNat:Int):=by rw[bJ (by omega) (by omega)];omega
       obtain⟨T,rr,a7⟩:=zS s A b.hs [42] (kk.toNat:Int) V H.t (by omega) (by omega);simp only[uX,H.l1,bt,b3,lB,jY,aj.ls,hX am.e.ft,eB,d0,rr,bs];refine H.H5 a7 be λbp aq bh d7=>?_
       refine .some (.inl ⟨rfl,rfl,rfl,am,kk.toNat,T,?_,bh,.inl ⟨d,r⟩⟩);rw[b4];exact aq
     ·have ab:¬i.e.a2<f:=by simpa using ab
      refine .some (.inl ⟨rfl,rfl,rfl,i,0,A,by rw[RO];exact N,ah,?_⟩);by_cases ax:f<i.e.a2
      ·exact .inr ⟨rfl,ax,by unfold ij;rw[cC X,bO ax]⟩
      ·refine .inl ⟨⟨rfl,rfl,rfl,by omega,rfl,rfl,rfl,rfl,rfl,by simp,rfl⟩,?_⟩;unfold ij;rw[cC X,cC ax,cC ab]
    rintro⟨cr,co,V⟩ (⟨rfl,n0,E,x,kk,bl,H,cc,d2⟩|⟨rfl,n0,E,r,Q,S,I⟩)
    ·simp only at n0 E H cc;have aj:=vG cc;simp only[cN,aj.a2,bs,dE,n0,E,al];rcases d2 with⟨d,r⟩|⟨rfl,ax,r⟩
     case inr =>
      simp only[vC,ax,cM,aK,aN,b5,bs,aL];refine cs V (by have:=H.len;omega) H.low H.p4 λbp c9 da ba=>?_
      rw[r]at w;exact .some (.inr ⟨rfl,rfl,rfl,w,c9,da,ba⟩)
     have df:¬x.e.a2>f:=by have:=d.a2;omega
     obtain⟨ad,bm,ea⟩:=a4o j u ⟨x.e.a0,x.e.a1,x.e.a3⟩ V H.m (by omega);have bm:R vt [u,.agg [.int .i64 x.e.a0,.int .i64 x.e.a1,.int .i64 x.e.a3]] V=some (ad,V):=bm;simp only[df,bT,aK,aU,aJ,xO,H.l0,aj.a0,aj.a1,aj.a3,L3,bm,bs,aL];refine H.mrk ea cc λbp aq bh d7=>?_
     have cd:=vG bh;have d4:x.e.ls.length=i.e.ls.length - kk:=by rw[d.ls,gK]
     have dg:=ny s i.e.a0 iI (kk:Nat);obtain⟨T,rr,a7⟩:=zS (fk s i.e.a0 iI (kk:Nat)) bl b.hs x.r (x.e.ls.length:Int) bp aq.t (by omega) (by omega);simp only[uX,aq.l1,bt,b3,u1,cd.r,cd.ls,hX x.e.ft,rr,bs];refine aq.H5 a7 bh λeg L ed e1=>?_
     have ce:=vG ed;have ej:=ny (fk s i.e.a0 iI (kk:Nat)) b.hs x.r (x.e.ls.length:Int);have eu:=zX j ⟨x.e.a0,x.e.a1,x.e.a3⟩;rw[r]at w;simp only at w;rw[← d4,← d.r,← d.a1,← d.a3]at w;have br:i.e.a0=x.e.a0:=d.a0.symm;have d3:b.hs=i.e.a0:=b4.symm;have cw:gZ y G b.cW=gZ (ih j ⟨x.e.a0,x.e.a1,x.e.a3⟩) (fk (fk s i.e.a0 iI (kk:Nat)) b.hs x.r (x.e.ls.length:Int)) (b.cW.drop (n+1)):=by
      rw[w,d3,br]
     simp only[ce.r,kc,bs];by_cases bc:x.r=[]
     ·have b2:(x.r==([]:aD))=true:=by simpa using bc
      have dk:dL tab dX 1 [0] [.agg (bG x.e)]=some (.sl 10 true [bG x.e]):=id rfl;have ep:=L.len;simp only[b2,aK,aN,ce.e,dk,bs,aL];refine ud (n0:=h.length+2) (by omega) L.ow (hC _ _ _ _) (by simp only[fN,g7,e6];omega) λec db c1 e2 b6 ez i9=>?_
      have dt:q.map bG++[bG x.e]=(q++[x.e]).map bG:=by rw[gL];rfl
      rw[dt]at c1;simp only[bs,ga,aW,bL];refine .some (.inl ⟨rfl,_,_,q++[x.e],ad,T,ec,rfl,rfl,rfl,⟨by show h.length+2≤db.length;omega,by rw[b6 _ (by omega)];exact L.p4,by rw[b6 _ (by omega)];exact L.p8,L.m,L.t,c1,λa K=>by rw[b6 _ (by omega)];exact L.low a K⟩,by omega,by omega,by simp;omega,cw,λC af=>?_⟩);rw[gF];refine ac _ ?_;unfold iu;rw[bx,r];refine⟨x,d,?_⟩;rw[bO (by rw[← d.r];exact bc),← d.a1,← d.a3,br];exact⟨x.e,C,rfl,⟨rfl,rfl,rfl,rfl,rfl,rfl,rfl,rfl,rfl,rfl⟩,af⟩
     ·have b2:(x.r==([]:aD))=false:=by simpa using bc
      simp only[b2,aK,aU,aJ,bs,ga,aW,bL];refine .some (.inl ⟨rfl,_,_,q,ad,T,F,rfl,rfl,rfl,L,by omega,by omega,by omega,cw,λC af=>ac _ ?_⟩);unfold iu;rw[bx,r];refine⟨x,d,?_⟩;rw[cC (by rw[← d.r];exact bc),← d.a1,← d.a3,br];exact af
    ·simp only at n0 E Q S I;rw[r]at w;simp only[jG,jQ,n0,E];exact .some (.inr ⟨rfl,rfl,rfl,w,Q,S,I⟩)
   rintro⟨cr,co,V⟩ (⟨rfl,an,a8,ar,ad,T,bd,n0,E,a6,L,av,aw,dc,dd,de⟩|⟨rfl,n0,E,r,Q,S,I⟩)
   ·simp only at n0 E a6 L;simp only[cN,cO,d1,bs,n0,E,a6];exact .some (.inl ⟨rfl,a5 - 1,by omega,n+1,_,_,_,_,_,_,_,_,_,_,_,an,a8,ar,ad,T,bd,rfl,by omega,L,av,aw,dc,dd,de⟩)
   ·simp only at n0 E Q S I;simp only[jG,n0,E];exact .some (.inr ⟨by simp,.inl ⟨rfl,rfl,rfl,r,Q,S,I⟩⟩)
  ·intro ae;have ae:n=b.cW.length:=by
    have:¬(n:Int)<b.cW.length:=by simpa using ae
    omega
   subst ae;rw[qb]at w ac;refine .some (.inr ⟨by simp,.inr ⟨rfl,j,s,q,u,A,F,rfl,p,w,?_,by omega⟩⟩);have:=ac [] rfl
   rwa [nm]at this
 ·rintro⟨cr,co,g⟩ (⟨rfl,n0,E,r,Q,S,I⟩|⟨rfl,j,s,q,u,A,F,a6,p,w,ac,cz⟩)
  ·simp only at n0 E Q S I;have b7:Y tab g aX (.ptr h.length 0 0)=some (.agg [l,o]):=by rw[m1,dM I];rfl
   simp only[jQ,jG,jX,aW,bL,bs,al,b7,n0,E,pR];have bu:cS h.length g 4 (.bD [.agg [l,o],.aA,.int .i64 23]) = .bD [.agg [l,o],.aA,.int .i64 23]:=by
    have ca:=iJ (n0:=h.length) (h:=g) (n:=1) az (λk _=>oW _ g _ k);have cb:=iJ (n0:=h.length) (h:=g) (n:=1) a4 (λk _=>l2 _ g _ k);simp only[pB,oQ,fP,kE,ca,cb,vA,nM]
   rw [ff bu (.bD _ λbk M=>by
    simp at M;rcases M with rfl|rfl|rfl
    ·refine .agg _ λbk M=>?_
     simp at M;rcases M with rfl|rfl
     ·exact e7 az λk _=>oX _ k
     ·exact e7 a4 λk _=>lI _ k
    ·constructor
    ·constructor) Q S]
   refine .some ⟨rfl,?_⟩;unfold na;rw[r]
  ·simp only at a6 p;have ds:=p.len;simp only[dA,cN,aW,bL,bs,al,p.la,a6,aL];refine m8 (kk:=0) (off:=0) (row:=[.aA,.aA]) (v :=.agg [u,A]) p.p4 (by rfl) (by rfl) (by simp) (bz (fx p.m) (fx p.t)) λB b8 ao=>?_
   replace b8:B[h.length]?=some (.row aX 2 [[u,A]]):=b8;have b7:Y tab B aX (.ptr h.length 0 0)=some (.agg [u,A]):=by rw[m1,dM b8];rfl
   simp only[b7,bs,pR];have d8:=p.ow.cL (h':=B) λa K _=>ao.2 a (by omega)
   have c7:=gS (n0:=h.length) (n:=2) d8 (by omega) λk _=>uW h.length B 1 k
   have ca:=iJ (n0:=h.length) (h:=B) (n:=1) p.m (λk _=>oW _ B _ k);have cb:=iJ (n0:=h.length) (h:=B) (n:=1) p.t (λk _=>l2 _ B _ k);have bu:cS h.length B 4 (.bD [.agg [u,A],F,.int .i64 0]) = .bD [.agg [u,A],cS h.length B 3 F,.int .i64 0]:=by
    simp only[pB,oQ,fP,kE,nM,ca,cb]
   rw [ff bu (.bD _ λbk M=>by
    simp at M;rcases M with rfl|rfl|rfl
    ·refine .agg _ λbk M=>?_
     simp at M;rcases M with rfl|rfl
     ·exact e7 p.m λk _=>oX _ k
     ·exact e7 p.t λk _=>lI _ k
    ·exact e7 c7 λk _=>sW _ k
    ·constructor) (by have:=ao.1;omega) (λa K=>by rw[ao.2 _ (by omega)];exact p.low a K)]
   refine .some ⟨rfl,?_⟩;unfold na;rw[w];exact⟨_,_,_,q,rfl,p.m,p.t,c7,ac,cz⟩
theorem a4m{b:hH}(j:gN b.hs b.cW=0)(q:∀i∈b.cW,qd i.e){f:List bY}{g:List cB}{a c:D}(h:J)(o:aI 3 cZ f a)(r:aI 3 cY g c)(p:f.length≤90000)(s:g.length≤90000):
  ∃x,R qy [.agg [a,c],.agg (fA b)] h=some (x,h)∧na f g a c b.cW x:=by
 obtain⟨m,n⟩:=qh j;exact a4n m n (λl=>by have k:=HJ b.hs b.nu b.cW b.d l (.inl b.hd) q;rw[← L1,j]at k;exact k) h o r p s
theorem a3I{b:hH}{c:Int}(w:c≠0)(x:∀g,R rJ [.agg (fA b)] g=some (.int .i64 c,g)){C:List bY}{G:List cB}{a d:D}(h:J)(k:aI 3 cZ C a)(l:aI 3 cY G d):
  R rI [.agg [a,d],.agg (fA b)] h=some (.bD [.agg [a,d],.aA,.int .i64 c],h):=by
 apply Wp.val;have u:∀g:J,Y tab g bP (.aE (fA b))=some (.agg (fA b)):=λg=>id rfl
 have r:∀g:J,Y tab g aX (.aE [a,d])=some (.agg [a,d]):=λg=>id rfl
 have z:(D.agg [a,d]).fo=true:=by
  have E:=fx k;have F:=fx l;clear r k l;cases a<;>first|(cases d<;>first|rfl|(simp[-a7N,D.one]at F))|(simp[-a7N,D.one]at E)
 have p:(aG h aX 2 [[.aA,.aA]])[h.length]?=some (.row aX 2 [[.aA,.aA]]):=fO _ _ _ _;have A:(aG h aX 2 [[.aA,.aA]]).length=h.length+1:=by simp[-a7N,aG]
 have q:∀i,i<h.length→(aG h aX 2 [[.aA,.aA]])[i]?=h[i]?:=λi m=>eT _ _ _ _ m
 rw[Ng];simp only[A9,gq,bs,u,x,dH,dU,w,fw,cM,aK,aN,r,aL];generalize aG h aX 2 [[.aA,.aA]]=K at p A q ⊢;refine m8 (kk:=0) (off:=0) (row:=[.aA,.aA]) (v :=.agg [a,d]) p (by rfl) (by rfl) (by simp) z λf o s=>?_
 replace o:f[h.length]?=some (.row aX 2 [[a,d]]):=o;have B:Y tab f aX (.ptr h.length 0 0)=some (.agg [a,d]):=by rw[m1,dM o];rfl
 simp only[B,bs,pR];have y:cS h.length f 4 (.bD [.agg [a,d],.aA,.int .i64 c]) = .bD [.agg [a,d],.aA,.int .i64 c]:=by
  have H:=iJ (n0:=h.length) (h:=f) (n:=1) k (λe _=>oW _ f _ e);have I:=iJ (n0:=h.length) (h:=f) (n:=1) l (λe _=>l2 _ f _ e);simp only[pB,oQ,fP,kE,H,I,vA,nM]
 rw [ff y (.bD _ λt j=>by
  simp at j;rcases j with rfl|rfl|rfl
  ·refine .agg _ λt j=>?_
   simp at j;rcases j with rfl|rfl
   ·exact e7 k λe _=>oX _ e
   ·exact e7 l λe _=>lI _ e
  ·constructor
  ·constructor) (by have:=s.1;omega) (λi m=>by rw[s.2 _ (by omega)];exact q i m)]
 exact .some rfl
theorem a4k{b:hH}{c:Int}(w:c≠0)(x:∀g,R qw [.agg (fA b)] g=some (.int .i64 c,g)){C:List bY}{G:List cB}{a d:D}(h:J)(k:aI 3 cZ C a)(l:aI 3 cY G d):
  R qy [.agg [a,d],.agg (fA b)] h=some (.bD [.agg [a,d],.aA,.int .i64 c],h):=by
 apply Wp.val;have u:∀g:J,Y tab g bP (.aE (fA b))=some (.agg (fA b)):=λg=>id rfl
 have r:∀g:J,Y tab g aX (.aE [a,d])=some (.agg [a,d]):=λg=>id rfl
 have z:(D.agg [a,d]).fo=true:=by
  have E:=fx k;have F:=fx l;clear r k l;cases a<;>first|(cases d<;>first|rfl|(simp[-a7N,D.one]at F))|(simp[-a7N,D.one]at E)
 have p:(aG h aX 2 [[.aA,.aA]])[h.length]?=some (.row aX 2 [[.aA,.aA]]):=fO _ _ _ _;have A:(aG h aX 2 [[.aA,.aA]]).length=h.length+1:=by simp[-a7N,aG]
 have q:∀i,i<h.length→(aG h aX 2 [[.aA,.aA]])[i]?=h[i]?:=λi m=>eT _ _ _ _ m
 rw[Nl];simp only[Bl,gq,bs,u,x,dH,dU,w,fw,cM,aK,aN,r,aL];generalize aG h aX 2 [[.aA,.aA]]=K at p A q ⊢;refine m8 (kk:=0) (off:=0) (row:=[.aA,.aA]) (v :=.agg [a,d]) p (by rfl) (by rfl) (by simp) z λf o s=>?_
 replace o:f[h.length]?=some (.row aX 2 [[a,d]]):=o;have B:Y tab f aX (.ptr h.length 0 0)=some (.agg [a,d]):=by rw[m1,dM o];rfl
 simp only[B,bs,pR];have y:cS h.length f 4 (.bD [.agg [a,d],.aA,.int .i64 c]) = .bD [.agg [a,d],.aA,.int .i64 c]:=by
  have H:=iJ (n0:=h.length) (h:=f) (n:=1) k (λe _=>oW _ f _ e);have I:=iJ (n0:=h.length) (h:=f) (n:=1) l (λe _=>l2 _ f _ e);simp only[pB,oQ,fP,kE,H,I,vA,nM]
 rw [ff y (.bD _ λt j=>by
  simp at j;rcases j with rfl|rfl|rfl
  ·refine .agg _ λt j=>?_
   simp at j;rcases j with rfl|rfl
   ·exact e7 k λe _=>oX _ e
   ·exact e7 l λe _=>lI _ e
  ·constructor
  ·constructor) (by have:=s.1;omega) (λi m=>by rw[s.2 _ (by omega)];exact q i m)]
 exact .some rfl
def gU(b:hH)(a:List bY)(c:List cB):Int × List bY × List cB:=
 if gN b.hs b.cW≠0 then(gN b.hs b.cW,a,c)else match gZ a c b.cW with
  |none=>(23,a,c)
  |some d=>(0,d.1,d.2)
def k5(b:hH)(c:List bY)(d:List cB)(a:List Ev):Prop:=
 if gN b.hs b.cW≠0 then a=[]else match gZ c d b.cW with
  |none=>a=[]
  |some _=>iu c b.cW a∧a.length≤b.cW.length
theorem Wo{b:hH}{d:List bY}{e:List cB}{a f:List Ev}(h:k5 b d e a)(k:k5 b d e f):h5 a f∧a.length≤40:=by
 unfold k5 at h k;split at h
 ·rename_i c;rw[bO c]at k;subst h;subst k;exact⟨trivial,by simp⟩
 ·rename_i c;rw[cC c]at k;obtain⟨i,_⟩:=qh (j5.1 c);cases g:gZ d e b.cW with
  | none =>
   rw[g]at h k;simp only at h k;subst h;subst k;exact⟨trivial,by simp⟩
  | some j =>
   rw[g]at h k;exact⟨xo b.cW d e a f (by rw[g];simp[-a7N]) h.1 k.1,by omega⟩
theorem LR{b:hH}{a:List bY}{c:List cB}{f g:D}(u:gN b.hs b.cW=0)(v:aI 3 cZ a f)(w:aI 3 cY c g){x:D}(d:na a c f g b.cW x):
  ∃h i j e,x = .bD [.agg [h,i],j,.int .i64 (gU b a c).1]∧aI 3 cZ (gU b a c).2.1 h∧aI 3 cY (gU b a c).2.2 i∧aI 10 bG e j∧k5 b a c e:=by
 unfold na at d;unfold gU k5;simp only[u,dU,eF,aJ];cases k:gZ a c b.cW with
 | none =>
  rw[k]at d;exact⟨f,g,.aA,[],d,v,w,.aA _ _,rfl⟩
 | some y =>
  rw[k]at d;obtain⟨m,n,l,e,o,p,q,r,s,t⟩:=d;exact⟨m,n,l,e,o,p,q,r,s,t⟩
theorem a3J(b:hH){a:List bY}{c:List cB}{n o:D}(h:J)(l:aI 3 cZ a n)(m:aI 3 cY c o)(x:gi a)(A:gx c)(y:a.length≤90000)(B:c.length≤90000):
  ∃f g i j,R rI [.agg [n,o],.agg (fA b)] h=some (.bD [.agg [f,g],i,.int .i64 (gU b a c).1],h)∧aI 3 cZ (gU b a c).2.1 f∧aI 3 cY (gU b a c).2.2 g∧aI 10 bG j i∧k5 b a c j:=by
 have p:∀k,R rJ [.agg (fA b)] k=some (.int .i64 (gN b.hs b.cW),k):=λk=>QK b.hs b.nu b.cW b.d k (.inl b.hd)
 by_cases e:gN b.hs b.cW=0
 ·rw[e]at p;obtain⟨u,v⟩:=qh e;obtain⟨F,C,z⟩:=a3K u (λE w=>by have:=OE (v E w).1;omega) p h l m x A y B;obtain⟨f,g,i,j,rfl,q,r,s,t⟩:=LR e l m z;exact⟨f,g,i,j,C,q,r,s,t⟩
 ·have:=a3I e p h l m;unfold gU k5;rw[bO e];exact⟨n,o,.aA,[],this,l,m,.aA _ _,by rw[bO e]⟩
theorem a4l(b:hH)(r:∀i∈b.cW,qd i.e){a:List bY}{c:List cB}{p q:D}(h:J)(n:aI 3 cZ a p)(o:aI 3 cY c q)(x:a.length≤90000)(z:c.length≤90000):
  ∃g j k l,R qy [.agg [p,q],.agg (fA b)] h=some (.bD [.agg [g,j],k,.int .i64 (gU b a c).1],h)∧aI 3 cZ (gU b a c).2.1 g∧aI 3 cY (gU b a c).2.2 j∧aI 10 bG l k∧k5 b a c l:=by
 have w:∀m,R qw [.agg (fA b)] m=some (.int .i64 (gN b.hs b.cW),m):=λm=>HJ b.hs b.nu b.cW b.d m (.inl b.hd) r
 by_cases f:gN b.hs b.cW=0
 ·obtain⟨B,A,y⟩:=a4m f r h n o x z;obtain⟨g,j,k,l,rfl,s,t,u,v⟩:=LR f n o y;exact⟨g,j,k,l,A,s,t,u,v⟩
 ·have:=a4k f w h n o;unfold gU k5;rw[bO f];exact⟨p,q,.aA,[],this,n,o,.aA _ _,by rw[bO f]⟩
def tS(x y:Ev × Nat):Prop:=ie x.1 y.1=true∨(ie y.1 x.1=false∧x.2<y.2)
theorem a1B(a b:Ev):ie a b=false↔¬(a.a5<b.a5∨(a.a5=b.a5∧(a.a0<b.a0∨(a.a0=b.a0∧(a.a1<b.a1∨(a.a1=b.a1∧a.a2<b.a2)))))):=by
 rw[← Pc];cases ie a b<;>simp[-a7N]
theorem a5e(x:Ev × Nat):¬tS x x:=by
 rintro(a|⟨_,a⟩)
 ·rw[a1A]at a;cases a
 ·omega
theorem HY(x y z:Ev × Nat)(h:tS x y)(k:tS y z):tS x z:=by
 unfold tS at *;rw[Pc,a1B]at *;omega
def cE(x y:Ev × Nat):Int:=if ie x.1 y.1=true then -1 else if ie y.1 x.1=true then 1 else 0
theorem Mi(x y:Ev × Nat):cE x y<0↔ie x.1 y.1=true:=by
 unfold cE;split
 ·simp[-a7N, *]
 ·split
  ·simp[-a7N, *]
  ·simp[-a7N, *]
theorem a5f:me cE tS (λx y=>x.2<y.2) where
 tr:=HY
 lt:=λx y _ a =>.inl ((Mi y x).1 a)
 ge:=λx y a b=>by
  rw[Mi]at b;exact .inr ⟨by simpa using b,a⟩
theorem Ox(l:List Ev)(e:Ev):∀k,k≤l.length→∀j x,jZ l e k≤j→j<k→l[j]?=some x→ie e x=true
 |0,_,j,x,_,c,_=>by omega
 | k+1,g,j,x,h,c,a=>by
  have b:l[k]?=some l[k]:=dG (by omega);simp only[jZ,b]at h;split at h
  ·rename_i f;by_cases d:j=k
   ·subst d;rw[b]at a;injection a with a;rw[← a];exact f
   ·exact Ox l e k (by omega) j x h (by omega) a
  ·omega
theorem Ov(l:List Ev)(e:Ev):∀k,k≤l.length→∀j x,jZ l e k=j+1→l[j]?=some x→ie e x=false
 |0,_,j,x,h,_=>by simp[-a7N,jZ]at h
 | k+1,d,j,x,h,a=>by
  have b:l[k]?=some l[k]:=dG (by omega);simp only[jZ,b]at h;split at h
  ·exact Ov l e k (by omega) j x h a
  ·rename_i c;have:j=k:=by omega
   subst this;rw[b]at a;injection a with a;rw[← a];simpa using c
theorem Z8{C:List (Ev × Nat)}(q:C.Pairwise tS)(e:Ev)(n:Nat)(r:∀x∈C,x.2<n):∃h:List (Ev × Nat),h.map (·.1)=iW (C.map (·.1)) e∧h.Perm (C++[(e,n)])∧h.Pairwise tS:=by
 obtain⟨a,m⟩:∃a,a=jZ (C.map (·.1)) e C.length:=⟨_,rfl⟩
 have A:a≤C.length:=by rw[m];exact yZ _ _ _
 have o:C.take a++C.drop a=C:=h6 a C;have l:=q;rw[← o,jd]at l;obtain⟨k,v,w⟩:=l;refine⟨C.take a++[(e,n)]++C.drop a,?_,?_,?_⟩
 ·simp only[gL,fP,kE,iW,fN,nn,uC,← m]
 ·have:(C.take a++[(e,n)]++C.drop a).Perm (C.take a++C.drop a++[(e,n)]):=by
    rw[gF,gF];exact List.Perm.append_left _ BW
  rwa [o]at this
 ·rw [gF,jd];have y:∀g∈C.drop a,tS (e,n) g:=λg f=>by
   obtain⟨u,i⟩:=q3.1 f;rw[ko]at i;have z:=(bR.1 i).1;left;exact Ox (C.map (·.1)) e C.length (by simp) (a+u) g.1 (by omega) (by omega) (by rw[eE,i];rfl)
  refine⟨k,im.2 ⟨y,v⟩,λx b g f=>?_⟩;rcases fc.1 f with rfl|f
  ·obtain⟨c,s⟩:∃c,a=c+1:=by
     cases a with
     |zero=>simp at b
     |succ c=>exact⟨c,rfl⟩
   obtain⟨d,j⟩:∃d,C[c]?=some d:=⟨_,dG (by omega)⟩
   have t:=Ov (C.map (·.1)) e C.length (by simp) c d.1 (by omega) (by rw[eE,j];rfl);have p:tS d (e,n) :=.inr ⟨t,r d (eW j)⟩;rw[s,g9,j,Ca]at b k;rcases fp.1 b with b|b
   ·exact HY _ _ _ ((jd.1 k).2.2 x b d (by simp)) p
   ·rw[np.1 b];exact p
  ·exact w x b g f
theorem Oa:∀(d:List Ev) (n:Nat) (C:List (Ev × Nat)),C.Pairwise tS→(∀x∈C,x.2<n)→∃b:List (Ev × Nat),b.map (·.1)=d.foldl iW (C.map (·.1))∧b.Perm (C++d.zipIdx n)∧b.Pairwise tS
 |[],n,C,c,_=>⟨C,rfl,by simp,c⟩
 | e::r,n,C,c,f=>by
  obtain⟨g,i,h2,j⟩:=Z8 c e n f;obtain⟨h,k,l,m⟩:=Oa r (n+1) g j (λx a=>by
   rcases fp.1 (h2.mem_iff.1 a)with a|a
   ·have:=f x a;omega
   ·rw[np.1 a];simp[-a7N])
  refine⟨h,by rw[k,i];rfl,?_,m⟩;have:=List.Perm.append_right (r.zipIdx (n+1)) h2;rw[gF]at this;exact l.trans this
theorem Rz:∀(b:List Ev) (n:Nat),(b.zipIdx n).Pairwise (λx y=>x.2<y.2)∧∀x∈b.zipIdx n,n≤x.2
 |[],n=>by simp
 | e::r,n=>by
  obtain⟨c,h2⟩:=Rz r (n+1);rw[LF];refine⟨im.2 ⟨λx a=>by have:=h2 x a;simp only;omega,c⟩,λx a=>?_⟩;rcases fc.1 a with rfl|a
  ·simp[-a7N]
  ·have:=h2 x a;omega
theorem a4T{a:List Ev}{C:List (Ev × Nat)}(d:C.Perm (a.zipIdx 0))(e:C.Pairwise tS):C.map (·.1)=a.foldl iW []:=by
 obtain⟨c,f,b,g⟩:=Oa a 0 [] List.Pairwise.nil (by simp);rw[kp]at b;have:C=c:=z4 a5e HY e g λh=>d.mem_iff.trans b.mem_iff.symm
 rw[this,f];rfl
theorem a1D{a b c d:Ev}(h:j6 a c)(k:j6 b d):ie a b=ie c d:=by
 unfold ie;rw[h.a5,k.a5,h.a0,k.a0,h.a1,k.a1,h.a2,k.a2]
theorem h5.mk:∀{l r:List Ev},l.length=r.length→(∀(i:Nat) a b,l[i]?=some a→r[i]?=some b→j6 a b)→h5 l r
 |[],[],_,_=>trivial
 |a::l,b::r,h,k=>⟨k 0 a b rfl rfl,h5.mk (by simpa using h) λi x y c d=>k (i+1) x y (by simpa using c) (by simpa using d)⟩
 |[],_::_,h,_=>by simp at h
 |_::_,[],h,_=>by simp at h
theorem Ow{l a:List Ev}(h:h5 l a){e e':Ev}(k:j6 e e'):∀n,n≤l.length→jZ l e n=jZ a e' n
 |0,_=>rfl
 | n+1,g=>by
  have f:=h.len;have b:l[n]?=some l[n]:=dG (by omega);have c:a[n]?=some a[n]:=dG (by omega);have d:=h.get n _ _ b c;simp only[jZ,b,c,a1D k d,Ow h k n (by omega)]
theorem h5.take:∀{l r:List Ev},h5 l r→∀n,h5 (l.take n) (r.take n)
 |_,_,_,0=>by simp only[List.take_zero];trivial
 |[],[],_,n+1=>trivial
 |_::_,_::_,h,n+1=>⟨h.1,h.2.take n⟩
 |[],_::_,h,_+1=>h.elim
 |_::_,[],h,_+1=>h.elim
theorem h5.drop:∀{l r:List Ev},h5 l r→∀n,h5 (l.drop n) (r.drop n)
 |_,_,h,0=>h
 |[],[],_,n+1=>trivial
 |_::_,_::_,h,n+1=>h.2.drop n
 |[],_::_,h,_+1=>h.elim
 |_::_,[],h,_+1=>h.elim
theorem Z6{l a:List Ev}(h:h5 l a){e e':Ev}(k:j6 e e'):h5 (iW l e) (iW a e'):=by
 unfold iW;rw[← h.len,Ow h k _ (bB _)];have b:h5 [e] [e']:=by exact⟨k,trivial⟩
 exact((h.take _).app b).app (h.drop _)
theorem N8:∀{a b:List Ev} {l c:List Ev},h5 a b→h5 l c→h5 (a.foldl iW l) (b.foldl iW c)
 |[],[],_,_,_,h=>h
 | e::r,e'::d,_,_,k,h=>by
  rw[o9,o9];exact N8 k.2 (Z6 h k.1)
 |[],_::_,_,_,k,_=>k.elim
 |_::_,[],_,_,k,_=>k.elim
theorem yP:∀(a l:List Ev),(a.foldl iW l).length=l.length+a.length
 |[],l=>rfl
 | e::r,l=>by
  have hi:=yZ l e l.length;rw[o9,yP r];simp only[iW,bF,lq,gK,g7,e6];omega
def qo(a c:Int)(b:List It):List Int:=if gN a b=0 then iT a c b else[]
theorem a4h(b c:Int)(a:List It)(d:D)(h:J)(g:nw h a d)(ag:gN b a=0→(a.map gj).flatten.length≤790000000):∃d',R yy [.agg (eJ b c d)] h=some (.bD [d',.int .i64 (gN b a)],h)∧aI 1 aY (qo b c a) d':=by
 have C:=QK b c a d h g;by_cases l:gN b a=0
 case neg =>
  refine⟨.aA,?_,by unfold qo;rw[cC l];exact .aA _ _⟩;rw[Nk];have ai:decide (gN b a≠0)=true:=fX l;simp only[Bj,gq,bs,sM,C,dH,ai,aK,aN,gp];exact ff (by simp) (.bD _ λd g=>by simp at g;rcases g with rfl|rfl<;>constructor) (bB _) λ_ _=>rfl
 obtain⟨a3,ah⟩:=qh l;have a5:=ag l;unfold qo;rw[bO l,l];rw[l]at C
 suffices Wp (R yy [.agg (eJ b c d)] h) (λT=>T.2=h∧∃d',T.1 = .bD [d',.int .i64 0]∧aI 1 aY (iT b c a) d') by
  obtain⟨⟨a9,a1⟩,v,rfl,d',rfl,B⟩:=this;exact⟨d',v,B⟩
 obtain⟨K,v,A,au,G,ao⟩:=QQ [] b .aA h (.inl (.aA _ _)) (by simp);have A:R vr [.aA,.int .i64 b] h=some (K,v):=A;obtain⟨ab,B,ac,Q,P,ap⟩:=QQ _ c K v (iq.own au) (by simp[-a7N,fI]);have E:IntKind.wrap .u32 (a.length:Int)=a.length:=qV (by omega) (by omega);have an:IntKind.wrap .u64 (a.length:Int)=a.length:=iF (by omega) (by omega);have am:pN a.length=fh a.length:=by unfold pN;rw[an,a2E]
 have X:Bw h.length h .aA B (([]++pI b)++pI c) ab:=⟨a2C Q G,fD G P,λf i _=>(ap f (by omega)).trans (ao f i),λf i =>.inr (by have:=(Q.lt i).1;omega)⟩
 rw[Nk];simp only[Bj,gq,bs,aL,sM,C,dH,dU,eF,bT,aK,aU,aJ,uN,Mf,ra,uO,eU,lE,A,ac,tK g,MH,E,HB];refine xr X (fD G P) (hC _ _ _ _) (by simp[-a7N,fI,mW]) λaw a2 H aq=>?_
 have ae:[]++pI b++pI c++fh a.length=pI b++pI c++pN a.length:=by rw[am];rfl
 rw[ae]at H;have a4:(pI b++pI c++pN a.length).length=20:=by simp only[bF,fI,g6]
 simp only[iN,bs,aL];refine Wp.loop (λF z e=>h.length≤e.length∧∃m o d' p q r s t,∃n:Nat,z=[m,o,d',p,q,r,.int .i64 n,s,t]∧F+n=a.length∧Bw h.length h .aA e ((pI b++pI c++pN a.length)++((a.take n).map gj).flatten) d')
  (λx=>x.1 = .ext 0∧h.length≤x.2.2.length∧(∃m o d' p q r I s t,x.2.1=[m,o,d',p,q,r,I,s,t]∧Bw h.length h .aA x.2.2 (iT b c a) d')) a.length ⟨aq,_,_,_,_,_,_,_,_,0,rfl,rfl,by simpa using H⟩ ?_ ?_
 ·rintro F z e ⟨M,m,o,d',p,q,r,s,t,n,rfl,a7,j⟩;simp only[KB,aW,bL,bs,aL,bS];refine Wp.dF ?_ ?_
  ·intro k;have k:n<a.length:=by have:(n:Int)<a.length:=(by simpa using k);omega
   obtain⟨u,w⟩:=hq k;have af:=(ah u (eW w)).1;have E:=eR n (by omega);have aj:nw e a d:=g.cL λf i=>j.ji f i (pT f)
   obtain⟨f,ak,i⟩:=zI aj n u w;have al:=qt gj a (n+1);rw[js gj w,bF]at al;have a6:=ru u;obtain⟨ay,ad,L⟩:=a4a u 0 e (λe=>by rw[← af];exact HE u e) (by omega);rw[bO rfl]at L;simp only[ak,i,mL,kL,ad,bs,fU,fC,fV,dH,dU,eF,bT,aK,aU,aJ];refine xr j M (m6 (.inl L)) (by simp only[bF,fI,g6];omega) λax a0 aa ar=>?_
   simp only[bs,cO,E];refine .some (.inl ⟨rfl,F - 1,by omega,ar,_,_,_,_,_,_,_,_,n+1,rfl,by omega,?_⟩);rw[js gj w];simpa using aa
  ·intro k;have k:n=a.length:=by have:¬(n:Int)<a.length:=(by simpa using k);omega
   subst k;rw[je]at j;exact .some (.inr ⟨by simp,rfl,M,_,_,_,_,_,_,_,_,_,rfl,j⟩)
 ·rintro⟨az,z,e⟩ ⟨rfl,av,m,o,d',p,q,r,I,s,t,rfl,j⟩;simp only[dA,cN,bs,aW,bL,gp];have N:=gS (n0:=h.length) (n:=2) j.ow (bB _) (λy _=>nC _ e 2 y);rw[ff (d' :=.bD [cS h.length e 3 d',.int .i64 0]) (by simp) (by
   refine .bD _ λd g=>?_
   simp at g;rcases g with rfl|rfl
   ·exact e7 N λy _=>pf _ y
   ·constructor) av (λf i=>j.ji f i (pT f))]
  exact .some ⟨rfl,_,rfl,N⟩
theorem a3U(b c:Int)(a:List It)(d:D)(h:J)(g:nw h a d)(N:∀i∈a,qd i.e)(ah:gN b a=0→(a.map gj).flatten.length≤790000000):∃d',R rK [.agg (eJ b c d)] h=some (.bD [d',.int .i64 (gN b a)],h)∧aI 1 aY (qo b c a) d':=by
 have G:=HJ b c a d h g N;by_cases l:gN b a=0
 case neg =>
  refine⟨.aA,?_,by unfold qo;rw[cC l];exact .aA _ _⟩;rw[CS];have aj:decide (gN b a≠0)=true:=fX l;simp only[wR,gq,bs,sM,G,dH,aj,aK,aN,gp];exact ff (by simp) (.bD _ λd g=>by simp at g;rcases g with rfl|rfl<;>constructor) (bB _) λ_ _=>rfl
 obtain⟨ay,ai⟩:=qh l;have az:=ah l;unfold qo;rw[bO l,l];rw[l]at G
 suffices Wp (R rK [.agg (eJ b c d)] h) (λT=>T.2=h∧∃d',T.1 = .bD [d',.int .i64 0]∧aI 1 aY (iT b c a) d') by
  obtain⟨⟨m,ax⟩,o,rfl,d',rfl,p⟩:=this;exact⟨d',o,p⟩
 rw[CS];simp only[wR,gq,bs,aL,sM,G,dH,dU,eF,bT,aK,aU,aJ,uN,Mf,ra,uO,eU,lE,tK g,lx,iN];have X:Bw h.length h .aA h [] .aA:=Bw.refl (aR.aA _ _ _ _);obtain⟨z,o,C,u⟩:=tQ (IntKind.wrap .u64 b) 8 (by omega) h.length h [] .aA (bB _) X.ow (by simp);have C:R lV [.aA,.int .u64 (IntKind.wrap .u64 b),.int .i64 8] h=some (z,o):=C;refine Wp.step C ?_;simp only[bs];obtain⟨A,p,E,w⟩:=tQ (IntKind.wrap .u64 c) 8 (by omega) h.length o _ z u.len u.ow (by simp only[bF,e6,hQ];omega);have E:R lV [z,.int .u64 (IntKind.wrap .u64 c),.int .i64 8] o=some (A,p):=E;refine Wp.step E ?_;simp only[bs];have Q:=fD u.len w.len;obtain⟨ac,ae,F,x⟩:=tQ (IntKind.wrap .u64 a.length) 4 (by omega) h.length p _ A Q w.ow (by simp only[bF,e6,hQ];omega);have F:R lV [A,.int .u64 (IntKind.wrap .u64 a.length),.int .i64 4] p=some (ac,ae):=F;refine Wp.step F ?_;simp only[bs,iN];have af:[]++gu 8 (IntKind.wrap .u64 b)++gu 8 (IntKind.wrap .u64 c)++gu 4 (IntKind.wrap .u64 a.length)=pI b++pI c++pN a.length:=by simp[-a7N,pI,pN]
 rw[af]at x;have ab:=(u.trans w).trans x;have ao:=fD Q x.len;refine Wp.loop (λI B f=>h.length≤f.length∧∃d' m t,∃n:Nat,B=[d',.int .i64 n,m,t]∧I+n=a.length∧Bw h.length h .aA f ((pI b++pI c++pN a.length)++((a.take n).map gj).flatten) d')
  (λv=>v.1 = .ext 0∧h.length≤v.2.2.length∧(∃d' m t K,v.2.1=[d',m,t,K]∧Bw h.length h .aA v.2.2 (iT b c a) d')) a.length ⟨ao,_,_,_,0,rfl,rfl,by simpa using ab⟩ ?_ ?_
 ·rintro I B f ⟨M,d',m,t,n,rfl,a1,j⟩;simp only[Bc,aW,bL,bs,aL,ra,lE,tK g,bS];refine Wp.dF ?_ ?_
  ·intro k;have k:n<a.length:=by have:(n:Int)<a.length:=(by simpa using k);omega
   obtain⟨i,q⟩:=hq k;have ag:=(ai i (eW q)).1;have an:=eR n (by omega);have ak:nw f a d:=g.cL λs r=>j.ji s r (pT s)
   obtain⟨s,al,r⟩:=zI ak n i q;have a0:=ru i;have am:=qt gj a (n+1);rw[js gj q,bF]at am;obtain⟨au,ad,L⟩:=QN i 0 f (λf=>by rw[← ag];exact Hz i f (N i (eW q))) (by omega);rw[bO rfl]at L;simp only[al,r,ad,bs,fU,fC,fV];refine xr j M (m6 (.inl L)) (by simp only[bF,fI,g6];omega) λar aw aa ap=>?_
   simp only[bs,cO,an];refine .some (.inl ⟨rfl,I - 1,by omega,ap,_,_,_,n+1,rfl,by omega,?_⟩);rw[js gj q];simpa using aa
  ·intro k;have k:n=a.length:=by have:¬(n:Int)<a.length:=(by simpa using k);omega
   subst k;rw[je]at j;exact .some (.inr ⟨by simp,rfl,M,_,_,_,_,rfl,j⟩)
 ·rintro⟨av,B,f⟩ ⟨rfl,aq,d',m,t,K,rfl,j⟩;simp only[dA,cN,bs,aW,gp];have P:=gS (n0:=h.length) (n:=2) j.ow (bB _) (λy _=>nC _ f 2 y);rw[ff (d' :=.bD [cS h.length f 3 d',.int .i64 0]) (by simp) (by
   refine .bD _ λd g=>?_
   simp at g;rcases g with rfl|rfl
   ·exact e7 P λy _=>pf _ y
   ·constructor) aq (λs r=>j.ji s r λH=>by obtain⟨K,n,H⟩:=H;cases H)]
  exact .some ⟨rfl,_,rfl,P⟩
theorem tX{s:cU}(h:(dK s).2.2=false):s.2=false∧(dK s).2.1.length+4+((dK s).1.getD []).length=s.1.length:=by
 have a:=h;rw[H7]at a;obtain⟨c,f,g⟩:=z9 a;obtain⟨d,i⟩:=vT c;have j:((dJ (dI s).2 (dI s).1).1.length:Int)=(dI s).1:=by
  unfold dJ at a ⊢;split
  ·rename_i b;rw[bO b]at a;cases a
  ·rename_i b;simp only[lq];omega
 have e:(dK s).1.getD []=lu (dJ (dI s).2 (dI s).1).1:=by
  unfold dK;rw[cC (by rw[a];simp[-a7N])];rfl
 rw[H7,e];refine⟨d,?_⟩;simp only[lu,fN];omega
theorem ME{s:cU}(h:(eM s).2.2=false):s.2=false∧(eM s).2.1.length+4=s.1.length:=by
 have:=xD h;rw[this]at h ⊢;exact vT h
theorem Po:∀(n:Nat) (s:cU),(gR n s).2.2=false→s.2=false∧(gR n s).2.1.length+((gR n s).1.map hO).flatten.length=s.1.length
 |0,s,h=>⟨h,by simp[-a7N,gR]⟩
 | n+1,s,h=>by
  obtain⟨a,b⟩:=Po n (g5 s).2 h;have c:(dK (cQ (cQ s).2).2).2.2=false:=a;obtain⟨d,j⟩:=tX c;obtain⟨e,k⟩:=lX d;obtain⟨f,l⟩:=lX e;refine⟨f,?_⟩;have g:(hO (g5 s).1).length=20+((dK (cQ (cQ s).2).2).1.getD []).length:=by
   simp only[hO,g5,pS,rX,bF,fI,g6];omega
  have i:(gR n (g5 s).2).2.1.length+((gR n (g5 s).2).1.map hO).flatten.length=(dK (cQ (cQ s).2).2).2.1.length:=b;simp only[gR,fP,kn,bF,g];omega
theorem NU:∀(n:Nat) (s:cU),(g3 n s).2.2=false→s.2=false∧(g3 n s).2.1.length+((g3 n s).1.map hJ).flatten.length=s.1.length
 |0,s,h=>⟨h,by simp[-a7N,g3]⟩
 | n+1,s,h=>by
  obtain⟨a,b⟩:=NU n (hB s).2 h;have c:(dK (dK s).2).2.2=false:=a;obtain⟨d,i⟩:=tX c;obtain⟨e,j⟩:=tX d;refine⟨e,?_⟩;have f:(hJ (hB s).1).length=8+((dK s).1.getD []).length+((dK (dK s).2).1.getD []).length:=by
   simp only[hJ,hB,pS,rX,bF,g6];omega
  have g:(g3 n (hB s).2).2.1.length+((g3 n (hB s).2).1.map hJ).flatten.length=(dK (dK s).2).2.1.length:=b;simp only[g3,fP,kn,bF,f];omega
theorem a6l{s:cU}{j:It}(a:e5 j=dW s)(h:(jb s).2=false):(fW j).length+(jb s).1.length=s.1.length:=by
 obtain⟨b,n⟩:=NU _ _ (show(g3 (eM (ik s)).1.toNat (eM (ik s)).2).2.2=false from h);obtain⟨c,C⟩:=ME b;obtain⟨d,o⟩:=tX (show(dK (dK (cQ (cQ (ja s)).2).2).2).2.2=false from c);obtain⟨f,p⟩:=tX d;obtain⟨g,D⟩:=lX f;obtain⟨i,E⟩:=lX g;obtain⟨k,q⟩:=Po _ _ (show(gR (eM (gD s)).1.toNat (eM (gD s)).2).2.2=false from i);obtain⟨l,F⟩:=ME k;obtain⟨m,G⟩:=lX (show(cQ (cQ (cQ (cQ (dK s).2).2).2).2).2.2=false from l);obtain⟨t,I⟩:=lX m;obtain⟨u,K⟩:=lX t;obtain⟨v,L⟩:=lX u;obtain⟨H,w⟩:=tX v;have M:(jb s).1.length=(g3 (eM (ik s)).1.toNat (eM (ik s)).2).2.1.length:=rfl;have N:(ik s).1.length=(dK (dK (cQ (cQ (ja s)).2).2).2).2.1.length:=rfl;have P:(ja s).1.length=(gR (eM (gD s)).1.toNat (eM (gD s)).2).2.1.length:=rfl;have Q:(gD s).1.length=(cQ (cQ (cQ (cQ (dK s).2).2).2).2).2.1.length:=rfl;have B:j.r=(dK s).1.getD []:=fR RI.r a;have x:j.e.s7=(dK (cQ (cQ (ja s)).2).2).1.getD []:=fR RI.t7 a;have y:j.e.s8=(dK (dK (cQ (cQ (ja s)).2).2).2).1.getD []:=fR RI.t8 a;have A:j.e.ls=(gR (eM (gD s)).1.toNat (eM (gD s)).2).1:=fR RI.ls a;have z:j.e.fs=(g3 (eM (ik s)).1.toNat (eM (ik s)).2).1:=fR RI.fs a;simp only[fW,k4,jB,bF,fI,g6,pS,rX];rw[← A]at q;rw[← z]at n;rw[← x]at p;rw[← y]at o;rw[← B]at w;omega
noncomputable def rh(x:RI):Int:=@dite _ (∃b:It,e5 b=x) (Classical.propDecidable _) (λa=>j0 (Classical.choose a)) λ_=>0
theorem MA(j:It):rh (e5 j)=j0 j:=by
 have a:∃b:It,e5 b=e5 j:=⟨j,rfl⟩
 unfold rh;rw[dif_pos a];exact(Ht (n5 a)).2.1
noncomputable def ib(l:List Int):Int × Int × RI:=iy (rh (dW ((l.take (num (l.take 4)).toNat).drop 4,false))) l
theorem MV(l:List Int)(d:D)(h:J)(g:aI 1 aY l d)(i:l.length≤1000000000)(k:∀z∈l,U8 z):
  (∃j:It,R vl [d] h=some (.bD [.agg (aT j),.int .i64 (ib l).2.1,.int .i64 (ib l).1],h)∧e5 j=(ib l).2.2)∧∃j:It,R vm [d] h=some (.bD [.agg (aT j),.int .i64 (ib l).2.1,.int .i64 (ib l).1],h)∧e5 j=(ib l).2.2:=by
 obtain⟨j,n,q⟩:=a4b l d (rh (dW ((l.take (num (l.take 4)).toNat).drop 4,false))) h g i k λj a c=>by
  rw[← a,MA];exact HE j c
 obtain⟨p,f,m⟩:=a4c l d (rh (mA ((l.take (num (l.take 4)).toNat).drop 4,false))) h g i k λj a c=>by
  rw[← a,MA];refine Hz j c λe b=>?_
  have b:e∈(e5 j).fs:=b;rw[a]at b;have:e.1.length≤((l.take (num (l.take 4)).toNat).drop 4).length:=a2V _ e b;have r:((l.take (num (l.take 4)).toNat).drop 4).length≤l.length:=by simp;omega
  omega
 rw[Tu _ (rh (dW ((l.take (num (l.take 4)).toNat).drop 4,false))) l λo=>by rw[o]]at f m;exact⟨⟨j,n,q⟩,p,f,m⟩
theorem CN{l:List Int}(h:(ib l).1=0):8≤(ib l).2.1∧(ib l).2.1≤l.length∧∀j:It,e5 j=(ib l).2.2→((gj j).length:Int)=(ib l).2.1:=by
 unfold ib iy at h ⊢;by_cases a:l.length<4
 ·rw[bO a]at h;cases h
 by_cases b:num (l.take 4)<4∨(l.length:Int) - 4<num (l.take 4)
 ·rw[cC a,bO b]at h;cases h
 by_cases d:gz (l.take (num (l.take 4)).toNat)≠num ((l.drop (num (l.take 4)).toNat).take 4)
 ·rw[cC a,cC b,bO d]at h;cases h
 by_cases c:(jb ((l.take (num (l.take 4)).toNat).drop 4,false)).2=true∨0<(jb ((l.take (num (l.take 4)).toNat).drop 4,false)).1.length∨rh (dW ((l.take (num (l.take 4)).toNat).drop 4,false))≠0
 ·rw[cC a,cC b,cC d,bO c]at h;cases h
 rw[cC a,cC b,cC d,cC c];refine⟨by simp only;omega,by simp only;omega,λj i=>?_⟩;have f:=a6l i (by
  cases e:(jb ((l.take (num (l.take 4)).toNat).drop 4,false)).2
  ·rfl
  ·exact absurd (.inl e) c)
 have g:(jb ((l.take (num (l.take 4)).toNat).drop 4,false)).1.length=0:=by
  apply n4;intro e;exact c (.inr (.inl (by omega)))
 rw[g]at f;simp only[gK,lq]at f;rw[ru];simp only;omega
theorem Tt:(ib []).1=14:=rfl
noncomputable def jV:Nat→List Int→Option (List RI × List Int)
 |0,l=>some ([],l)
 | k+1,l=>match jV k l with
  |none=>none
  |some (xs,r)=>if(ib r).1=0 then some (xs++[(ib r).2.2],r.drop (ib r).2.1.toNat)else none
theorem CP {k:Nat} {l:List Int} (h:jV k l=none):∀m,k≤m→jV m l=none:=by
 intro m c
 induction m with
 | zero => have:k=0:=by omega
           subst this;exact h
 | succ m b =>
  by_cases a:k=m+1
  ·rw[← a];exact h
  ·unfold jV;rw[b (by omega)]
theorem rm:∀{k:Nat} {l:List Int} {xs:List RI} {r:List Int},jV k l=some (xs,r)→xs.length=k∧(∃c,r=l.drop c)∧∀b:List It,b.map e5=xs→(b.map gj).flatten.length+r.length=l.length
 | 0,l,xs,r,h=>by
  unfold jV at h;injection h with h;injection h with a h2;subst a;subst h2;exact⟨rfl,⟨0,rfl⟩,λb hi=>by
   have:b=[]:=by simpa using hi
   subst this;simp[-a7N]⟩
 | k+1,l,xs,r,h=>by
  unfold jV at h;split at h
  ·cases h
  ·rename_i w p j;split at h
   ·rename_i g;injection h with h;injection h with a h2;subst a;subst h2;obtain⟨d,⟨c,m⟩,e⟩:=rm j;obtain⟨q,s,f⟩:=CN g;refine⟨by simp[-a7N,d],⟨c+(ib p).2.1.toNat,by rw[m,mF]⟩,λb hi=>?_⟩;obtain⟨n,v,rfl,a,h2⟩:=List.map_eq_append_iff.1 hi;obtain⟨o,rfl,i⟩:=List.map_eq_singleton_iff.1 h2;have t:=e n a;have u:=f o i;rw[gL,lp,bF,gK];simp only[fP,kE,kn,List.flatten_nil,nm];omega
   ·cases h
def e4(p:List Int):Int:=IntKind.wrap .i64 (num (p.take 8))
def fl(p:List Int):Int:=IntKind.wrap .i64 (num ((p.drop 8).take 8))
def bN(p:List Int):Nat:=(num ((p.drop 16).take 4)).toNat
def lK(p:List Int)(xs:List RI):Prop:=20≤p.length∧bN p≤40∧(∃b,jV (bN p) (p.drop 20)=some (xs,b))∧∃a:List It,a.map e5=xs∧gN (e4 p) a=0∧iT (e4 p) (fl p) a=p
theorem Tp{p:List Int}{xs ys:List RI}(h:lK p xs)(k:lK p ys):xs=ys:=by
 obtain⟨_,_,⟨a,h⟩,_⟩:=h;obtain⟨_,_,⟨b,k⟩,_⟩:=k;rw[h]at k;injection k with k;injection k
theorem Mu{d:Int}:∀{a b:List It},a.map e5=b.map e5→lv d a=lv d b
 |[],[],_=>rfl
 |[],_::_,h=>by simp at h
 |_::_,[],h=>by simp at h
 | i::a,j::b,h=>by
  rw[fP,fP]at h;injection h with c h2;have f:=(Ht c).2.1;have g:i.e.a0=j.e.a0:=fR RI.a0 c;have k:i.r=j.r:=fR RI.r c;unfold lv;rw[f,g,k,Mu h2]
theorem xA{c:Int}{a b:List It}(h:a.map e5=b.map e5):gN c a=gN c b:=by
 have:a.length=b.length:=by have:=fR List.length h;simpa using this
 unfold gN;rw[this,Mu h]
theorem HO:∀(l:List Int),(∀z∈l,U8 z)→o1 (lu l)=l
 |[],_=>rfl
 | z::l,h=>by
  have a:=HO l λd b=>h d (by simp[-a7N,b])
  have c:=h z (by simp);unfold U8 at c;unfold lu o1 at a ⊢;rw[fP,fP,a];congr 1;have:(UInt8.ofNat z.toNat).toNat=z.toNat:=by simp;omega
  rw[this];omega
theorem a4j(l r:List Int)(d e:D)(h:J)(b:aI 1 aY l d)(c:aI 1 aY r e)(g:∀z∈l,U8 z)(i:∀z∈r,U8 z):R DG [d,e] h=some (.bool (decide (l=r)),h):=by
 rw[VE];have:(lu l==lu r)=decide (l=r):=by
  by_cases a:l=r
  ·subst a;simp[-a7N]
  ·have:lu l≠lu r:=λf=>a (by rw[← HO l g,← HO r i,f])
   simp[-a7N,a,this]
 simp only[KF,bs,Am b,Am c,kc,this,cP]
theorem Cn{h g:J}{b d:Int}{l:List It}{c:D}(j:g[h.length]?=some (.row bP 3 [eJ b d c]))(s:aR g (h.length+2) aH 11 (l.map aT) c)(r:∀i,i<h.length→g[i]?=h[i]?)(e:Int){Q:D × J→Prop}
  (p:∀d',aI 11 aT l d'→Q (.bD [.agg (eJ b d d'),.int .i64 e],h)):Wp ((Y tab g bP (.ptr h.length 0 0)).bind λo=>scope h g (aF [o,.int .i64 e])) Q:=by
 have tw:Y tab g bP (.ptr h.length 0 0)=some (.agg (eJ b d c)):=by rw[vQ,dM j];rfl
 have q:h.length≤g.length:=by have:=(bR.1 j).1;omega
 have k:=gS (n0:=h.length) (n:=1) s (by omega) (λf _=>y3 _ g 0 f);rw [tw,bs,gp,ff (d' :=.bD [.agg (eJ b d (cS h.length g 2 c)),.int .i64 e]) rfl (by
   refine .bD _ λm a=>?_
   simp at a;rcases a with rfl|rfl
   ·refine .agg _ λm a=>?_
    simp[-a7N,eJ]at a;rcases a with rfl|rfl|rfl
    ·constructor
    ·constructor
    ·exact e7 k λf _=>GG _ f
   ·constructor) q r]
 exact .some (p _ k)
theorem pc{h g:J}{b d j m:Int}{l:D}{k:List It}{c:D}(p:g[h.length]?=some (.row bP 3 [eJ j m l]))(n:aR g (h.length+2) aH 11 (k.map aT) c)(u:∀a,a<h.length→g[a]?=h[a]?)(e:Int){Q:D × J→Prop}
  (s:∀d',aI 11 aT k d'→Q (.bD [.agg (eJ b d d'),.int .i64 e],h)):Wp ((aS tab g bP (.ptr h.length 0 0) (.agg (eJ b d c))).bind λh'=>(Y tab h' bP (.ptr h.length 0 0)).bind λq=>scope h h' (aF [q,.int .i64 e])) Q:=by
 have t:(D.agg (eJ b d c)).fo=true:=by
  rcases n with⟨rfl,_⟩|⟨_,_,rfl,_⟩<;>rfl
 refine uf (kk:=0) (off:=0) (row:=eJ j m l) (v :=.agg (eJ b d c)) p (by rfl) (by rfl) (by exact bB _) t λr f o=>?_
 have f:r[h.length]?=some (.row bP 3 [eJ b d c]):=f;exact Cn f (n.cL λa i _=>o.2 a (by omega)) (λa i=>by rw[o.2 a (by omega)];exact u a i) e s
def AD(f:Nat)(p:List Int)(d:D)(h:J):Prop:=
 (∃b,lK p b∧∃c a,R f [d] h=some (.bD [.agg (eJ (e4 p) (fl p) a),.int .i64 0],h)∧aI 11 aT c a∧c.map e5=b) ∨
 ((∀b,¬lK p b)∧∃a,R f [d] h=some (.bD [.agg (eJ 0 0 a),.int .i64 22],h)∧aI 11 aT [] a)
theorem MT{f:Nat}{p:List Int}{d:D}{h:J} (g:Wp (R f [d] h) λx=>(∃xs,lK p xs∧∃a d',x=(.bD [.agg (eJ (e4 p) (fl p) d'),.int .i64 0],h)∧aI 11 aT a d'∧a.map e5=xs) ∨
  ((∀xs,¬lK p xs)∧∃d',x=(.bD [.agg (eJ 0 0 d'),.int .i64 22],h)∧aI 11 aT [] d')):AD f p d h:=by
 obtain⟨x,e,i⟩:=g;rcases i with⟨xs,b,a,d',rfl,c⟩|⟨b,d',rfl,c⟩
 ·exact .inl ⟨xs,b,a,d',e,c⟩
 ·exact .inr ⟨b,d',e,c⟩
theorem a4i(p:List Int)(H:D)(h:J)(B:aI 1 aY p H)(cp:p.length≤790000020)(C:∀z∈p,U8 z):AD DF p H h:=by
 refine MT ?_;have a1:(aG h bP 3 [[.int .i64 0,.int .i64 0,.aA]])[h.length]?=some (.row bP 3 [eJ 0 0 .aA]):=fO _ _ _ _;have E:(aG h bP 3 [[.int .i64 0,.int .i64 0,.aA]]).length=h.length+1:=by simp[-a7N,aG]
 have ba:∀a,a<h.length→(aG h bP 3 [[.int .i64 0,.int .i64 0,.aA]])[a]?=h[a]?:=λa o=>eT _ _ _ _ o
 have f:(D.agg [.int .i64 0,.int .i64 0,.aA]) = .agg (eJ 0 0 .aA):=rfl;rw[VB];by_cases cq:p.length<20
 ·have L:decide ((p.length:Int)<20)=true:=fX (by omega);simp only[Bk,bs,aL,fm B,bS,L,aK,aN,pd,f];exact pc a1 (aR.aA _ _ _ _) ba 22 λs t =>.inr ⟨λi ad=>by have:=ad.1;omega,s,rfl,t⟩
 have L:decide ((p.length:Int)<20)=false:=g2 (by omega);obtain⟨a0,bq,ax⟩:=rZ B (k :=.i64) (n:=8) (by omega) (by omega);obtain⟨az,bn,ar⟩:=rZ B (k :=.i64) (n:=16) (by omega) (by omega);obtain⟨bh,bo,au⟩:=rZ B (k :=.i64) (n:=20) (by omega) (by omega);have ax:aI 1 aY (p.drop 8) a0:=ax;have ar:aI 1 aY (p.drop 16) az:=ar;have au:aI 1 aY (p.drop 20) bh:=au;have cg:∀c,R tf [H] c=some (.int .i64 (e4 p),c):=λc=>QR _ H c B (by omega) C
 have ch:∀c,R tf [a0] c=some (.int .i64 (fl p),c):=λc=>QR _ a0 c ax (by simp;omega) (λz f=>C z (fM f))
 obtain⟨cu,cw⟩:=nR 4 ((p.drop 16).take 4) (by simp;omega) (λz f=>C z (fM (fG f)));have a3:((bN p:Nat):Int)=num ((p.drop 16).take 4):=by unfold bN;omega
 have bd:∀c,R oO [az] c=some (.int .u32 ((bN p:Nat):Int),c):=λc=>by
  rw[HI _ az c ar (by simp;omega) (λz f=>C z (fM f)),a3]
 have cn:bN p<4294967296:=by
  have:(256:Int) ^ 4=4294967296:=by decide
  omega
 simp only[Bk,bs,aL,fm B,bS,L,aK,aU,aJ,cg,bq,ch,Co,bo,bn,bd];generalize aG h bP 3 [[.int .i64 0,.int .i64 0,.aA]]=ac at *;have bi:(aG ac bP 3 [[.int .i64 0,.int .i64 0,.aA]])[h.length+1]?=some (.row bP 3 [eJ 0 0 .aA]):=by rw[← E];exact fO _ _ _ _
 have bk:(aG ac bP 3 [[.int .i64 0,.int .i64 0,.aA]])[h.length]?=some (.row bP 3 [eJ 0 0 .aA]):=by rw[eT _ _ _ _ (by omega)];exact a1
 have cd:∀a,a<h.length→(aG ac bP 3 [[.int .i64 0,.int .i64 0,.aA]])[a]?=h[a]?:=λa o=>by rw[eT _ _ _ _ (by omega)];exact ba a o
 generalize aG ac bP 3 [[.int .i64 0,.int .i64 0,.aA]]=cm at *;rw[E];refine uf (kk:=0) (off:=0) (row:=eJ 0 0 .aA) (v :=.agg [.int .i64 (e4 p),.int .i64 (fl p),.aA]) bi (by rfl) (by rfl) (by exact bB _) (by rfl) λam ah be=>?_
 have ah:am[h.length+1]?=some (.row bP 3 [eJ (e4 p) (fl p) .aA]):=ah;have bl:am[h.length]?=some (.row bP 3 [eJ 0 0 .aA]):=by rw[be.2 _ (by omega)];exact bk
 have ce:∀a,a<h.length→am[a]?=h[a]?:=λa o=>by rw[be.2 a (by omega)];exact cd a o
 try simp only[bs,bd,aL]
 refine Wp.loop (λk ak c=>∃ag M N P Q T,∃e:Nat,∃g i d,∃b:List It,ak=[.int .i64 0,ag,.int .u32 ((bN p - e:Nat):Int),M,N,P,Q,T]∧k+e=bN p∧aI 1 aY d ag∧jV e (p.drop 20)=some (i,d)∧b.map e5=i
   ∧ c[h.length]?=some (.row bP 3 [eJ 0 0 .aA])∧c[h.length+1]?=some (.row bP 3 [eJ (e4 p) (fl p) g])∧aR c (h.length+2) aH 11 (b.map aT) g∧∀a,a<h.length→c[a]?=h[a]?)
  (λy=>(∃ay bf bg M N P Q T,y.2.1=[ay,bf,bg,M,N,P,Q,T]∧(y.1 = .ret→ay = .int .i64 22))∧(∀a,a<h.length→y.2.2[a]?=h[a]?)∧y.2.2[h.length]?=some (.row bP 3 [eJ 0 0 .aA]) ∧
   ((y.1 = .ret∧jV (bN p) (p.drop 20)=none)∨(y.1 = .ext 0∧∃g i d e,∃b:List It,jV e (p.drop 20)=some (i,d)∧b.map e5=i∧(e=bN p∨(e<bN p∧d=[]))∧y.2.2[h.length+1]?=some (.row bP 3 [eJ (e4 p) (fl p) g])∧aR y.2.2 (h.length+2) aH 11 (b.map aT) g)))
  (bN p) ⟨bh,_,_,_,_,_,0,.aA,[],p.drop 20,[],rfl,rfl,au,rfl,rfl,bl,ah,aR.aA _ _ _ _,ce⟩ ?_ ?_
 ·rintro k ak c ⟨ag,M,N,P,Q,T,e,g,i,d,b,rfl,co,w,l,q,m,A,F,r⟩;obtain⟨b8,⟨cy,a7⟩,_⟩:=rm l;have b6:∀z∈d,U8 z:=λz f=>by rw[a7]at f;exact C z (fM (fM f))
  have cs:d.length≤p.length:=by rw[a7,gK,gK];omega
  simp only[KC,aW,bL,bs,aL,dE,E];by_cases u:e<bN p
  ·have G:((bN p - e:Nat):Int)>0:=by omega
   by_cases a8:d=[]
   ·subst a8;simp only[G,cM,bZ,aN,fm w,bs,dE,e6,show decide (((0:Nat):Int)>0)=false by decide,bW,aK,aU,aJ];exact .some (.inr ⟨by simp,⟨_,_,_,_,_,_,_,_,rfl,λao=>by cases ao⟩,r,m,.inr ⟨rfl,g,i,[],e,b,l,q,.inr ⟨u,rfl⟩,A,F⟩⟩)
   have cr:0<d.length:=List.length_pos_iff.2 a8;have a2:(d.length:Int)>0:=by omega
   obtain⟨⟨ae,al,b2⟩,_⟩:=MV d ag c w (by omega) b6;by_cases K:(ib d).1=0
   ·rw[K]at al;obtain⟨c0,ci,_⟩:=CN K;obtain⟨c1,bp,aw⟩:=rZ w (k :=.i64) (n:=(ib d).2.1) (by omega) ci;have cf:Y tab c dO (.ptr (h.length+1) 0 (0+2))=some g:=by rw[GS,dM A];rfl
    have b3:dL tab dO 1 [0] [.agg (aT ae)]=some (.sl 11 true [aT ae]):=id rfl;have a5:b.length=e:=by have:=fR List.length q;simp at this;omega
    have ck:IntKind.wrap .u32 (((bN p - e:Nat):Int) - 1)=((bN p - (e+1):Nat):Int):=by rw[qV (by omega) (by omega)];omega
    simp only[G,cM,bZ,aN,fm w,bs,dE,a2,bW,aK,al,fU,fC,fV,mL,kL,dH,dU,eF,bT,aU,aJ,C5,cf,b3,aL];have b1:h.length+2≤c.length:=(bR.1 A).1;refine Ar (ys:=[aT ae]) b1 F (hC _ _ _ _) (by simp;omega) λbb br af ct aj cx _=>?_
    have bj:br[h.length+1]?=some (.row bP 3 [eJ (e4 p) (fl p) g]):=by rw[aj _ (by omega)];exact A
    simp only[bs,bp];refine Iw (kk:=0) (row:=eJ (e4 p) (fl p) g) bj (by rfl) (by rw[(fT (jj af)).1];rfl) (by simp[-a7N,eJ]) (fT (jj af)).2 λbt X av=>?_
    rw[(fT (jj af)).1]at X;have X:bt[h.length+1]?=some (.row bP 3 [eJ (e4 p) (fl p) bb]):=X;simp only[bs,eB,ck];refine .some (.inl ⟨rfl,k - 1,by omega,_,_,_,_,_,_,e+1,bb,i++[(ib d).2.2],d.drop (ib d).2.1.toNat,b++[ae],rfl,by omega,aw,?_,?_,?_,X,?_,λa o=>?_⟩)
    ·unfold jV;simp only[l,K,aN]
    ·rw[gL,q];simp[-a7N,b2]
    ·rw[av.2 _ (by omega),aj _ (by omega)];exact m
    ·rw[gL];exact af.cL λa o ad=>av.2 a (by omega)
    ·rw[av.2 a (by omega),aj a (by omega)];exact r a o
   ·have b0:decide ((ib d).1≠0)=true:=fX K;simp only[G,cM,bZ,aN,fm w,bs,dE,a2,bW,aK,al,fU,fC,fV,mL,dH,b0,pd,f];refine uf (kk:=0) (off:=0) (row:=eJ 0 0 .aA) (v :=.agg (eJ 0 0 .aA)) m (by rfl) (by rfl) (by exact bB _) (by rfl) λbu ai aw=>?_
    have ai:bu[h.length]?=some (.row bP 3 [eJ 0 0 .aA]):=ai;refine .some (.inr ⟨by simp,⟨_,_,_,_,_,_,_,_,rfl,λ_=>rfl⟩,λa o=>by rw[aw.2 a (by omega)];exact r a o,ai,.inl ⟨rfl,CP (k:=e+1) ?_ _ (by omega)⟩⟩);unfold jV;simp only[l,K,aJ]
  ·have u:e=bN p:=by omega
   subst u;have G:¬((bN p - bN p:Nat):Int)>0:=by omega
   simp only[G,bT,bZ,aU,reduceCtorEq,aJ,bs,bW,aK,fq];exact .some (.inr ⟨by simp,⟨_,_,_,_,_,_,_,_,rfl,λao=>by cases ao⟩,r,m,.inr ⟨rfl,g,i,d,_,b,l,q,.inl rfl,A,F⟩⟩)
 ·rintro ⟨cl,ak,c⟩ ⟨⟨ay,bf,bg,M,N,P,Q,T,rfl,a9⟩,r,m,a4⟩;simp only at r m a4 a9;rcases a4 with⟨rfl,b5⟩|⟨rfl,g,i,d,e,b,l,q,b4,A,F⟩
  ·have:=a9 rfl;subst this;simp only[jQ,jG,jX,bs,aW];exact Cn m (aR.aA _ _ _ _) r 22 λs t =>.inr ⟨(λi ad=>by
    obtain⟨_,_,⟨d,w⟩,_⟩:=ad;rw[b5]at w;cases w),s,rfl,t⟩
  ·obtain ⟨b8,_,b7⟩:=rm l;have bx:=b7 b q;simp only[gK]at bx;have a5:b.length=e:=by have:=fR List.length q;simp at this;omega
   have ap:Y tab c bP (.ptr (h.length+1) 0 0)=some (.agg (eJ (e4 p) (fl p) g)):=by rw[vQ,dM A];rfl
   obtain⟨bm,ab,aq⟩:=a4h (e4 p) (fl p) b g c (.inr ⟨_,F⟩) (λ_=>by omega);have bc:gN (e4 p) b≠0∨iT (e4 p) (fl p) b≠p→∀ys,¬lK p ys:=λj ys b9=>by
    obtain⟨_,bv,⟨cz,x⟩,cc,ca,cb,i3⟩:=b9;have u:e=bN p:=by
     rcases b4 with u|⟨u,rfl⟩
     ·exact u
     ·exfalso;have L:jV (e+1) (p.drop 20)=none:=by
       unfold jV;rw[l];simp only[Tt];rfl
      rw[CP L _ (by omega)]at x;cases x
    rw[u]at l;rw[l]at x;injection x with x;injection x with x _;have a6:b.map e5=cc.map e5:=by rw[q,ca,x]
    rcases j with j|j
    ·exact j (by rw[xA a6];exact cb)
    ·exact j (by rw[L0 a6];exact i3)
   by_cases j:gN (e4 p) b=0
   ·rw [j]at ab;unfold qo at aq;rw[bO j]at aq;have aa:=a4j _ p bm H c aq B (λz f=>by have:=R3 (e4 p) (fl p) b z f;exact this) C;by_cases I:iT (e4 p) (fl p) b=p
    ·have an:decide (iT (e4 p) (fl p) b=p)=true:=fX I;rw[an]at aa;simp only[dA,cN,bs,aL,E,ap,ab,fU,fC,fV,dH,dU,eF,bT,bZ,gk,aN,aa,gB,fy,bW,aU,aJ,aK];refine pc m F r 0 λs t =>.inl ⟨i,?_,b,s,rfl,t,q⟩
     obtain⟨bv,_⟩:=qh j;have cj:(p.drop 16).take 4=pN b.length:=by
      rw[← I];have:iT (e4 p) (fl p) b=(pI (e4 p)++pI (fl p))++(pN b.length++(b.map gj).flatten):=by simp[-a7N,iT]
      rw[this,List.drop_left' (by rw[bF,fI,fI])];exact List.take_left' (g6 _)
     have bw:bN p=b.length:=by
      have:=a3;rw[cj,PK (by omega)]at this;omega
     refine⟨by omega,by omega,⟨d,by rw[bw,a5];exact l⟩,b,q,j,I⟩
    ·have an:decide (iT (e4 p) (fl p) b=p)=false:=g2 I;rw[an]at aa;simp only[dA,cN,bs,aL,E,ap,ab,fU,fC,fV,dH,dU,eF,bT,bZ,gk,aN,aa,gB,gb,bW,aU,aJ,aK,pd,f];exact pc m (aR.aA _ _ _ _) r 22 λs t =>.inr ⟨bc (.inr I),s,rfl,t⟩
   ·have bz:decide (gN (e4 p) b≠0)=true:=fX j;simp only[dA,cN,bs,aL,E,ap,ab,fU,fC,fV,dH,bz,bZ,gk,eP,fq,pC,aJ,aN,bW,aK,pd,f];exact pc m (aR.aA _ _ _ _) r 22 λs t =>.inr ⟨bc (.inl j),s,rfl,t⟩
theorem a4p(p:List Int)(F:D)(h:J)(y:aI 1 aY p F)(cz:p.length≤790000020)(K:∀z∈p,U8 z):AD DI p F h:=by
 refine MT ?_;have a6:(aG h bP 3 [[.int .i64 0,.int .i64 0,.aA]])[h.length]?=some (.row bP 3 [eJ 0 0 .aA]):=fO _ _ _ _;have E:(aG h bP 3 [[.int .i64 0,.int .i64 0,.aA]]).length=h.length+1:=by simp[-a7N,aG]
 have bh:∀a,a<h.length→(aG h bP 3 [[.int .i64 0,.int .i64 0,.aA]])[a]?=h[a]?:=λa m=>eT _ _ _ _ m
 have g:(D.agg [.int .i64 0,.int .i64 0,.aA]) = .agg (eJ 0 0 .aA):=rfl;rw[VH];by_cases c0:p.length<20
 ·have ax:decide ((p.length:Int)<20)=true:=fX (by omega);simp only[Bo,bs,aL,fm y,bS,ax,aK,aN,pd,g];exact pc a6 (aR.aA _ _ _ _) bh 22 λo q =>.inr ⟨λj C=>by have:=C.1;omega,o,rfl,q⟩
 have ax:decide ((p.length:Int)<20)=false:=g2 (by omega);obtain⟨a5,bt,a3⟩:=rY y (k :=.i64) (n:=8) (by omega) (by omega);obtain⟨aj,ap,ah⟩:=qj y 8 16 (by omega) (by omega);obtain⟨ak,aq,ai⟩:=qj y 16 20 (by omega) (by omega);have a3:aI 1 aY (p.take 8) a5:=a3;have ap:eN tab aP true true false [F,.int .i64 8,.int .i64 16]=some aj:=ap;have aq:eN tab aP true true false [F,.int .i64 16,.int .i64 20]=some ak:=aq;have ah:aI 1 aY ((p.drop 8).take 8) aj:=by rw[od]at ah;exact ah
 have ai:aI 1 aY ((p.drop 16).take 4) ak:=by rw[od]at ai;exact ai
 have cl:∀c,R oP [a5] c=some (.int .u64 (num (p.take 8)),c):=λc=>wg _ a5 c a3 (by simp;omega) (λz g=>K z (fG g))
 have cm:∀c,R oP [aj] c=some (.int .u64 (num ((p.drop 8).take 8)),c):=λc=>wg _ aj c ah (by simp;omega) (λz g=>K z (fM (fG g)))
 obtain⟨c4,c5⟩:=nR 4 ((p.drop 16).take 4) (by simp;omega) (λz g=>K z (fM (fG g)));have ba:((bN p:Nat):Int)=num ((p.drop 16).take 4):=by unfold bN;omega
 have a0:∀c,R oP [ak] c=some (.int .u64 ((bN p:Nat):Int),c):=λc=>by
  rw[wg _ ak c ai (by simp;omega) (λz g=>K z (fM (fG g))),ba]
 simp only[Bo,bs,aL,fm y,bS,ax,aK,aU,aJ,bt,cl,nE,ap,cm,Co,aq,a0];generalize aG h bP 3 [[.int .i64 0,.int .i64 0,.aA]]=ae at *;have bo:(aG ae bP 3 [[.int .i64 0,.int .i64 0,.aA]])[h.length+1]?=some (.row bP 3 [eJ 0 0 .aA]):=by rw[← E];exact fO _ _ _ _
 have bq:(aG ae bP 3 [[.int .i64 0,.int .i64 0,.aA]])[h.length]?=some (.row bP 3 [eJ 0 0 .aA]):=by rw[eT _ _ _ _ (by omega)];exact a6
 have cj:∀a,a<h.length→(aG ae bP 3 [[.int .i64 0,.int .i64 0,.aA]])[a]?=h[a]?:=λa m=>by rw[eT _ _ _ _ (by omega)];exact bh a m
 generalize aG ae bP 3 [[.int .i64 0,.int .i64 0,.aA]]=ct at *;rw[E];refine uf (kk:=0) (off:=0) (row:=eJ 0 0 .aA) (v :=.agg [.int .i64 (e4 p),.int .i64 (fl p),.aA]) bo (by rfl) (by rfl) (by exact bB _) (by rfl) λau al bl=>?_
 have al:au[h.length+1]?=some (.row bP 3 [eJ (e4 p) (fl p) .aA]):=al;have a7:au[h.length]?=some (.row bP 3 [eJ 0 0 .aA]):=by rw[bl.2 _ (by omega)];exact bq
 have bi:∀a,a<h.length→au[a]?=h[a]?:=λa m=>by rw[bl.2 a (by omega)];exact cj a m
 by_cases bz:40<bN p
 ·have av:decide (((bN p:Nat):Int)>40)=true:=fX (by omega);simp only[bs,a0,aL,dE,av,aK,aN,pd,g];exact pc a7 (aR.aA _ _ _ _) bi 22 λo q =>.inr ⟨λj C=>by have:=C.2.1;omega,o,rfl,q⟩
 have av:decide (((bN p:Nat):Int)>40)=false:=g2 (by omega);simp only[bs,a0,aL,dE,av,aK,aU,aJ];refine Wp.loop (λk ao c=>∃N P Q T X,∃f r:Nat,∃i j d,∃b:List It,ao=[.int .i64 0,.int .u64 ((bN p - f:Nat):Int),.int .i64 (r:Nat),N,P,Q,T,X]∧k+f=bN p∧d=p.drop r∧r≤p.length∧jV f (p.drop 20)=some (j,d)∧b.map e5=j
   ∧ c[h.length]?=some (.row bP 3 [eJ 0 0 .aA])∧c[h.length+1]?=some (.row bP 3 [eJ (e4 p) (fl p) i])∧aR c (h.length+2) aH 11 (b.map aT) i∧∀a,a<h.length→c[a]?=h[a]?)
  (λx=>(∃a4 bm bn N P Q T X,x.2.1=[a4,bm,bn,N,P,Q,T,X]∧(x.1 = .ret→a4 = .int .i64 22))∧(∀a,a<h.length→x.2.2[a]?=h[a]?)∧x.2.2[h.length]?=some (.row bP 3 [eJ 0 0 .aA]) ∧
   ((x.1 = .ret∧jV (bN p) (p.drop 20)=none)∨(x.1 = .ext 0∧∃i j d f,∃b:List It,jV f (p.drop 20)=some (j,d)∧b.map e5=j∧f=bN p∧x.2.2[h.length+1]?=some (.row bP 3 [eJ (e4 p) (fl p) i])∧aR x.2.2 (h.length+2) aH 11 (b.map aT) i)))
  (bN p) ⟨_,_,_,_,_,0,20,.aA,[],p.drop 20,[],rfl,rfl,rfl,by omega,rfl,rfl,a7,al,aR.aA _ _ _ _,bi⟩ ?_ ?_
 ·rintro k ao c ⟨N,P,Q,T,X,f,r,i,j,d,b,rfl,cy,ay,cw,t,u,s,A,M,w⟩;obtain⟨ce,⟨c7,bf⟩,_⟩:=rm t;have cc:∀z∈d,U8 z:=λz g=>by rw[bf]at g;exact K z (fM (fM g))
  have c1:d.length≤p.length:=by rw[bf,gK,gK];omega
  simp only[KJ,aW,bL,bs,aL,dE,E];by_cases bd:f<bN p
  ·have ab:((bN p - f:Nat):Int)>0:=by omega
   obtain⟨cn,a8,I⟩:=rZ y (k :=.i64) (n:=(r:Nat)) (by omega) (by omega);rw[eQ,← ay]at I;obtain⟨_,af,ar,b7⟩:=MV d cn c I (by omega) cc;by_cases H:(ib d).1=0
   ·rw[H]at ar;obtain⟨c9,da,_⟩:=CN H;have c2:d.length=p.length - r:=by rw[ay];simp[-a7N]
    have cr:IntKind.wrap .i64 (((r:Nat):Int)+(ib d).2.1)=((r+(ib d).2.1.toNat:Nat):Int):=by rw[bJ (by omega) (by omega)];omega
    have ck:Y tab c dO (.ptr (h.length+1) 0 (0+2))=some i:=by rw[GS,dM A];rfl
    have b8:dL tab dO 1 [0] [.agg (aT af)]=some (.sl 11 true [aT af]):=id rfl;have bc:b.length=f:=by have:=fR List.length u;simp at this;omega
    have cq:IntKind.wrap .u64 (((bN p - f:Nat):Int) - 1)=((bN p - (f+1):Nat):Int):=by rw[iF (by omega) (by omega)];omega
    simp only[ab,cM,a8,aN,bs,aK,ar,fU,fC,fV,mL,kL,dH,dU,eF,bT,aU,aJ,C5,ck,b8,aL];have b4:h.length+2≤c.length:=(bR.1 A).1;refine Ar (ys:=[aT af]) b4 M (hC _ _ _ _) (by simp;omega) λbj bu ag c3 an c6 _=>?_
    have bp:bu[h.length+1]?=some (.row bP 3 [eJ (e4 p) (fl p) i]):=by rw[an _ (by omega)];exact A
    simp only[bs];refine Iw (kk:=0) (row:=eJ (e4 p) (fl p) i) bp (by rfl) (by rw[(fT (jj ag)).1];rfl) (by simp[-a7N,eJ]) (fT (jj ag)).2 λbv aa a2=>?_
    rw[(fT (jj ag)).1]at aa;have aa:bv[h.length+1]?=some (.row bP 3 [eJ (e4 p) (fl p) bj]):=aa;simp only[bs,cO,cr,eB,cq];refine .some (.inl ⟨rfl,k - 1,by omega,_,_,_,_,_,f+1,r+(ib d).2.1.toNat,bj,j++[(ib d).2.2],d.drop (ib d).2.1.toNat,b++[af],rfl,by omega,by rw[ay,mF],by omega,?_,?_,?_,aa,?_,λa m=>?_⟩)
    ·unfold jV;simp only[t,H,aN]
    ·rw[gL,u];simp[-a7N,b7]
    ·rw[a2.2 _ (by omega),an _ (by omega)];exact s
    ·rw[gL];exact ag.cL λa m C=>a2.2 a (by omega)
    ·rw[a2.2 a (by omega),an a (by omega)];exact w a m
   ·have b3:decide ((ib d).1≠0)=true:=fX H;simp only[ab,cM,a8,aN,bs,aK,ar,fU,fC,fV,mL,dH,b3,pd,g];refine uf (kk:=0) (off:=0) (row:=eJ 0 0 .aA) (v :=.agg (eJ 0 0 .aA)) s (by rfl) (by rfl) (by exact bB _) (by rfl) λbw am cp=>?_
    have am:bw[h.length]?=some (.row bP 3 [eJ 0 0 .aA]):=am;refine .some (.inr ⟨by simp,⟨_,_,_,_,_,_,_,_,rfl,λ_=>rfl⟩,λa m=>by rw[cp.2 a (by omega)];exact w a m,am,.inl ⟨rfl,CP (k:=f+1) ?_ _ (by omega)⟩⟩);unfold jV;simp only[t,H,aJ]
  ·have bd:f=bN p:=by omega
   subst bd;have ab:¬((bN p - bN p:Nat):Int)>0:=by omega
   simp only[ab,bT,aU,aJ,bs,aK];exact .some (.inr ⟨by simp,⟨_,_,_,_,_,_,_,_,rfl,λb5=>by cases b5⟩,w,s,.inr ⟨rfl,i,j,d,_,b,t,u,rfl,A,M⟩⟩)
 ·rintro ⟨cs,ao,c⟩ ⟨⟨a4,bm,bn,N,P,Q,T,X,rfl,bg⟩,w,s,bb⟩;simp only at w s bb bg;rcases bb with⟨rfl,cb⟩|⟨rfl,i,j,d,f,b,t,u,b9,A,M⟩
  ·have:=bg rfl;subst this;simp only[jQ,jG,jX,bs,aW];exact Cn s (aR.aA _ _ _ _) w 22 λo q =>.inr ⟨(λj C=>by
    obtain⟨_,_,⟨d,I⟩,_⟩:=C;rw[cb]at I;cases I),o,rfl,q⟩
  ·obtain⟨ce,_,cd⟩:=rm t;have b1:=cd b u;simp only[gK]at b1;have bc:b.length=f:=by have:=fR List.length u;simp at this;omega
   have az:Y tab c bP (.ptr (h.length+1) 0 0)=some (.agg (eJ (e4 p) (fl p) i)):=by rw[vQ,dM A];rfl
   have ca:∀L∈b,qd L.e:=λL b6 a m=>by
    have a9:(gj L).length≤(b.map gj).flatten.length:=(B1 (g8.2 ⟨L,b6,rfl⟩)).length_le;have bx:(hJ a).length≤(L.e.fs.map hJ).flatten.length:=(B1 (g8.2 ⟨a,m,rfl⟩)).length_le;rw[ru]at a9;simp only[fW,bF]at a9;simp only[hJ,pS,bF,rX]at bx;omega
   obtain⟨br,ad,a1⟩:=a3U (e4 p) (fl p) b i c (.inr ⟨_,M⟩) ca (λ_=>by omega);have bk:gN (e4 p) b≠0∨iT (e4 p) (fl p) b≠p→∀ys,¬lK p ys:=λl ys cf=>by
    obtain⟨_,bz,⟨c8,B⟩,ci,cg,ch,i3⟩:=cf;rw[b9]at t;rw[t]at B;injection B with B;injection B with B _;have be:b.map e5=ci.map e5:=by rw[u,cg,B]
    rcases l with l|l
    ·exact l (by rw[xA be];exact ch)
    ·exact l (by rw[L0 be];exact i3)
   by_cases l:gN (e4 p) b=0
   ·rw [l]at ad;unfold qo at a1;rw[bO l]at a1;have cx:(iT (e4 p) (fl p) b).length≤1000000000:=by simp only[iT,bF,fI,g6];omega
    have ac:=a3o _ p br F c a1 y (by omega);by_cases G:iT (e4 p) (fl p) b=p
    ·have aw:decide (iT (e4 p) (fl p) b=p)=true:=fX G;rw[aw]at ac;simp only[dA,cN,bs,aL,E,az,ad,fU,fC,fV,dH,dU,eF,bT,bZ,gk,aN,ac,gB,fy,bW,aU,aJ,aK];refine pc s M w 0 λo q =>.inl ⟨j,?_,b,o,rfl,q,u⟩
     obtain⟨cu,_⟩:=qh l;have co:(p.drop 16).take 4=pN b.length:=by
      rw[← G];have:iT (e4 p) (fl p) b=(pI (e4 p)++pI (fl p))++(pN b.length++(b.map gj).flatten):=by simp[-a7N,iT]
      rw[this,List.drop_left' (by rw[bF,fI,fI])];exact List.take_left' (g6 _)
     have b0:bN p=b.length:=by
      have:=ba;rw[co,PK (by omega)]at this;omega
     refine⟨by omega,by omega,⟨d,by rw[b0,bc];exact t⟩,b,u,l,G⟩
    ·have aw:decide (iT (e4 p) (fl p) b=p)=false:=g2 G;rw[aw]at ac;simp only[dA,cN,bs,aL,E,az,ad,fU,fC,fV,dH,dU,eF,bT,bZ,gk,aN,ac,gB,gb,bW,aU,aJ,aK,pd,g];exact pc s (aR.aA _ _ _ _) w 22 λo q =>.inr ⟨bk (.inr G),o,rfl,q⟩
   ·have b2:decide (gN (e4 p) b≠0)=true:=fX l;simp only[dA,cN,bs,aL,E,az,ad,fU,fC,fV,dH,b2,bZ,gk,eP,fq,pC,aJ,aN,bW,aK,pd,g];exact pc s (aR.aA _ _ _ _) w 22 λo q =>.inr ⟨bk (.inl l),o,rfl,q⟩
abbrev TE:=Ev × Nat
def cJ(p:TE):List D:=bG p.1
theorem qq(p:TE):(D.agg (cJ p)).fo=true:=by
 obtain⟨a,e⟩:=p;have b:=fx a.ft;have c:=fx a.gH;have d:(D.agg (cJ (a,e))) = .agg [.int .i64 a.a0,.int .i64 a.a1,.int .i64 a.a2,.int .i64 a.a3,a.ld,.int .i64 a.a5,.int .i64 a.a6,.str a.s7,.str a.s8,a.fd]:=rfl;rw[d];generalize a.ld=f at b;generalize a.fd=g at c;simp[-a7N,D.fo,b,c,D.one]
theorem O1{h:J}{a k T z:Nat}{rows:List (List D)}{p:TE}(c:h[a]?=some (.row T z rows))(b:rows[k]?=some (cJ p)):Y tab h aC (.ptr a k 0)=some (.agg (cJ p)):=by
 rw[tA,dM c,b];rfl
theorem a0T(c:TE→TE→Int)(cmp:D)(K:∀x y g,hj R cmp [.agg (cJ x),.agg (cJ y)] g=some (.int .i64 (c x y),g))(f N a:Nat)(af:N≤1000000000){G:Type}{z:bK→Option G}{Q:G→Prop}
  (l:List TE) (m:l.length=N) (j:Nat) (u:j<N) (h:J) (e:h[f]?=some (.row aC 10 (l.map cJ))) (b:D)
  (k:∀x y h',h'[f]?=some (.row aC 10 ((dn c a j l).map cJ))→bM f h h'→Wp (z (.ext 2,[x,y],h')) Q) :
  Wp ((cA (Bv (.aZ 10 f 0 N) (.int .i64 a) cmp) [.int .i64 j,b] h).bind z) Q:=by
 generalize d:dn c a j l=p at k;refine Wp.loop (λw q g=>∃b,∃j:Nat,∃v:List TE,w=j∧q=[.int .i64 j,b]∧v.length=N∧j<N∧g[f]?=some (.row aC 10 (v.map cJ))∧bM f h g∧dn c a j v=p)
  (λo=>o.1 = .ext 2∧(∃x y,o.2.1=[x,y])∧o.2.2[f]?=some (.row aC 10 (p.map cJ))∧bM f h o.2.2) j ⟨b,j,l,rfl,rfl,m,u,e,.refl _ _,d⟩ ?_ ?_
 ·clear e m u d l j;rintro w q g ⟨b,j,l,rfl,rfl,m,u,e,sm,d⟩;simp only[Bv,aW,bL,bs,aL,dE];cases w with
  | zero =>
   have L:¬(a:Int)<((0:Nat):Int):=by omega
   have d:l=p:=d;subst d;simp only[L,bT,bZ,gk,aU,aJ,reduceCtorEq,bs,bW,aK];exact .some (.inr ⟨by simp,rfl,⟨_,_,rfl⟩,e,sm⟩)
  | succ j =>
   have r:l[j+1]?=some l[j+1]:=dG (by omega);have i:l[j]?=some l[j]:=dG (by omega);unfold dn at d;rw[r,i]at d;simp only at d;generalize l[j+1]=x at r d;generalize l[j]=y at i d;by_cases A:a<j+1
   ·have s:(a:Int)<((j+1:Nat):Int):=by omega
    have M:IntKind.wrap .i64 (((j+1:Nat):Int) - 1)=(j:Int):=by
     rw[bJ (by omega) (by omega)];omega
    have P:(0:Int)≤((j+1:Nat):Int)∧((j+1:Nat):Int)<(N:Int):=by omega
    have B:(0:Int)≤(j:Int)∧(j:Int)<(N:Int):=by omega
    have C:(l.map cJ)[j+1]?=some (cJ x):=by rw[eE,r];rfl
    have T:(l.map cJ)[j]?=some (cJ y):=by rw[eE,i];rfl
    simp only[s,cM,bZ,gk,aN,y7,P,B,jq,eS,eQ,eB,M,bs,O1 e C,O1 e T,K,bS,bW];by_cases n:c x y<0
    ·rw[bO ⟨A,n⟩]at d;simp only[n,cM,aK,aN];refine m9 e C (by rfl) (by simp[-a7N,cJ,bG]) (qq _) λad E X=>?_
     rw[show dZ (cJ x) 0 (cX (.agg (cJ y)))=cJ y from id rfl,zZ]at E;have V:((l.set (j+1) y).map cJ)[j]?=some (cJ y):=by
      rw[eE,kZ (by omega),i];rfl
     try simp only[bs,B,jq,aN,eS,eQ]
     refine m9 E V (by rfl) (by simp[-a7N,cJ,bG]) (qq _) λae F aa=>?_
     rw[show dZ (cJ y) 0 (cX (.agg (cJ x)))=cJ x from id rfl,zZ]at F
     try simp only[bs]
     exact .some (.inl ⟨rfl,j,by omega,_,j,_,rfl,rfl,by simpa using m,by omega,F,(sm.trans X).trans aa,d⟩)
    ·rw[cC (λt=>n t.2)]at d;subst d;simp only[n,bT,aK,aU,aJ];exact .some (.inr ⟨by simp,rfl,⟨_,_,rfl⟩,e,sm⟩)
   ·rw[cC (λt=>A t.1)]at d;subst d;have s:¬(a:Int)<((j+1:Nat):Int):=by omega
    simp only[s,bT,bZ,gk,aU,aJ,reduceCtorEq,bs,bW,aK];exact .some (.inr ⟨by simp,rfl,⟨_,_,rfl⟩,e,sm⟩)
 ·rintro⟨x,q,g⟩ ⟨rfl,⟨ab,ac,rfl⟩,H,I⟩;exact k ab ac g H I
theorem a4s(c:TE→TE→Int)(cmp:D)(C:∀x y g,hj R cmp [.agg (cJ x),.agg (cJ y)] g=some (.int .i64 (c x y),g))(f N a b:Nat)(A:N≤1000000000)(M:a<b∨(a=b∧b≤N))(P:b≤N)
  (l:List TE) (E:l.length=N) (h:J) (F:h[f]?=some (.row aC 10 (l.map cJ))) :
  ∃d h',R tg [.aZ 10 f 0 N,.int .i64 a,.int .i64 b,cmp] h=some (d,h')∧h'[f]?=some (.row aC 10 ((jO c a (a+1) (b - (a+1)) l).map cJ))∧bM f h h':=by
 suffices Wp (R tg [.aZ 10 f 0 N,.int .i64 a,.int .i64 b,cmp] h) (λu=>u.2[f]?=some (.row aC 10 ((jO c a (a+1) (b - (a+1)) l).map cJ))∧bM f h u.2) by
  obtain⟨⟨x,h'⟩,o,p⟩:=this;exact⟨x,h',o,p⟩
 rw[Np];have G:=eR a (by omega);simp only[Bt,bs,aL,cO,G];generalize i:jO c a (a+1) (b - (a+1)) l=m;refine Wp.loop (λt n g=>∃v w z,∃e:Nat,∃j:List TE,n=[.int .i64 e,v,w,z]∧t=b - e∧j.length=N∧g[f]?=some (.row aC 10 (j.map cJ))∧bM f h g∧jO c a e (b - e) j=m)
  (λq=>q.1 = .ext 0∧q.2.2[f]?=some (.row aC 10 (m.map cJ))∧bM f h q.2.2) (b - (a+1)) ⟨_,_,_,a+1,l,rfl,rfl,E,F,.refl _ _,i⟩ ?_ ?_
 ·rintro t n g ⟨v,w,z,e,j,rfl,rfl,r,s,sm,i⟩;simp only[Bu,aW,bL,bs,aL,bS];refine Wp.dF ?_ ?_
  ·intro k;have k:e<b:=by
    have:(e:Int)<(b:Int):=by simpa using k
    omega
   have B:b - e=(b - (e+1))+1:=by omega
   rw[B]at i;unfold jO at i;have H:=eR e (by omega);refine a0T c cmp C f N a A j r e (by omega) g s _ λx y L I K=>?_
   simp only[dA,ga,cN,bs,aW,cO,H];exact .some (.inl ⟨rfl,b - (e+1),by omega,_,_,_,e+1,_,rfl,rfl,by rw[xM];exact r,I,sm.trans K,i⟩)
  ·intro k;have k:¬e<b:=by
    have:¬(e:Int)<(b:Int):=by simpa using k
    omega
   rw[show b - e=0 by omega]at i;have i:j=m:=i;subst i;exact .some (.inr ⟨by simp,rfl,s,sm⟩)
 ·rintro⟨x,n,g⟩ ⟨rfl,o,p⟩;simp only[dA,lz,bs];exact .some ⟨o,p⟩
def o6(cmp:D)(c:TE→TE→Int):Prop:=∀b d a,hj R cmp [.agg (cJ b),.agg (cJ d)] a=some (.int .i64 (c b d),a)
theorem OB{c:TE→TE→Int}{S dQ:TE→TE→Prop}(y:me c S dQ){cmp:D}(u:o6 cmp c){o N:Nat}(r:N≤1000000000){g:J}{P A Q:List TE}(f:(P++A++Q).length=N)(e:A.Pairwise dQ)
  (w:g[o]?=some (.row aC 10 ((P++A++Q).map cJ))) (a b:Int) (s:a=P.length) (t:b=(P.length+A.length:Nat)) :
  Wp (R tg [.aZ 10 o 0 N,.int .i64 a,.int .i64 b,cmp] g) λp=>∃C:List TE,C.Perm A∧C.Pairwise S∧p.2[o]?=some (.row aC 10 ((P++C++Q).map cJ))∧bM o g p.2:=by
 subst s t;have v:=f;simp only[bF]at v;obtain⟨k,q,l,i,j⟩:=a4s c cmp u o N P.length (P.length+A.length) r (by omega) (by omega) _ f g w;refine⟨(k,q),l,?_⟩;cases A with
 | nil =>
  refine⟨[],by simp,List.Pairwise.nil,?_,j⟩;rw[i];simp[-a7N,jO]
 | cons d A =>
  obtain⟨C,z,B,E⟩:=y1 y P Q A [d] (by simp) (λH h F x=>by simp at h;subst h;exact(im.1 e).1 F x) (im.1 e).2;refine⟨C,B,E,?_,j⟩;rw[i];have m:P.length+(d::A).length - (P.length+1)=A.length:=by simp;omega
  rw[m];have n:P++d::A++Q=P++[d]++A++Q:=by simp
  rw[n];exact fR (λG:List TE=>some (Ob.row aC 10 (G.map cJ))) z
theorem a6v(cmp:D)(g:J):Wp (R yB [.aA,cmp] g) λp=>p.2=g:=by
 rw[Nm];simp only[Bp,bs,a1t,Nn,Bq,aL];refine Wp.loop (λ_ a b=>b=g∧∃h,a=[.int .i64 0,.int .i64 20,h]) (λc=>c.1 = .ext 0∧c.2.2=g∧∃h m,c.2.1=[.int .i64 0,h,m]) 0 ⟨rfl,_,rfl⟩ ?_ ?_
 ·rintro k a b ⟨rfl,h,rfl⟩;simp only[Br,aW,bL,bs,iw,show decide ((20:Int)≤0)=false by decide,aK,aU,aJ];exact .some (.inr ⟨by simp,rfl,rfl,_,_,rfl⟩)
 rintro⟨j,a,b⟩ ⟨d,e,h,m,l⟩;simp only at d e l;subst d;subst e;subst l;simp only[dA,cN,bs,aW,bL,aL,Np,Bt,cO,show IntKind.wrap .i64 ((0:Int)+1)=1 from rfl];refine Wp.loop (λ_ a f=>f=b∧Z 0 a = .int .i64 1) (λc=>c.1 = .ext 0∧c.2.2=b) 0 ⟨rfl,rfl⟩ ?_ ?_
 ·rintro k a f ⟨rfl,i⟩;simp only[Bu,i,bs,bS,show decide ((1:Int)<0)=false by decide,aK,aU,aJ];exact .some (.inr ⟨by simp,rfl,rfl⟩)
 rintro⟨j,a,f⟩ ⟨d,e⟩;simp only at d e;subst d;subst e;simp only[dA,cN,lz,bs,aL];refine Wp.loop (λ_ a b=>b=f∧Z 0 a = .int .i64 20) (λc=>c.1 = .ext 2∧c.2.2=f) 0 ⟨rfl,rfl⟩ ?_ ?_
 ·rintro k a b ⟨rfl,i⟩;simp only[Bs,i,bs,bS,show decide ((20:Int)<0)=false by decide,aK,aU,aJ];exact .some (.inr ⟨by simp,rfl,rfl⟩)
 rintro⟨j,a,b⟩ ⟨d,e⟩;simp only at d e;subst d;subst e;simp only[dA,cN,lz,bs];exact .some rfl
theorem SG:o6 (.fn (.func yC) [] []) cE:=λb c e=>by
 rw[re];show R yC [.agg (bG b.1),.agg (bG c.1)] e=_;rw[VK];unfold cE;cases a:ie b.1 c.1
 ·cases d:ie c.1 b.1
  ·simp only[wW,gq,bs,kJ,HD,a,d,aK,aU,aJ,cP]
  ·simp only[wW,gq,bs,kJ,HD,a,d,aK,aU,aJ,aN,cP]
 ·simp only[wW,gq,bs,kJ,HD,a,aK,aN,cP]
theorem Rl{i j:It}(h:e5 i=e5 j)(m:Int):ij m i=ij m j:=by
 have a:i.e.a2=j.e.a2:=fR RI.a2 h;have b:i.e.a3=j.e.a3:=fR RI.a3 h;have c:i.e.ls=j.e.ls:=fR RI.ls h;unfold ij;rw[a,b,c]
theorem xq:∀{a b:List It},a.map e5=b.map e5→∀d f,gZ d f a=gZ d f b
 |[],[],_,_,_=>rfl
 |[],_::_,h,_,_=>by simp at h
 |_::_,[],h,_,_=>by simp at h
 | i::a,j::b,h,d,f=>by
  rw[fP,fP]at h;injection h with c h2;have e0:i.e.a0=j.e.a0:=fR RI.a0 c;have g:i.e.a1=j.e.a1:=fR RI.a1 c;have k:i.e.a3=j.e.a3:=fR RI.a3 c;have l:i.e.ls=j.e.ls:=fR RI.ls c;have er:i.r=j.r:=fR RI.r c;rw[q7,q7,Rl c,e0,g,k,l,er];split
  ·rfl
  ·exact xq h2 _ _
  ·exact xq h2 _ _
theorem xp:∀{a b:List It},a.map e5=b.map e5→∀g e,iu g a e→iu g b e
 |[],[],_,_,_,k=>k
 |[],_::_,h,_,_,_=>by simp at h
 |_::_,[],h,_,_,_=>by simp at h
 | i::a,j::b,h,g,e,k=>by
  rw[fP,fP]at h;injection h with c h2;have e0:i.e.a0=j.e.a0:=fR RI.a0 c;have l:i.e.a1=j.e.a1:=fR RI.a1 c;have m:i.e.a3=j.e.a3:=fR RI.a3 c;have p:i.e.ls=j.e.ls:=fR RI.ls c;have er:i.r=j.r:=fR RI.r c;unfold iu at k ⊢;rw[Rl c,e0,l]at k;split at k
  ·trivial
  ·exact xp h2 _ _ k
  ·rename_i w v;obtain⟨n,d,k⟩:=k;refine⟨n,⟨d.r.trans er,d.a0.trans e0,d.a1.trans l,d.a2,d.a3.trans m,d.a5.trans (fR RI.a5 c),d.a6.trans (fR RI.a6 c),d.s7.trans (fR RI.t7 c),d.s8.trans (fR RI.t8 c),d.ls.trans (by rw[p]),d.fs.trans (fR RI.fs c)⟩,?_⟩;rw[m,er]at k;split
   ·rename_i f;rw[bO f]at k;obtain⟨o,q,s,t,u⟩:=k;exact⟨o,q,s,t,xp h2 _ _ u⟩
   ·rename_i f;rw[cC f]at k;exact xp h2 _ _ k
theorem xv(a b:D):gM 2 (.agg [a,b])=some (.aE [a,b]):=nB 2 _ rfl
theorem Ry:∀(a:List Ev) (n:Nat),(a.zipIdx n).map cJ=a.map bG
 |[],_=>rfl
 |e::r,n=>by rw[LF,fP,fP,Ry r (n+1)];rfl
theorem vB{α:Type}{l:List α}{a b:Nat}{x:α}(h:x∈(l.take b).drop a):∃j,a≤j∧j<b∧l[j]?=some x:=by
 obtain⟨d,c⟩:=q3.1 h;rw[ko,gw]at c;split at c
 ·exact⟨a+d,by omega,by assumption,c⟩
 ·cases c
def a1k:List UInt8:=(List.range 256).map λa=>if a=0 then 0 else if a<2 then 1 else if a<4 then 2 else if a<8 then 3 else if a<16 then 4 else if a<32 then 5 else if a<64 then 6 else if a<128 then 7 else 8
set_option maxRecDepth 20000 in
theorem mY{g:J}{o n:Nat}{rows:List TE}{p:TE}(a:g[o]?=some (.row aC 10 (rows.map cJ)))(b:rows[n]?=some p):Y tab g aC (.ptr o n 0)=some (.agg (cJ p)):=by
 have c:(rows.map cJ)[n]?=some (cJ p):=by rw[eE,b];rfl
 rw[tA,dM a,c];rfl
theorem Ir{g:J}{o N:Nat}{P X M Y Q:List TE}(aq:N≤1000000000)(ab:(P++X++M++Y++Q).length=N)(x:X.length=Y.length)(ac:g[o]?=some (.row aC 10 ((P++X++M++Y++Q).map cJ)))(cmp:D)(a b k:Int)(K:a=P.length)(L:b=(P.length+X.length+M.length:Nat))(u:k=X.length){A:Type}{f:D × J→Option A}{R1:A→Prop}
  (B:∀g',g'[o]?=some (.row aC 10 ((P++Y++M++X++Q).map cJ))→bM o g g'→Wp (f (aF [],g')) R1):Wp ((R vu [.aZ 10 o 0 N,.int .i64 a,.int .i64 b,.int .i64 k,cmp] g).bind f) R1:=by
 subst K L u;rw[VM];simp only[KS,bs,aL];simp only[bF]at ab;refine Wp.loop (λp l g'=>∃e,∃c:Nat,l=[.int .i64 c,e]∧p+c=X.length∧bM o g g'∧g'[o]?=some (.row aC 10 ((P++Y.take c++X.drop c++M++X.take c++Y.drop c++Q).map cJ)))
  (λj=>j.1 = .ext 0∧(∃e d,j.2.1=[e,d])∧bM o g j.2.2∧j.2.2[o]?=some (.row aC 10 ((P++Y++M++X++Q).map cJ))) X.length ⟨_,0,rfl,rfl,⟨rfl,λ_ _=>rfl⟩,by simpa using ac⟩ ?_ ?_
 ·rintro p l g' ⟨ar,c,rfl,u,sm,i⟩;simp only[KT,aW,bL,bs,aL,bS];refine Wp.dF ?_ ?_
  ·intro h;have h:c<X.length:=fe h;obtain⟨e,w⟩:=hq h;obtain⟨d,y⟩:∃d,Y[c]?=some d:=⟨_,dG (by omega)⟩
   have T:X.drop c=e::X.drop (c+1):=by
    obtain⟨n,m⟩:=bR.1 w;rw[hS n,m]
   have aa:Y.drop c=d::Y.drop (c+1):=by
    obtain⟨n,m⟩:=bR.1 y;rw[hS n,m]
   have ad:=eR c (by omega);have an:IntKind.wrap .i64 ((P.length:Int)+c)=((P.length+c:Nat):Int):=by
    rw[bJ (by omega) (by omega)];omega
   have ao:IntKind.wrap .i64 (((P.length+X.length+M.length:Nat):Int)+c)=((P.length+X.length+M.length+c:Nat):Int):=by
    rw[bJ (by omega) (by omega)];omega
   have C:P++Y.take c++X.drop c++M++X.take c++Y.drop c++Q=(P++Y.take c)++e::(X.drop (c+1)++M++X.take c++d::(Y.drop (c+1)++Q)):=by rw[T,aa];simp[-a7N]
   have E:(P++Y.take c)++e::(X.drop (c+1)++M++X.take c++d::(Y.drop (c+1)++Q))=(P++Y.take c++e::(X.drop (c+1)++M++X.take c))++d::(Y.drop (c+1)++Q):=by simp
   have F:(P++Y.take c)++d::(X.drop (c+1)++M++X.take c++d::(Y.drop (c+1)++Q))=(P++Y.take c++d::(X.drop (c+1)++M++X.take c))++d::(Y.drop (c+1)++Q):=by simp
   have G:(P++Y.take c++d::(X.drop (c+1)++M++X.take c))++e::(Y.drop (c+1)++Q)=P++Y.take (c+1)++X.drop (c+1)++M++X.take (c+1)++Y.drop (c+1)++Q:=by
    rw[g9,g9,w,y];simp[-a7N]
   have q:(P++Y.take c).length=P.length+c:=by simp;omega
   have r:∀z,(P++Y.take c++z::(X.drop (c+1)++M++X.take c)).length=P.length+X.length+M.length+c:=λz=>by simp;omega
   rw[C]at i;have ag:=mY i (hW _ _ e _ q);have ah:=mY i (by rw[E];exact hW _ _ d _ (r e));have ae:aO tab dX (.aZ 10 o 0 N) (.int .i64 ((P.length+c:Nat):Int))=some (.ptr o (P.length+c) 0):=by rw[y7,bO (by omega),eQ,eS]
   have af:aO tab dX (.aZ 10 o 0 N) (.int .i64 ((P.length+X.length+M.length+c:Nat):Int))=some (.ptr o (P.length+X.length+M.length+c) 0):=by rw[y7,bO (by omega),eQ,eS]
   simp only[cO,an,ao,ae,af,ag,ah,bs,aL];have aj:(((P++Y.take c)++e::(X.drop (c+1)++M++X.take c++d::(Y.drop (c+1)++Q))).map cJ)[P.length+c]?=some (cJ e):=by rw[eE,hW _ _ e _ q];rfl
   refine m9 (off:=0) (row:=cJ e) (v :=.agg (cJ d)) i aj (by rfl) (by exact bB _) (qq _) λH s al=>?_
   have s:H[o]?=some (.row aC 10 (((P++Y.take c++d::(X.drop (c+1)++M++X.take c))++d::(Y.drop (c+1)++Q)).map cJ)):=by
    rw[s,show dZ (cJ e) 0 (cX (.agg (cJ d)))=cJ d from rfl,← j8,lY _ _ e d _ q,F]
   try simp only[bs]
   have ak:(((P++Y.take c++d::(X.drop (c+1)++M++X.take c))++d::(Y.drop (c+1)++Q)).map cJ)[P.length+X.length+M.length+c]?=some (cJ d):=by rw[eE,hW _ _ d _ (r d)];rfl
   refine m9 (off:=0) (row:=cJ d) (v :=.agg (cJ e)) s ak (by rfl) (by exact bB _) (qq _) λI t am=>?_
   have t:I[o]?=some (.row aC 10 ((P++Y.take (c+1)++X.drop (c+1)++M++X.take (c+1)++Y.drop (c+1)++Q).map cJ)):=by
    rw[t,show dZ (cJ d) 0 (cX (.agg (cJ e)))=cJ e from rfl,← j8,lY _ _ d e _ (r d),G]
   simp only[bs,ad];exact .some (.inl ⟨rfl,p - 1,by omega,_,c+1,rfl,by omega,(sm.trans al).trans am,t⟩)
  ·intro h;have h:c=X.length:=by
    have:¬(c:Int)<X.length:=by simpa using h
    omega
   subst h;refine .some (.inr ⟨by simp,rfl,⟨_,_,rfl⟩,sm,?_⟩);rw[i,x,je,qb,← x,je,qb];simp[-a7N]
 ·rintro⟨ap,l,g'⟩ ⟨rfl,⟨e,d,rfl⟩,sm,ai⟩;simp only[dA,lz,bs];exact B g' ai sm
theorem a6A{g:J}{o N:Nat}{P U V Q:List TE}(x:N≤1000000000)(F:(P++U++V++Q).length=N)(T:0<U.length)(aa:0<V.length)(ag:g[o]?=some (.row aC 10 ((P++U++V++Q).map cJ)))(cmp:D)(a m b:Int)(ac:a=P.length)(G:m=(P.length+U.length:Nat))(ad:b=(P.length+U.length+V.length:Nat)){I:Type}{f:D × J→Option I}{R1:I→Prop}
  (K:∀g',g'[o]?=some (.row aC 10 ((P++V++U++Q).map cJ))→bM o g g'→Wp (f (aF [],g')) R1):Wp ((R DK [.aZ 10 o 0 N,.int .i64 a,.int .i64 m,.int .i64 b,cmp] g).bind f) R1:=by
 obtain⟨i,af⟩:∃i:Nat,i=P.length+U.length:=⟨_,rfl⟩
 rw[← af]at G;subst ac G ad;have ae:=F;simp only[bF]at ae;have ah:IntKind.wrap .i64 ((i:Int) - (P.length:Int))=(U.length:Int):=by rw[bJ (by omega) (by omega)];omega
 have ai:IntKind.wrap .i64 (((P.length+U.length+V.length:Nat):Int) - (i:Int))=(V.length:Int):=by rw[bJ (by omega) (by omega)];omega
 rw[VL];simp only[KQ,bs,aL,eB,ah,ai];refine Wp.loop (λH v g'=>∃q r,∃e c d h:List TE,v=[.int .i64 c.length,.int .i64 d.length,q,r]∧H=c.length+d.length∧0<c.length∧0<d.length∧e.length+c.length=i∧e++d++c++h=P++V++U++Q∧(e++c++d++h).length=N∧bM o g g'∧g'[o]?=some (.row aC 10 ((e++c++d++h).map cJ)))
  (λt=>t.1 = .ext 0∧∃q r,∃e c d h:List TE,t.2.1=[.int .i64 c.length,.int .i64 d.length,q,r]∧c.length=d.length∧e.length+c.length=i∧e++d++c++h=P++V++U++Q∧(e++c++d++h).length=N∧bM o g t.2.2∧t.2.2[o]?=some (.row aC 10 ((e++c++d++h).map cJ)))
  (U.length+V.length) ⟨_,_,P,U,V,Q,rfl,rfl,T,aa,by omega,rfl,F,⟨rfl,λ_ _=>rfl⟩,ag⟩ ?_ ?_
 ·rintro H v g' ⟨q,r,e,c,d,h,rfl,ap,am,an,B,k,s,sm,l⟩;have z:=s;simp only[bF]at z;simp only[KR,aW,bL,bs,aL,dH];refine Wp.dF ?_ ?_
  ·intro j;have j:c.length≠d.length:=by
    have:¬(c.length:Int)=d.length:=by simpa using j
    omega
   simp only[dE,bs];have u:IntKind.wrap .i64 ((i:Int) - (c.length:Int))=(e.length:Int):=by rw[bJ (by omega) (by omega)];omega
   by_cases ao:d.length<c.length
   ·have y:decide ((c.length:Int)>(d.length:Int))=true:=fX (by omega);obtain⟨X,M,ab,C⟩:∃X M,c=X++M∧X.length=d.length:=⟨c.take d.length,c.drop d.length,(h6 _ _).symm,by simp;omega⟩
    subst ab;simp only[bF]at *;have A:IntKind.wrap .i64 (((X.length+M.length:Nat):Int) - (d.length:Int))=(M.length:Int):=by rw[bJ (by omega) (by omega)];omega
    simp only[y,aK,aN,eB,u,A,bs,aL];refine Ir (P:=e) (X:=X) (M:=M) (Y:=d) (Q:=h) x (by simp only[bF];omega) C (by simpa using l) cmp _ _ _ rfl (by omega) (by omega) λw n p=>?_
    simp only[bs,ga,aW,bL];rw[← C];refine .some (.inl ⟨rfl,M.length+X.length,by omega,_,_,e++d,M,X,h,rfl,rfl,by omega,by omega,by simp only[bF];omega,by rw[← k];simp[-a7N],by simp only[bF];omega,sm.trans p,by rw[n]⟩)
   ·have y:decide ((c.length:Int)>(d.length:Int))=false:=g2 (by omega);obtain⟨M,Y,L,E⟩:∃M Y,d=M++Y∧Y.length=c.length:=⟨d.take (d.length - c.length),d.drop (d.length - c.length),(h6 _ _).symm,by simp;omega⟩
    subst L;simp only[bF]at *;have aj:IntKind.wrap .i64 ((i:Int)+((M.length+Y.length:Nat):Int))=((i+(M.length+Y.length):Nat):Int):=by rw[bJ (by omega) (by omega)];omega
    have ak:IntKind.wrap .i64 (((i+(M.length+Y.length):Nat):Int) - (c.length:Int))=((e.length+c.length+M.length:Nat):Int):=by rw[bJ (by omega) (by omega)];omega
    have A:IntKind.wrap .i64 (((M.length+Y.length:Nat):Int) - (c.length:Int))=(M.length:Int):=by rw[bJ (by omega) (by omega)];omega
    simp only[y,aK,aU,aJ,eB,cO,u,aj,ak,A,bs,aL];refine Ir (P:=e) (X:=c) (M:=M) (Y:=Y) (Q:=h) x (by simp only[bF];omega) E.symm (by simpa using l) cmp _ _ _ rfl rfl rfl λw n p=>?_
    simp only[bs,ga,aW,bL];rw[← E];refine .some (.inl ⟨rfl,Y.length+M.length,by omega,_,_,e,Y,M,c++h,rfl,rfl,by omega,by omega,by omega,by rw[← k];simp[-a7N],by simp only[bF];omega,sm.trans p,by rw[n];simp[-a7N]⟩)
  ·intro j;have j:c.length=d.length:=by
    have:(c.length:Int)=d.length:=by simpa using j
    omega
   exact .some (.inr ⟨by simp,rfl,_,_,e,c,d,h,rfl,j,B,k,s,sm,l⟩)
 ·rintro⟨al,v,g'⟩ ⟨rfl,q,r,e,c,d,h,rfl,j,B,k,s,sm,l⟩;have z:=s;simp only[bF]at z;have u:IntKind.wrap .i64 ((i:Int) - (c.length:Int))=(e.length:Int):=by rw[bJ (by omega) (by omega)];omega
  simp only[dA,cN,aW,bL,bs,aL,eB,u];refine Ir (P:=e) (X:=c) (M:=[]) (Y:=d) (Q:=h) x (by simp only[bF,e6];omega) j (by simpa using l) cmp _ _ _ rfl (by simp only[e6];omega) rfl λw n p=>?_
  simp only[bs];refine K w ?_ (sm.trans p);rw[n,← k];simp[-a7N]
theorem a5d{g:J}{o:Nat}{A B:List TE}{x y:TE}{n:Nat}(a:A.length=n)(j:g[o]?=some (.row aC 10 ((A++x::y::B).map cJ))){d:Type}{f:J→Option d}{Q:d→Prop}
  (e:∀g',g'[o]?=some (.row aC 10 ((A++y::x::B).map cJ))→bM o g g'→Wp (f g') Q):Wp ((aS tab g aC (.ptr o n 0) (.agg (cJ y))).bind λg1=>(aS tab g1 aC (.ptr o (n+1) 0) (.agg (cJ x))).bind f) Q:=by
 have l:((A++x::y::B).map cJ)[n]?=some (cJ x):=by rw[eE,hW _ _ x _ a];rfl
 refine m9 (off:=0) (row:=cJ x) (v :=.agg (cJ y)) j l (by rfl) (by exact bB _) (qq _) λg1 b p=>?_
 have h:A++y::y::B=(A++[y])++y::B:=by simp
 have c:(A++[y]).length=n+1:=by simp[-a7N,a]
 have b:g1[o]?=some (.row aC 10 (((A++[y])++y::B).map cJ)):=by
  rw[b,show dZ (cJ x) 0 (cX (.agg (cJ y)))=cJ y from rfl,← j8,lY _ _ x y _ a,h]
 have m:(((A++[y])++y::B).map cJ)[n+1]?=some (cJ y):=by rw[eE,hW _ _ y _ c];rfl
 refine m9 (off:=0) (row:=cJ y) (v :=.agg (cJ x)) b m (by rfl) (by exact bB _) (qq _) λi k q=>?_
 refine e i ?_ (p.trans q);rw[k,show dZ (cJ y) 0 (cX (.agg (cJ x)))=cJ x from rfl,← j8,lY _ _ y x _ c];simp[-a7N]
theorem a5c{g:J}{o:Nat}{A B:List TE}{x y:TE}{n:Nat}(a:A.length=n)(c:g[o]?=some (.row aC 10 ((A++x::y::B).map cJ))){e:Type}{f:J→Option e}{Q:e→Prop}
  (h:∀g',g'[o]?=some (.row aC 10 ((A++y::x::B).map cJ))→bM o g g'→Wp (f g') Q):Wp ((aS tab g aC (.ptr o (n+1) 0) (.agg (cJ x))).bind λg1=>(aS tab g1 aC (.ptr o n 0) (.agg (cJ y))).bind f) Q:=by
 have i:A++x::y::B=(A++[x])++y::B:=by simp
 have d:(A++[x]).length=n+1:=by simp[-a7N,a]
 rw[i]at c;have m:(((A++[x])++y::B).map cJ)[n+1]?=some (cJ y):=by rw[eE,hW _ _ y _ d];rfl
 refine m9 (off:=0) (row:=cJ y) (v :=.agg (cJ x)) c m (by rfl) (by exact bB _) (qq _) λg1 b p=>?_
 have b:g1[o]?=some (.row aC 10 ((A++x::x::B).map cJ)):=by
  rw[b,show dZ (cJ y) 0 (cX (.agg (cJ x)))=cJ x from rfl,← j8,lY _ _ y x _ d];simp[-a7N]
 have l:((A++x::x::B).map cJ)[n]?=some (cJ x):=by rw[eE,hW _ _ x _ a];rfl
 refine m9 (off:=0) (row:=cJ x) (v :=.agg (cJ y)) b l (by rfl) (by exact bB _) (qq _) λj k q=>?_
 refine h j ?_ (p.trans q);rw[k,show dZ (cJ x) 0 (cX (.agg (cJ y)))=cJ y from rfl,← j8,lY _ _ x y _ a]
theorem oS{o N n:Nat}(h:n<N):aO tab dX (.aZ 10 o 0 N) (.int .i64 (n:Int))=some (.ptr o n 0):=by rw[y7,bO (by omega),eQ,eS]
theorem a6K{g:J}{o N:Nat}{P A Q:List TE}{x:TE}(ac:N≤1000000000)(y:(P++x::A++Q).length=N)(B:g[o]?=some (.row aC 10 ((P++x::A++Q).map cJ)))(p:bK)(C:Z 0 p.2.1 = .int .i64 ((P.length+A.length+1:Nat):Int))(a:Int)(u:a=P.length)(X:D){q:Type}{f:bK→Option q}{R1:q→Prop}
  (r:∀g' h i,g'[o]?=some (.row aC 10 ((P++A++x::Q).map cJ))→bM o g g'→Wp (f (.ext 2,[h,i],g')) R1):Wp ((cA (BB (.aZ 10 o 0 N) p) [.int .i64 a,X] g).bind f) R1:=by
 subst u;simp only[bF,g7]at y;refine Wp.loop (λl k g'=>∃d,∃b:Nat,k=[.int .i64 ((P.length+b:Nat):Int),d]∧l+b=A.length∧bM o g g'∧g'[o]?=some (.row aC 10 ((P++A.take b++x::(A.drop b++Q)).map cJ)))
  (λj=>j.1 = .ext 2∧(∃h i,j.2.1=[h,i])∧bM o g j.2.2∧j.2.2[o]?=some (.row aC 10 ((P++A++x::Q).map cJ))) A.length ⟨_,0,rfl,rfl,⟨rfl,λ_ _=>rfl⟩,by simpa using B⟩ ?_ ?_
 ·rintro l k g' ⟨ae,b,rfl,ad,sm,e⟩;have R:IntKind.wrap .i64 (((P.length+A.length+1:Nat):Int) - 1)=((P.length+A.length:Nat):Int):=by rw[bJ (by omega) (by omega)];omega
  simp only[BB,aW,bL,bs,aL,C,eB,R,bS];refine Wp.dF ?_ ?_
  ·intro c;have c:b<A.length:=by
    have:((P.length+b:Nat):Int)<((P.length+A.length:Nat):Int):=by simpa using c
    omega
   obtain⟨d,m⟩:=hq c;have v:A.drop b=d::A.drop (b+1):=by
    obtain⟨z,w⟩:=bR.1 m;rw[hS z,w]
   have E:IntKind.wrap .i64 (((P.length+b:Nat):Int)+1)=((P.length+b+1:Nat):Int):=by
    rw[bJ (by omega) (by omega)];omega
   have s:P++A.take b++x::(A.drop b++Q)=(P++A.take b)++x::d::(A.drop (b+1)++Q):=by rw[v];simp[-a7N]
   have t:(P++A.take b++[x])++d::(A.drop (b+1)++Q)=(P++A.take b)++x::d::(A.drop (b+1)++Q):=by simp
   have n:(P++A.take b).length=P.length+b:=by simp;omega
   have K:(P++A.take b++[x]).length=P.length+b+1:=by simp;omega
   rw[s]at e;have H:=mY e (hW _ _ x _ n);have I:=mY e (by rw[← t];exact hW _ _ d _ K);have F:=@oS o N (P.length+b) (by omega);have G:=@oS o N (P.length+b+1) (by omega);simp only[cO,E,F,G,H,I,bs,aL];refine a5d n e λab M T=>?_
   try simp only[bs]
   refine .some (.inl ⟨rfl,l - 1,by omega,_,b+1,rfl,by omega,sm.trans T,?_⟩);rw[M,g9,m];simp[-a7N]
  ·intro c;have c:b=A.length:=by
    have:¬((P.length+b:Nat):Int)<((P.length+A.length:Nat):Int):=by simpa using c
    omega
   subst c;rw[je,qb]at e;exact .some (.inr ⟨by simp,rfl,⟨_,_,rfl⟩,sm,by simpa using e⟩)
 ·rintro⟨aa,k,g'⟩ ⟨rfl,⟨h,i,rfl⟩,sm,L⟩;exact r g' h i L sm
theorem a6G{g:J}{o N:Nat}{P A Q:List TE}{x:TE}(ab:N≤1000000000)(z:(P++A++x::Q).length=N)(E:g[o]?=some (.row aC 10 ((P++A++x::Q).map cJ)))(r:bK)(F:Z 0 r.2.1 = .int .i64 (P.length:Int))(m:Int)(B:m=(P.length+A.length:Nat))(T:D){s:Type}{f:bK→Option s}{R1:s→Prop}
  (t:∀g' e h,g'[o]?=some (.row aC 10 ((P++x::A++Q).map cJ))→bM o g g'→Wp (f (.ext 6,[e,h],g')) R1):Wp ((cA (Bz (.aZ 10 o 0 N) r) [.int .i64 m,T] g).bind f) R1:=by
 subst B;simp only[bF,g7]at z;refine Wp.loop (λb k g'=>∃c,k=[.int .i64 ((P.length+b:Nat):Int),c]∧b≤A.length∧bM o g g'∧g'[o]?=some (.row aC 10 ((P++A.take b++x::(A.drop b++Q)).map cJ)))
  (λj=>j.1 = .ext 6∧(∃e h,j.2.1=[e,h])∧bM o g j.2.2∧j.2.2[o]?=some (.row aC 10 ((P++x::A++Q).map cJ))) A.length ⟨_,rfl,bB _,⟨rfl,λ_ _=>rfl⟩,by simpa using E⟩ ?_ ?_
 ·rintro b k g' ⟨ad,rfl,ac,sm,i⟩;simp only[Bz,aW,bL,bs,aL,F,dE];refine Wp.dF ?_ ?_
  ·intro d;have d:0<b:=by
    have:((P.length+b:Nat):Int)>(P.length:Int):=by simpa using d
    omega
   obtain⟨a,rfl⟩:∃a,b=a+1:=⟨b - 1,by omega⟩
   obtain⟨c,n⟩:∃c,A[a]?=some c:=⟨_,dG (by omega)⟩
   have w:A.drop a=c::A.drop (a+1):=by
    obtain⟨C,y⟩:=bR.1 n;rw[hS C,y]
   have l:IntKind.wrap .i64 (((P.length+(a+1):Nat):Int) - 1)=((P.length+a:Nat):Int):=by
    rw[bJ (by omega) (by omega)];omega
   have u:P++A.take (a+1)++x::(A.drop (a+1)++Q)=(P++A.take a)++c::x::(A.drop (a+1)++Q):=by rw[g9,n];simp[-a7N]
   have v:(P++A.take a++[c])++x::(A.drop (a+1)++Q)=(P++A.take a)++c::x::(A.drop (a+1)++Q):=by simp
   have q:(P++A.take a).length=P.length+a:=by simp;omega
   have K:(P++A.take a++[c]).length=P.length+a+1:=by simp;omega
   rw[u]at i;have H:=mY i (hW _ _ c _ q);have I:=mY i (by rw[← v];exact hW _ _ x _ K);have G:=@oS o N (P.length+a) (by omega);have p:=@oS o N (P.length+(a+1)) (by omega);rw[show P.length+(a+1)=P.length+a+1 from rfl]at l p ⊢;simp only[eB,l,G,p,H,I,bs,aL];refine a5c q i λaa M R=>?_
   try simp only[bs]
   refine .some (.inl ⟨rfl,a,by omega,_,rfl,by omega,sm.trans R,?_⟩);rw[M,w];simp[-a7N]
  ·intro d;have d:b=0:=by
    have:¬((P.length+b:Nat):Int)>(P.length:Int):=by simpa using d
    omega
   subst d;exact .some (.inr ⟨by simp,rfl,⟨_,_,rfl⟩,sm,by simpa using i⟩)
 ·rintro⟨X,k,g'⟩ ⟨rfl,⟨e,h,rfl⟩,sm,L⟩;exact t g' e h L sm
theorem a6I{g:J}{o N:Nat}{i:List TE}(ax:N≤1000000000)(a0:i.length=N)(z:g[o]?=some (.row aC 10 (i.map cJ)))(cmp:D)(a m b:Nat)(h:Nat→Prop)(T:a<N)(aa:m≤b)(ay:b≤N)(x:TE)(ac:i[a]?=some x)
  (X:∀t y,m≤t→t<b→i[t]?=some y→∃v,hj R cmp [.agg (cJ y),.agg (cJ x)] g=some (.int .i64 v,g)∧(v<0↔h t)) (aq ar au:D) {I:Type} {f:bK→Option I} {Q:I→Prop}
  (K:∀(c:Nat) j k l,m≤c→c≤b→(c=m∨h (c - 1))→(c=b∨¬h c)→Wp (f (.ext 0,[.int .i64 (c:Int),.int .i64 (c:Int),j,k,l],g)) Q):Wp ((cA (BA (.aZ 10 o 0 N) (.int .i64 (a:Int)) cmp) [.int .i64 (m:Int),.int .i64 (b:Int),aq,ar,au] g).bind f) Q:=by
 refine Wp.loop (λC q r=>r=g∧∃F G H,∃e d:Nat,q=[.int .i64 (e:Int),.int .i64 (d:Int),F,G,H]∧C=d - e∧m≤e∧e≤d∧d≤b∧(e=m∨h (e - 1))∧(d=b∨¬h d))
  (λs=>s.1 = .ext 0∧s.2.2=g∧∃j k l,∃c:Nat,s.2.1=[.int .i64 (c:Int),.int .i64 (c:Int),j,k,l]∧m≤c∧c≤b∧(c=m∨h (c - 1))∧(c=b∨¬h c)) (b - m) ⟨rfl,_,_,_,m,b,rfl,rfl,bB _,aa,bB _,.inl rfl,.inl rfl⟩ ?_ ?_
 ·rintro C q r ⟨rfl,F,G,H,e,d,rfl,az,M,aw,P,u,w⟩;simp only[BA,aW,bL,bs,aL,bS];refine Wp.dF ?_ ?_
  ·intro n;have n:e<d:=by
    have:(e:Int)<(d:Int):=by simpa using n
    omega
   obtain⟨al,am,an,ao⟩:=@qG e d (by omega) (by omega);obtain⟨y,B⟩:∃y,i[(e+d) / 2]?=some y:=⟨_,dG (by omega)⟩
   obtain⟨v,ab,A⟩:=X ((e+d) / 2) y (by omega) (by omega) B;have ad:=@oS o N ((e+d) / 2) (by omega);have ae:=@oS o N a T;have aj:=mY z B;have ak:=mY z ac;have ap:IntKind.wrap .i64 ((((e+d) / 2:Nat):Int)+1)=(((e+d) / 2+1:Nat):Int):=by rw[bJ (by omega) (by omega)];omega
   simp only[cO,al,nF,am,ke,show ¬(1:Int)<0 by omega,aJ,an,oI,ao,ad,ae,aj,ak,ab,bs,bS,aL];by_cases p:v<0
   ·have:=A.1 p;simp only[p,cM,aK,aN,ap,bs,ga,aW,bL];exact .some (.inl ⟨rfl,d - ((e+d) / 2+1),by omega,rfl,_,_,_,_,_,rfl,rfl,by omega,by omega,by omega,.inr (by simpa using this),w⟩)
   ·have:=λL=>p (A.2 L)
    simp only[p,bT,aK,aU,aJ,bs,ga,aW,bL];exact .some (.inl ⟨rfl,(e+d) / 2 - e,by omega,rfl,_,_,_,_,_,rfl,rfl,by omega,by omega,by omega,u,.inr this⟩)
  ·intro n;have n:¬e<d:=by
    have:¬(e:Int)<(d:Int):=by simpa using n
    omega
   obtain rfl:d=e:=by omega
   exact .some (.inr ⟨by simp,rfl,rfl,_,_,_,d,rfl,M,P,u,w⟩)
 ·rintro⟨av,q,r⟩ ⟨rfl,E,j,k,l,c,rfl,af,ag,ah,ai⟩;simp only at E;subst E;exact K c j k l af ag ah ai
theorem a6E{g:J}{o N:Nat}{i:List TE}(ax:N≤1000000000)(a0:i.length=N)(z:g[o]?=some (.row aC 10 (i.map cJ)))(cmp:D)(m a b:Nat)(h:Nat→Prop)(X:m<N)(aa:a≤b)(ay:b≤N)(x:TE)(ac:i[m]?=some x)
  (T:∀t y,a≤t→t<b→i[t]?=some y→∃v,hj R cmp [.agg (cJ x),.agg (cJ y)] g=some (.int .i64 v,g)∧(¬v<0↔h t)) (aq ar au:D) {I:Type} {f:bK→Option I} {Q:I→Prop}
  (K:∀(c:Nat) j k l,a≤c→c≤b→(c=a∨h (c - 1))→(c=b∨¬h c)→Wp (f (.ext 4,[.int .i64 (c:Int),.int .i64 (c:Int),j,k,l],g)) Q):Wp ((cA (Bx (.aZ 10 o 0 N) (.int .i64 (m:Int)) cmp) [.int .i64 (a:Int),.int .i64 (b:Int),aq,ar,au] g).bind f) Q:=by
 refine Wp.loop (λC q r=>r=g∧∃F G H,∃e d:Nat,q=[.int .i64 (e:Int),.int .i64 (d:Int),F,G,H]∧C=d - e∧a≤e∧e≤d∧d≤b∧(e=a∨h (e - 1))∧(d=b∨¬h d))
  (λs=>s.1 = .ext 4∧s.2.2=g∧∃j k l,∃c:Nat,s.2.1=[.int .i64 (c:Int),.int .i64 (c:Int),j,k,l]∧a≤c∧c≤b∧(c=a∨h (c - 1))∧(c=b∨¬h c)) (b - a) ⟨rfl,_,_,_,a,b,rfl,rfl,bB _,aa,bB _,.inl rfl,.inl rfl⟩ ?_ ?_
 ·rintro C q r ⟨rfl,F,G,H,e,d,rfl,az,M,aw,P,u,w⟩;simp only[Bx,aW,bL,bs,aL,bS];refine Wp.dF ?_ ?_
  ·intro n;have n:e<d:=by
    have:(e:Int)<(d:Int):=by simpa using n
    omega
   obtain⟨al,am,an,ao⟩:=@qG e d (by omega) (by omega);obtain⟨y,B⟩:∃y,i[(e+d) / 2]?=some y:=⟨_,dG (by omega)⟩
   obtain⟨v,ab,A⟩:=T ((e+d) / 2) y (by omega) (by omega) B;have ad:=@oS o N ((e+d) / 2) (by omega);have ae:=@oS o N m X;have aj:=mY z B;have ak:=mY z ac;have ap:IntKind.wrap .i64 ((((e+d) / 2:Nat):Int)+1)=(((e+d) / 2+1:Nat):Int):=by rw[bJ (by omega) (by omega)];omega
   simp only[cO,al,nF,am,ke,show ¬(1:Int)<0 by omega,aJ,an,oI,ao,ad,ae,aj,ak,ab,bs,bS,gB,aL];by_cases p:v<0
   ·have:=λL=>(A.2 L) p
    simp only[p,cM,fy,aK,aU,aJ,bs,ga,aW,bL];exact .some (.inl ⟨rfl,(e+d) / 2 - e,by omega,rfl,_,_,_,_,_,rfl,rfl,by omega,by omega,by omega,u,.inr this⟩)
   ·have:=A.1 p;simp only[p,bT,gb,aK,aN,ap,bs,ga,aW,bL];exact .some (.inl ⟨rfl,d - ((e+d) / 2+1),by omega,rfl,_,_,_,_,_,rfl,rfl,by omega,by omega,by omega,.inr (by simpa using this),w⟩)
  ·intro n;have n:¬e<d:=by
    have:¬(e:Int)<(d:Int):=by simpa using n
    omega
   obtain rfl:d=e:=by omega
   exact .some (.inr ⟨by simp,rfl,rfl,_,_,_,d,rfl,M,P,u,w⟩)
 ·rintro⟨av,q,r⟩ ⟨rfl,E,j,k,l,c,rfl,af,ag,ah,ai⟩;simp only at E;subst E;exact K c j k l af ag ah ai
theorem a6C{g:J}{o N:Nat}{i:List TE}(ax:N≤1000000000)(a1:i.length=N)(x:g[o]?=some (.row aC 10 (i.map cJ)))(cmp:D)(p a b:Nat)(h:Nat→Prop)(aa:a≤b)(az:b≤p+1)(ay:b≤N)(a2:p<a+N)
  (X:∀t y z,a≤t→t<b→i[t]?=some y→i[p - t]?=some z→∃v,hj R cmp [.agg (cJ z),.agg (cJ y)] g=some (.int .i64 v,g)∧(¬v<0↔h t)) (aq ar au:D) {K:Type} {f:bK→Option K} {Q:K→Prop}
  (L:∀(c:Nat) j k l,a≤c→c≤b→(c=a∨h (c - 1))→(c=b∨¬h c)→Wp (f (.ext 8,[.int .i64 (c:Int),.int .i64 (c:Int),j,k,l],g)) Q):Wp ((cA (wY (.aZ 10 o 0 N) cmp (.int .i64 (p:Int))) [.int .i64 (a:Int),.int .i64 (b:Int),aq,ar,au] g).bind f) Q:=by
 refine Wp.loop (λE q r=>r=g∧∃G H I,∃e d:Nat,q=[.int .i64 (e:Int),.int .i64 (d:Int),G,H,I]∧E=d - e∧a≤e∧e≤d∧d≤b∧(e=a∨h (e - 1))∧(d=b∨¬h d))
  (λs=>s.1 = .ext 8∧s.2.2=g∧∃j k l,∃c:Nat,s.2.1=[.int .i64 (c:Int),.int .i64 (c:Int),j,k,l]∧a≤c∧c≤b∧(c=a∨h (c - 1))∧(c=b∨¬h c)) (b - a) ⟨rfl,_,_,_,a,b,rfl,rfl,bB _,aa,bB _,.inl rfl,.inl rfl⟩ ?_ ?_
 ·rintro E q r ⟨rfl,G,H,I,e,d,rfl,a0,P,aw,T,u,w⟩;simp only[wY,aW,bL,bs,aL,bS];refine Wp.dF ?_ ?_
  ·intro m;have m:e<d:=by
    have:(e:Int)<(d:Int):=by simpa using m
    omega
   obtain⟨ak,al,am,an⟩:=@qG e d (by omega) (by omega);obtain⟨y,B⟩:∃y,i[(e+d) / 2]?=some y:=⟨_,dG (by omega)⟩
   obtain⟨z,C⟩:∃z,i[p - (e+d) / 2]?=some z:=⟨_,dG (by omega)⟩
   obtain⟨v,ab,A⟩:=X ((e+d) / 2) y z (by omega) (by omega) B C;have ac:=@oS o N ((e+d) / 2) (by omega);have ad:=@oS o N (p - (e+d) / 2) (by omega);have ai:=mY x B;have aj:=mY x C;have ap:IntKind.wrap .i64 ((p:Int) - (((e+d) / 2:Nat):Int))=((p - (e+d) / 2:Nat):Int):=by rw[bJ (by omega) (by omega)];omega
   have ao:IntKind.wrap .i64 ((((e+d) / 2:Nat):Int)+1)=(((e+d) / 2+1:Nat):Int):=by rw[bJ (by omega) (by omega)];omega
   simp only[cO,ak,nF,al,ke,show ¬(1:Int)<0 by omega,aJ,am,oI,an,eB,ap,ac,ad,ai,aj,ab,bs,bS,gB,aL];by_cases n:v<0
   ·have:=λM=>(A.2 M) n
    simp only[n,cM,fy,aK,aU,aJ,bs,ga,aW,bL];exact .some (.inl ⟨rfl,(e+d) / 2 - e,by omega,rfl,_,_,_,_,_,rfl,rfl,by omega,by omega,by omega,u,.inr this⟩)
   ·have:=A.1 n;simp only[n,bT,gb,aK,aN,ao,bs,ga,aW,bL];exact .some (.inl ⟨rfl,d - ((e+d) / 2+1),by omega,rfl,_,_,_,_,_,rfl,rfl,by omega,by omega,by omega,.inr (by simpa using this),w⟩)
  ·intro m;have m:¬e<d:=by
    have:¬(e:Int)<(d:Int):=by simpa using m
    omega
   obtain rfl:d=e:=by omega
   exact .some (.inr ⟨by simp,rfl,rfl,_,_,_,d,rfl,P,T,u,w⟩)
 ·rintro⟨av,q,r⟩ ⟨rfl,F,j,k,l,c,rfl,ae,af,ag,ah⟩;simp only at F;subst F;exact L c j k l ae af ag ah
theorem a6x{g:J}{o N:Nat}{P B Q:List TE}{x:TE}(t:N≤1000000000)(p:(P++x::B++Q).length=N)(u:g[o]?=some (.row aC 10 ((P++x::B++Q).map cJ)))(cmp:D)(c:TE→TE→Int)(K:o6 cmp c)(a m b:Int)(H:a=(P.length:Nat))(X:m=(P.length+1:Nat))(I:b=(P.length+1+B.length:Nat)){z:Type}{f:D × J→Option z}{R1:z→Prop}
  (C:∀g' h i,B=h++i→(h=[]∨∃y r,h=r++[y]∧c y x<0)→(i=[]∨∃y r,i=y::r∧¬c y x<0)→g'[o]?=some (.row aC 10 ((P++(h++x::i)++Q).map cJ))→bM o g g'→Wp (f (aF [],g')) R1):Wp ((R qz [.aZ 10 o 0 N,.int .i64 a,.int .i64 m,.int .i64 b,cmp] g).bind f) R1:=by
 subst H X I;have T:=p;simp only[bF,g7]at T;have ae:IntKind.wrap .i64 (((P.length+1:Nat):Int) - (P.length:Int))=1:=by rw[bJ (by omega) (by omega)];omega
 have F:(P++x::B++Q)[P.length]?=some x:=by
  rw[show P++x::B++Q=P++x::(B++Q) by simp];exact hW _ _ x _ rfl
 have s:∀d,(P++x::B++Q)[P.length+1+d]?=(B++Q)[d]?:=λd=>by
  rw[show P++x::B++Q=(P++[x])++(B++Q) by simp,gO (by simp)];simp[-a7N]
 rw[CT];simp only[wX,bs,aL,eB,ae,e8,cM,aK,aN];refine a6I t p u cmp P.length (P.length+1) (P.length+1+B.length) (λd=>∃y,(P++x::B++Q)[d]?=some y∧c y x<0) (by omega) (by omega) (by omega) x F (λd y _ _ e=>⟨c y x,K y x g,λn=>⟨y,e,n⟩,λ⟨ao,j,G⟩=>by rw[e]at j;injection j with j;rw[j];exact G⟩) _ _ _ λv af ag ah am an w l=>?_
 obtain⟨d,rfl⟩:∃d,v=P.length+1+d:=⟨v - (P.length+1),by omega⟩
 have al:d≤B.length:=by omega
 simp only[dA,cN,bs,aW,bL,aL];have q:P++x::B++Q=P++x::B.take d++(B.drop d++Q):=by
  simp only[gF,ss];rw[← gF (B.take d),h6]
 have ab:(B.take d).length=d:=by simp;omega
 refine a6K (P:=P) (A:=B.take d) (Q:=B.drop d++Q) (x:=x) t (by rw[← q];exact p) (by rw[← q];exact u) _ (by rw[ab];show D.int _ _=_;congr 1;omega) _ rfl _ λE ai aj ac ad=>?_
 simp only[dA,cN,bs];refine C E (B.take d) (B.drop d) (h6 _ _).symm ?_ ?_ (by rw[ac];simp[-a7N]) ad
 ·rcases ot d with rfl|ak
  ·exact .inl (by simp)
  ·right;rcases w with w|⟨y,e,k⟩
   ·omega
   ·rw[show P.length+1+d - 1=P.length+1+(d - 1) by omega,s,fg (by omega)]at e;refine⟨y,B.take (d - 1),?_,k⟩
    conv=>lhs;rw[show d=(d - 1)+1 by omega,g9,e]
    simp[-a7N]
 ·rcases gG d B.length with k|L
  ·right;obtain⟨y,e⟩:=hq k;rcases l with l|l
   ·omega
   ·refine⟨y,B.drop (d+1),?_,λn=>l ⟨y,by rw[s,fg k];exact e,n⟩⟩;obtain⟨aa,M⟩:=bR.1 e;rw[hS aa,M]
  ·exact .inl (mG L)
theorem a6y{g:J}{o N:Nat}{P A Q:List TE}{x:TE}(t:N≤1000000000)(p:(P++A++x::Q).length=N)(am:A.length≠1)(u:g[o]?=some (.row aC 10 ((P++A++x::Q).map cJ)))(cmp:D)(c:TE→TE→Int)(K:o6 cmp c)(a m b:Int)(H:a=(P.length:Nat))(ab:m=(P.length+A.length:Nat))(I:b=(P.length+A.length+1:Nat)){B:Type}{f:D × J→Option B}{R1:B→Prop}
  (C:∀g' h i,A=h++i→(h=[]∨∃y r,h=r++[y]∧¬c x y<0)→(i=[]∨∃y r,i=y::r∧c x y<0)→g'[o]?=some (.row aC 10 ((P++(h++x::i)++Q).map cJ))→bM o g g'→Wp (f (aF [],g')) R1):Wp ((R qz [.aZ 10 o 0 N,.int .i64 a,.int .i64 m,.int .i64 b,cmp] g).bind f) R1:=by
 subst H ab I;have aa:=p;simp only[bF,g7]at aa;have af:IntKind.wrap .i64 (((P.length+A.length:Nat):Int) - (P.length:Int))=A.length:=by rw[bJ (by omega) (by omega)];omega
 have ag:IntKind.wrap .i64 (((P.length+A.length+1:Nat):Int) - ((P.length+A.length:Nat):Int))=1:=by rw[bJ (by omega) (by omega)];omega
 have L:decide ((A.length:Int)=1)=false:=g2 (by omega);have F:(P++A++x::Q)[P.length+A.length]?=some x:=hW _ _ x _ (by simp);have s:∀d,d<A.length→(P++A++x::Q)[P.length+d]?=A[d]?:=λd ao=>by
  rw[gF,gO (by simp),fg (by omega)];simp[-a7N]
 rw[CT];simp only[wX,uv,bs,aL,eB,af,ag,e8,L,cM,aK,aU,aJ,aN];refine a6E t p u cmp (P.length+A.length) P.length (P.length+A.length) (λd=>∃y,(P++A++x::Q)[d]?=some y∧¬c x y<0) (by omega) (by omega) (by omega) x F (λd y _ _ e=>⟨c x y,K x y g,λn=>⟨y,e,n⟩,λ⟨au,j,G⟩=>by rw[e]at j;injection j with j;rw[j];exact G⟩) _ _ _ λw ah ai aj aq ar z l=>?_
 obtain⟨d,rfl⟩:∃d,w=P.length+d:=⟨w - P.length,by omega⟩
 have ap:d≤A.length:=by omega
 simp only[dA,cN,bs,aW,bL,aL];have v:(A.take d).length=d:=by simp;omega
 have q:P++A++x::Q=(P++A.take d)++A.drop d++x::Q:=by
  rw[gF P (A.take d),h6]
 have M:(A.drop d).length=A.length - d:=gK;refine a6G (P:=P++A.take d) (A:=A.drop d) (Q:=Q) (x:=x) t (by rw[← q];exact p) (by rw[← q];exact u) _ (by rw[bF,v];rfl) _ (by rw[bF,v,M];congr 1;omega) _ λE ak al ad ae=>?_
 simp only[dA,cN,bs];refine C E (A.take d) (A.drop d) (h6 _ _).symm ?_ ?_ (by rw[ad];simp[-a7N]) ae
 ·rcases ot d with rfl|an
  ·exact .inl (by simp)
  ·right;rcases z with z|⟨y,e,k⟩
   ·omega
   ·rw[show P.length+d - 1=P.length+(d - 1) by omega,s _ (by omega)]at e;refine⟨y,A.take (d - 1),?_,k⟩
    conv=>lhs;rw[show d=(d - 1)+1 by omega,g9,e]
    simp[-a7N]
 ·rcases gG d A.length with k|T
  ·right;obtain⟨y,e⟩:=hq k;rcases l with l|l
   ·omega
   ·refine⟨y,A.drop (d+1),?_,n4 λn=>l ⟨y,by rw[s _ k];exact e,n⟩⟩;obtain⟨ac,X⟩:=bR.1 e;rw[hS ac,X]
  ·exact .inl (mG T)
def LH(c:TE→TE→Int)(S dQ:TE→TE→Prop)(cmp:D)(o N n:Nat):Prop:=
 ∀(g:J) (d a b f:List TE) (h j i:Int),a.length+b.length≤n→(d++a++b++f).length=N→0<a.length→0<b.length→a.Pairwise S→b.Pairwise S→(∀l∈a,∀m∈b,dQ l m) →
  g[o]?=some (.row aC 10 ((d++a++b++f).map cJ))→h=(d.length:Nat)→j=(d.length+a.length:Nat)→i=(d.length+a.length+b.length:Nat) →
  Wp (R qz [.aZ 10 o 0 N,.int .i64 h,.int .i64 j,.int .i64 i,cmp] g) λk=>∃e:List TE,e.Perm (a++b)∧e.Pairwise S∧k.2[o]?=some (.row aC 10 ((d++e++f).map cJ))∧bM o g k.2
theorem S4{g:J}{o N:Nat}{P A B Q:List TE}(ad:N≤1000000000)(aa:(P++A++B++Q).length=N)(ap:0<A.length)(aq:0<B.length)(aj:g[o]?=some (.row aC 10 ((P++A++B++Q).map cJ)))(cmp:D)(c:TE→TE→Int)(ae:o6 cmp c)
  (a v u:Nat) (av:a=(P.length+(P.length+A.length+B.length)) / 2) (al:(P.length+A.length>a∧v+B.length=a∧u=a)∨(P.length+A.length≤a∧v=P.length∧u=P.length+A.length))
  (p:Int) (ak:p=(a+(P.length+A.length) - 1:Nat)) (am an ao:D) {ab:Type} {f:bK→Option ab} {R1:ab→Prop}
  (ac:∀(k:Nat) C E F j w l z,A=j++w→B=l++z→k=P.length+j.length→a=P.length+j.length+l.length →
   (j=[]∨z=[]∨∃x y r s,j=r++[x]∧z=y::s∧¬c y x<0)→(w=[]∨l=[]∨∃x y r s,l=r++[y]∧w=x::s∧c y x<0) →
   Wp (f (.ext 8,[.int .i64 (k:Int),.int .i64 (k:Int),C,E,F],g)) R1):Wp ((cA (wY (.aZ 10 o 0 N) cmp (.int .i64 p)) [.int .i64 (v:Int),.int .i64 (u:Int),am,an,ao] g).bind f) R1:=by
 subst ak;have ah:=aa;simp only[bF]at ah;have T:∀t,P.length≤t→t<P.length+A.length→(P++A++B++Q)[t]?=A[t - P.length]?:=λt H d=>by
  rw[gF (P++A)];exact yT P A _ t H d
 have X:∀t,P.length+A.length≤t→t<P.length+A.length+B.length→(P++A++B++Q)[t]?=B[t - (P.length+A.length)]?:=λt H d=>by
  have:=yT (P++A) B Q t (by simpa using H) (by simpa using d);simpa using this
 obtain⟨R,m⟩:∃R:Nat→Prop,∀t,R t↔∃y b,(P++A++B++Q)[t]?=some y∧(P++A++B++Q)[a+(P.length+A.length) - 1 - t]?=some b∧¬c b y<0:=⟨_,λt=>Iff.rfl⟩
 refine a6C ad aa aj cmp (a+(P.length+A.length) - 1) v u R (by omega) (by omega) (by omega) (by omega)
  (λt y b _ _ e h=>⟨c b y,ae b y g,λG=>(m t).2 ⟨y,b,e,h,G⟩,λaf=>by
   obtain⟨a0,a1,d,i,I⟩:=(m t).1 af;rw[e]at d;rw[h]at i;injection d with d;injection i with i;rw[d,i];exact I⟩) _ _ _ λk C E F aw ax n q=>?_
 have ar:k - P.length≤A.length:=by omega
 have au:a - k≤B.length:=by omega
 have ay:(A.take (k - P.length)).length=k - P.length:=by simp;omega
 have az:(B.take (a - k)).length=a - k:=by simp;omega
 refine ac k C E F (A.take (k - P.length)) (A.drop (k - P.length)) (B.take (a - k)) (B.drop (a - k)) (h6 _ _).symm (h6 _ _).symm (by omega) (by omega) ?_ ?_
 ·rcases n with n|n
  ·rcases al with⟨d,i,I⟩|⟨d,i,I⟩
   ·right;left;exact mG (by omega)
   ·left;apply hM;omega
  ·by_cases ag:k=P.length
   ·left;apply hM;omega
   ·right;by_cases K:B.length≤a - k
    ·left;exact mG K
    ·right;obtain⟨y,b,e,h,ai⟩:=(m _).1 n;rw[T _ (by omega) (by omega)]at e;rw[X _ (by omega) (by omega)]at h;obtain⟨r,L⟩:=zc (A:=A) (t:=k - P.length) (y:=y) (by omega) (by rw[← e];congr 1;omega);obtain⟨s,M⟩:=xY (A:=B) (t:=a - k) (y:=b) (by rw[← h];congr 1;omega);exact⟨y,b,r,s,L,M,ai⟩
 ·by_cases ag:k=P.length+A.length
  ·left;exact mG (by omega)
  ·right;by_cases K:a - k=0
   ·left;rw[K];rfl
   ·right;rcases q with q|q
    ·omega
    ·obtain⟨y,e⟩:∃y,A[k - P.length]?=some y:=⟨_,dG (by omega)⟩
     obtain⟨b,h⟩:∃b,B[a - k - 1]?=some b:=⟨_,dG (by omega)⟩
     obtain⟨r,L⟩:=zc (A:=B) (t:=a - k) (y:=b) (by omega) h;obtain⟨s,M⟩:=xY (A:=A) (t:=k - P.length) (y:=y) e;refine⟨y,b,r,s,L,M,n4 λG=>q ((m _).2 ⟨y,b,?_,?_,G⟩)⟩
     ·rw[T _ (by omega) (by omega)];exact e
     ·rw[X _ (by omega) (by omega),← h];congr 1;omega
theorem a6z{c:TE→TE→Int}{S dQ:TE→TE→Prop}(ba:me c S dQ){cmp:D}(a7:o6 cmp c){o N n:Nat}(al:N≤1000000000)(au:LH c S dQ cmp o N n)
  {g:J} {P A B Q:List TE} {a m b:Int} (bt:A.length+B.length≤n+1) (ao:(P++A++B++Q).length=N) (a4:0<A.length) (a5:0<B.length) (w:A.Pairwise S) (z:B.Pairwise S) (ab:∀x∈A,∀y∈B,dQ x y)
  (R:g[o]?=some (.row aC 10 ((P++A++B++Q).map cJ))) (a6:a=(P.length:Nat)) (ap:m=(P.length+A.length:Nat)) (am:b=(P.length+A.length+B.length:Nat)) :
  Wp (uw (.aZ 10 o 0 N) (.int .i64 a) (.int .i64 m) (.int .i64 b) cmp g) λp=>∃C:List TE,C.Perm (A++B)∧C.Pairwise S∧p.2[o]?=some (.row aC 10 ((P++C++Q).map cJ))∧bM o g p.2:=by
 have a8:=ao;simp only[bF]at a8;obtain⟨d,aq⟩:∃d:Nat,d=(P.length+(P.length+A.length+B.length)) / 2:=⟨_,rfl⟩
 obtain⟨e,ar⟩:∃e:Nat,e=P.length+A.length:=⟨_,rfl⟩
 obtain⟨t,an⟩:∃t:Nat,t=P.length+A.length+B.length:=⟨_,rfl⟩
 rw[← ar]at ap;rw[← an]at am;subst a6 ap am;obtain⟨bg,bh,aw,ax⟩:=@qG P.length t (by omega) (by omega);rw[← show d=(P.length+t) / 2 by rw[aq,an]]at aw ax;have bk:IntKind.wrap .i64 ((d:Int)+(e:Int))=((d+e:Nat):Int):=by rw[bJ (by omega) (by omega)];omega
 have bl:IntKind.wrap .i64 (((d+e:Nat):Int) - 1)=((d+(P.length+A.length) - 1:Nat):Int):=by rw[bJ (by omega) (by omega)];omega
 simp only[uw,bs,aL,cO,bg,nF,bh,ke,show ¬(1:Int)<0 by omega,aJ,aw,oI,ax,bk,dE];refine Wp.join (P:=λh=>h.1 = .aQ∧h.2.2=g∧∃L K:Nat,h.2.1=[.int .i64 (L:Int),.int .i64 (K:Int)]∧((P.length+A.length>d∧L+B.length=d∧K=d)∨(P.length+A.length≤d∧L=P.length∧K=P.length+A.length))) ?_ ?_ ?_
 ·intro H;have H:d<e:=by
   have:(e:Int)>(d:Int):=by simpa using H
   omega
  have bm:IntKind.wrap .i64 (((d+e:Nat):Int) - (t:Int))=((d - B.length:Nat):Int):=by rw[bJ (by omega) (by omega)];omega
  simp only[eB,bm,bs];exact .some ⟨rfl,rfl,d - B.length,d,rfl,.inl ⟨by omega,by omega,rfl⟩⟩
 ·intro H;have H:¬d<e:=by
   have:¬(e:Int)>(d:Int):=by simpa using H
   omega
  exact .some ⟨rfl,rfl,P.length,e,rfl,.inr ⟨by omega,rfl,ar⟩⟩
 rintro⟨X,T,aa⟩ ⟨rfl,v,L,K,rfl,a9⟩;simp only at v;subst v;simp only[cN,eB,bl,bs,aW,bL,aL];refine S4 al ao a4 a5 R cmp c a7 d L K aq a9 _ rfl _ _ _ λu bo bp bq r j f q az a0 br em a2 a3=>?_
 subst az a0;simp only[bF]at *;have bn:IntKind.wrap .i64 (((d+e:Nat):Int) - (u:Int))=((e+f.length:Nat):Int):=by rw[bJ (by omega) (by omega)];omega
 simp only[dA,cN,bs,aW,bL,aL,eB,bn,bS,sG];rw[jd]at w z;refine Wp.bind (P:=λh=>h.1 = .aQ∧h.2.2[o]?=some (.row aC 10 ((P++r++f++j++q++Q).map cJ))∧bM o aa h.2.2) ?_ ?_
 ·by_cases F:0<j.length
  ·have i:decide ((u:Int)<(e:Int))=true:=fX (by omega);by_cases G:0<f.length
   ·have k:decide ((e:Int)<((e+f.length:Nat):Int))=true:=fX (by omega);simp only[i,k,q0,aK,aN];refine a6A (P:=P++r) (U:=j) (V:=f) (Q:=q++Q) al (by simp only[bF];omega) F G (by rw[R];simp[-a7N]) cmp _ _ _ (by simp only[bF];omega) (by simp only[bF];omega) (by simp only[bF];omega) λaj I M=>?_
    exact .some ⟨rfl,by simp only[I];simp[-a7N],M⟩
   ·have l:f=[]:=hM (by omega);subst l;have k:decide ((e:Int)<((e+([]:List TE).length:Nat):Int))=false:=g2 (by simp);simp only[i,k,qZ,aK,aU,aJ];exact .some ⟨rfl,by simp only[R];simp[-a7N],.refl _ _⟩
  ·have l:j=[]:=hM (by omega);subst l;have i:decide ((u:Int)<(e:Int))=false:=g2 (by simp only[e6]at *;omega);simp only[i,l7,aK,aU,aJ];exact .some ⟨rfl,by simp only[R];simp[-a7N],.refl _ _⟩
 rintro⟨X,T,aj⟩ ⟨rfl,I,M⟩;simp only[cN,bs,aL,bS,sG];refine Wp.bind (P:=λh=>h.1 = .aQ∧∃s:List TE,s.Perm (r++f)∧s.Pairwise S∧h.2.2[o]?=some (.row aC 10 ((P++s++(j++q++Q)).map cJ))∧bM o aa h.2.2) ?_ ?_
 ·by_cases F:0<r.length
  ·have i:decide (((P.length:Nat):Int)<(u:Int))=true:=fX (by omega);by_cases G:0<f.length
   ·have k:decide ((u:Int)<(d:Int))=true:=fX (by omega);simp only[i,k,q0,aK,aN];refine Wp.bind (au aj P r f (j++q++Q) _ _ _ (by omega) (by simp only[bF];omega) F G w.1 z.1 (λx ac y ad=>ab x (by simp[-a7N,ac]) y (by simp[-a7N,ad])) (by rw[I];simp[-a7N]) rfl (by omega) (by omega)) ?_;rintro⟨ay,ak⟩ ⟨C,af,v,ag,ah⟩;exact .some ⟨rfl,C,af,v,ag,M.trans ah⟩
   ·have l:f=[]:=hM (by omega);subst l;have k:decide ((u:Int)<(d:Int))=false:=g2 (by simp only[e6]at *;omega);simp only[i,k,qZ,aK,aU,aJ];exact .some ⟨rfl,r,by simp,w.1,by simp only[I];simp[-a7N],M⟩
  ·have l:r=[]:=hM (by omega);subst l;have i:decide (((P.length:Nat):Int)<(u:Int))=false:=g2 (by simp only[e6]at *;omega);simp only[i,l7,aK,aU,aJ];exact .some ⟨rfl,f,by simp,z.1,by simp only[I];simp[-a7N],M⟩
 rintro⟨X,T,ak⟩ ⟨rfl,s,av,bc,ae,ai⟩;have bu:s.length=r.length+f.length:=by rw[av.length_eq];simp[-a7N]
 simp only[cN,bs,aL,bS,sG];refine Wp.bind (P:=λh=>h.1 = .aQ∧∃E:List TE,E.Perm (j++q)∧E.Pairwise S∧h.2.2[o]?=some (.row aC 10 ((P++(s++E)++Q).map cJ))∧bM o aa h.2.2) ?_ ?_
 ·by_cases F:0<j.length
  ·have i:decide ((d:Int)<((e+f.length:Nat):Int))=true:=fX (by omega);by_cases G:0<q.length
   ·have k:decide (((e+f.length:Nat):Int)<(t:Int))=true:=fX (by omega);simp only[i,k,q0,aK,aN];refine Wp.bind (au ak (P++s) j q Q _ _ _ (by omega) (by simp only[bF];omega) F G w.2.1 z.2.1 (λx ac y ad=>ab x (by simp[-a7N,ac]) y (by simp[-a7N,ad])) (by rw[ae];simp[-a7N]) (by simp only[bF];omega) (by simp only[bF];omega) (by simp only[bF];omega)) ?_;rintro⟨ay,a1⟩ ⟨C,af,v,ag,ah⟩;exact .some ⟨rfl,C,af,v,by rw[ag];simp[-a7N],ai.trans ah⟩
   ·have l:q=[]:=hM (by omega);subst l;have k:decide (((e+f.length:Nat):Int)<(t:Int))=false:=g2 (by simp only[e6]at *;omega);simp only[i,k,qZ,aK,aU,aJ];exact .some ⟨rfl,j,by simp,w.2.1,by simp only[ae];simp[-a7N],ai⟩
  ·have l:j=[]:=hM (by omega);subst l;have i:decide ((d:Int)<((e+f.length:Nat):Int))=false:=g2 (by simp only[e6]at *;omega);simp only[i,l7,aK,aU,aJ];exact .some ⟨rfl,q,by simp,z.2.1,by simp only[ae];simp[-a7N],ai⟩
 rintro⟨X,T,a1⟩ ⟨rfl,E,bd,be,bb,bf⟩;simp only[lz,bs];obtain⟨bi,bj⟩:=On ba (jd.2 w) (jd.2 z) ab a2 a3 av bc bd be;exact .some ⟨s++E,bi,bj,bb,bf⟩
theorem Iq {c:TE→TE→Int} {S dQ:TE→TE→Prop} (i:me c S dQ) {cmp:D} (w:o6 cmp c) {o N:Nat} (t:N≤1000000000):∀n,LH c S dQ cmp o N n
 |0=>λg P A B Q a m b X _ s=>by omega
 | n + 1 => λg P A B Q a m b X y aj ak ad j z F u l v=>by
  have an:=Iq i w (o:=o) t n;have al:=y;simp only[bF]at al;by_cases T:A.length=1
  ·obtain ⟨x,rfl⟩:=BS.1 T;have := a6x (g:=g) (o:=o) (N:=N) (P:=P) (B:=B) (Q:=Q) (x:=x) t (by simpa using y) (by simpa using F) cmp c w a m b u (by rw[l];rfl) (by rw[v];rfl) (f:=some) (R1:=λq=>∃h:List TE,h.Perm ([x]++B)∧h.Pairwise S∧q.2[o]?=some (.row aC 10 ((P++h++Q).map cJ))∧bM o g q.2)
    (λai R ae k s E H K =>.some ⟨R++x::ae,by rw[k];exact BX,by
     subst k;rw[jd]at j ⊢;refine⟨j.1,im.2 ⟨?_,j.2.1⟩,?_⟩
     ·rcases E with rfl|⟨e,I,rfl,p⟩
      ·intro r d;cases d
      ·have ab:=i.ge x e (z x (by simp) e (by simp)) p;intro r d;rcases fc.1 d with rfl|d
       ·exact ab
       ·exact i.tr _ _ _ ab ((im.1 j.2.1).1 r d)
     ·have am:∀C∈R,S C x:=by
        rcases s with rfl|⟨e,I,rfl,p⟩
        ·intro r d;cases d
        ·have ac:=i.lt x e (z x (by simp) e (by simp)) p;intro r d;rcases fp.1 d with d|d
         ·exact i.tr _ _ _ ((jd.1 j.1).2.2 r d e (by simp)) ac
         ·simp at d;subst d;exact ac
      intro C aa ao G;rcases fc.1 G with rfl|G
      ·exact am C aa
      ·exact j.2.2 C aa ao G,by rw[H],K⟩)
   rwa [show ∀x:Option (D × J),x.bind some=x from λx=>by cases x<;>rfl]at this
  ·by_cases af:B.length=1
   ·obtain⟨x,rfl⟩:=BS.1 af;have:=a6y (g:=g) (o:=o) (N:=N) (P:=P) (A:=A) (Q:=Q) (x:=x) t (by simpa using y) T (by simpa using F) cmp c w a m b u (by rw[l]) (by rw[v];rfl) (f:=some) (R1:=λq=>∃h:List TE,h.Perm (A++[x])∧h.Pairwise S∧q.2[o]?=some (.row aC 10 ((P++h++Q).map cJ))∧bM o g q.2)
     (λai L M k s E H K =>.some ⟨L++x::M,by rw[k];exact List.perm_middle.trans (by simpa using(BW (l₁:=[x]) (l₂:=L++M))),Hi i (by rw[← k];exact ad) (λe p=>z e (by rw[k];exact p) x (by simp)) E s,by rw[H],K⟩)
    rwa [show ∀x:Option (D × J),x.bind some=x from λx=>by cases x<;>rfl]at this
   ·have I:=a6z i w t an X y aj ak ad j z F u l v;rw[CT];have ap:IntKind.wrap .i64 (m - a)=(A.length:Int):=by rw[l,u,bJ (by omega) (by omega)];omega
    have aq:IntKind.wrap .i64 (b - m)=(B.length:Int):=by rw[l,v,bJ (by omega) (by omega)];omega
    have ag:decide ((A.length:Int)=1)=false:=g2 (by omega);have ah:decide ((B.length:Int)=1)=false:=g2 (by omega);simp only[wX,uv,bs,eB,ap,aq,e8,ag,ah,aK,aU,aJ];exact I
theorem a6w{c:TE→TE→Int}{S dQ:TE→TE→Prop}(ag:me c S dQ){cmp:D}(ad:o6 cmp c){o N:Nat}(ac:N≤1000000000){g:J}{l:List TE}(I:l.length=N)(bi:l.Pairwise dQ)
  (be:g[o]?=some (.row aC 10 (l.map cJ))):Wp (R DJ [.aZ 10 o 0 N,.int .i64 N,cmp] g) λp=>∃C:List TE,C.Perm l∧C.Pairwise S∧p.2[o]?=some (.row aC 10 (C.map cJ))∧bM o g p.2:=by
 rw[Nn];simp only[Bq,bs,aL];refine Wp.loop (λs h n=>∃m,∃X a:List TE,h=[.int .i64 (X.length:Nat),.int .i64 ((X.length+20:Nat):Int),m]∧s=a.length∧(X++a).Perm l∧a.Pairwise dQ∧jI S dQ 20 X a∧n[o]?=some (.row aC 10 ((X++a).map cJ))∧bM o g n)
  (λe=>e.1 = .ext 0∧∃m,∃X a:List TE,e.2.1=[.int .i64 (X.length:Nat),.int .i64 ((X.length+20:Nat):Int),m]∧a.length<20∧(X++a).Perm l∧a.Pairwise dQ∧jI S dQ 20 X a∧e.2.2[o]?=some (.row aC 10 ((X++a).map cJ))∧bM o g e.2.2)
  l.length ⟨_,[],l,rfl,rfl,by simp,bi,jI.nil,by simpa using be,.refl _ _⟩ ?_ ?_
 ·rintro s h n ⟨m,X,a,rfl,rfl,j,G,H,a0,sm⟩;have r:X.length+a.length=N:=by rw[← I,← j.length_eq];simp[-a7N]
  simp only[Br,aW,bL,bs,aL,iw];refine Wp.dF ?_ ?_
  ·intro i;have i:20≤a.length:=by
    have:((X.length+20:Nat):Int)≤(N:Int):=by simpa using i
    omega
   obtain⟨A,y,rfl,bd⟩:∃A y,a=A++y∧A.length=20:=⟨a.take 20,a.drop 20,(h6 _ _).symm,by simp;omega⟩
   obtain⟨bq,br,bt⟩:=PY G;simp only[bF]at r i;refine Wp.bind (OB ag ad ac (P:=X) (A:=A) (Q:=y) (by simp only[bF];omega) bq (by rw[a0];simp[-a7N]) _ _ rfl (by omega)) ?_;rintro⟨am,aq⟩ ⟨C,f,t,k,u⟩;have L:C.length=20:=by rw[f.length_eq,bd]
   have aj:IntKind.wrap .i64 (((X.length+20:Nat):Int)+20)=((X.length+20+20:Nat):Int):=by rw[bJ (by omega) (by omega)];omega
   simp only[cO,aj,bs];have ao:(X++C).length=X.length+20:=by simp[-a7N,L]
   refine .some (.inl ⟨rfl,y.length,by simp only[bF];omega,_,X++C,y,by rw[ao],rfl,?_,br,H.step f L t bt,k,sm.trans u⟩);refine List.Perm.trans ?_ j;rw[gF];exact(f.append_right y).append_left X
  ·intro i;have i:¬20≤a.length:=by
    have:¬((X.length+20:Nat):Int)≤(N:Int):=by simpa using i
    omega
   exact .some (.inr ⟨by simp,rfl,_,X,a,rfl,by omega,j,G,H,a0,sm⟩)
 rintro⟨ap,h,bv⟩ ⟨rfl,m,X,a,rfl,az,j,G,H,a1,a2⟩;have r:X.length+a.length=N:=by rw[← I,← j.length_eq];simp[-a7N]
 simp only[dA,cN,aW,bL,bs];refine Wp.bind (OB ag ad ac (P:=X) (A:=a) (Q:=[]) (by simp only[bF,e6];omega) G (by simpa using a1) _ _ rfl (by omega)) ?_;rintro⟨am,aq⟩ ⟨C,f,t,k,u⟩;have z:fB S dQ 20 (X++C):=H.done f (by rw[f.length_eq];omega) t;have au:(X++C).Perm l:=(f.append_left X).trans j;have k:aq[o]?=some (.row aC 10 ((X++C).map cJ)):=by simpa using k
 have a3:bM o g aq:=a2.trans u;generalize X++C=d at z au k;clear f t H G a1 a2 u;simp only[bs,aL];refine Wp.loop (λs h n=>∃T Y Z aa B ab,∃b:Nat,∃d:List TE,h=[.int .i64 (b:Int),T,Y,Z,aa,B,ab]∧s=N - b∧0<b∧b≤2000000000∧d.Perm l∧fB S dQ b d∧n[o]?=some (.row aC 10 (d.map cJ))∧bM o g n)
  (λe=>e.1 = .ext 2∧∃T Y Z aa B ab a4,e.2.1=[T,Y,Z,aa,B,ab,a4]∧∃d:List TE,d.Perm l∧d.Pairwise S∧e.2.2[o]?=some (.row aC 10 (d.map cJ))∧bM o g e.2.2)
  (N - 20) ⟨_,_,_,_,_,_,20,d,rfl,rfl,by omega,by omega,au,z,k,a3⟩ ?_ ?_
 ·clear k a3 z au d r j;rintro s h bc ⟨T,Y,Z,aa,B,ab,b,d,rfl,rfl,bx,bz,j,z,ae,ai⟩;have bk:d.length=N:=by rw[j.length_eq,I]
  simp only[Bs,aW,bL,bs,aL,bS];refine Wp.dF ?_ ?_
  ·intro i;have i:b<N:=by
    have:(b:Int)<(N:Int):=by simpa using i
    omega
   have aj:IntKind.wrap .i64 ((2:Int)*(b:Int))=((2*b:Nat):Int):=by rw[bJ (by omega) (by omega)];omega
   simp only[oJ,aj,bs,aL];refine Wp.loop (λs h n=>∃m,∃X a:List TE,h=[.int .i64 (X.length:Nat),.int .i64 ((X.length+2*b:Nat):Int),m]∧s=a.length∧(X++a).Perm l∧fB S dQ b a∧jI S dQ (2*b) X a∧n[o]?=some (.row aC 10 ((X++a).map cJ))∧bM o g n)
    (λe=>e.1 = .ext 4∧∃m a5,∃X a:List TE,e.2.1=[.int .i64 (X.length:Nat),m,a5]∧a.length<2*b∧(X++a).Perm l∧fB S dQ b a∧jI S dQ (2*b) X a∧e.2.2[o]?=some (.row aC 10 ((X++a).map cJ))∧bM o g e.2.2)
    N ⟨B,[],d,by simp,bk.symm,by simpa using j,z,jI.nil,by simpa using ae,ai⟩ ?_ ?_
   ·rintro s h ar ⟨m,X,a,rfl,rfl,w,F,jN,K,M⟩;have r:X.length+a.length=N:=by rw[← I,← w.length_eq];simp[-a7N]
    simp only[KP,aW,bL,bs,aL,iw];refine Wp.dF ?_ ?_
    ·intro v;have v:2*b≤a.length:=by
      have:((X.length+2*b:Nat):Int)≤(N:Int):=by simpa using v
      omega
     obtain⟨A,bu,rfl,bj,av,ah,a9⟩:=F.fst (by omega);simp only[bF]at r v;obtain⟨q,E,rfl,b0,aw,bl,ba⟩:=a9.fst (by omega);simp only[bF]at r v;have ax:IntKind.wrap .i64 ((X.length:Int)+(b:Int))=((X.length+A.length:Nat):Int):=by rw[bJ (by omega) (by omega)];omega
     simp only[cO,ax,bs,aL];refine Wp.bind (Iq ag ad ac (A.length+q.length) ar X A q E _ _ _ (bB _) (by simp only[bF];omega) (by omega) (by omega) av aw (λak x al af=>ah ak x al (by simp[-a7N,af])) (by rw[K];simp[-a7N]) rfl rfl (by omega)) ?_;rintro⟨am,ay⟩ ⟨C,f,t,k,u⟩;have L:C.length=2*b:=by rw[f.length_eq,bF];omega
     have bo:IntKind.wrap .i64 (((X.length+2*b:Nat):Int)+((2*b:Nat):Int))=((X.length+2*b+2*b:Nat):Int):=by rw[bJ (by omega) (by omega)];omega
     simp only[oJ,cO,aj,bo,bs];have ao:(X++C).length=X.length+2*b:=by simp[-a7N,L]
     refine .some (.inl ⟨rfl,E.length,by simp only[bF];omega,_,X++C,E,by rw[ao],rfl,?_,ba,jI.step (A:=A++q) (by rw[gF];exact jN) f L t (λak x al af=>?_),k,M.trans u⟩)
     ·refine List.Perm.trans ?_ w;rw[gF,← gF A q E];exact(f.append_right E).append_left X
     ·rcases fp.1 x with x|x
      ·exact ah ak x al (by simp[-a7N,af])
      ·exact bl ak x al af
    ·intro v;have v:¬2*b≤a.length:=by
      have:¬((X.length+2*b:Nat):Int)≤(N:Int):=by simpa using v
      omega
     exact .some (.inr ⟨by simp,rfl,_,_,X,a,rfl,by omega,w,F,jN,K,M⟩)
   rintro⟨ap,h,ar⟩ ⟨rfl,m,a5,X,a,rfl,az,w,F,jN,K,M⟩;have r:X.length+a.length=N:=by rw[← I,← w.length_eq];simp[-a7N]
   have ax:IntKind.wrap .i64 ((X.length:Int)+(b:Int))=((X.length+b:Nat):Int):=by rw[bJ (by omega) (by omega)];omega
   have bp:IntKind.wrap .i64 ((b:Int)*2)=((2*b:Nat):Int):=by rw[bJ (by omega) (by omega)];omega
   simp only[dA,cN,aW,bL,bs,cO,ax,bS,aL];refine Wp.bind (P:=λe=>e.1 = .aQ∧∃d:List TE,d.Perm l∧fB S dQ (2*b) d∧e.2.2[o]?=some (.row aC 10 (d.map cJ))∧bM o g e.2.2) ?_ ?_
   ·by_cases bw:X.length+b<N
    ·have an:decide (((X.length+b:Nat):Int)<(N:Int))=true:=fX (by omega);obtain⟨A,q,rfl,bj,av,ah,a8⟩:=F.fst (by omega);simp only[bF]at r az;have aw:q.Pairwise S:=a8.all (by omega);simp only[an,aK,aN];refine Wp.bind (Iq ag ad ac (A.length+q.length) ar X A q [] _ _ _ (bB _) (by simp only[bF,e6];omega) (by omega) (by omega) av aw ah (by rw[K];simp[-a7N]) rfl (by omega) (by omega)) ?_;rintro⟨am,ay⟩ ⟨C,f,t,k,u⟩;refine .some ⟨rfl,X++C,(f.append_left X).trans w,jN.done f (by rw[f.length_eq,bF];omega) t,by simpa using k,M.trans u⟩
    ·have an:decide (((X.length+b:Nat):Int)<(N:Int))=false:=g2 (by omega);simp only[an,aK,aU,aJ];exact .some ⟨rfl,X++a,w,jN.done (BK _) (by omega) (F.all (by omega)),K,M⟩
   rintro⟨ap,h,ay⟩ ⟨rfl,a6,bh,bb,bf,bm⟩;simp only[cN,bs,bp];exact .some (.inl ⟨rfl,N - 2*b,by omega,_,_,_,_,_,_,2*b,a6,rfl,rfl,by omega,by omega,bh,bb,bf,bm⟩)
  ·intro i;have i:¬b<N:=by
    have:¬(b:Int)<(N:Int):=by simpa using i
    omega
   exact .some (.inr ⟨by simp,rfl,_,_,_,_,_,_,_,rfl,d,j,z.all (by omega),ae,ai⟩)
 rintro⟨ap,h,bc⟩ ⟨rfl,T,Y,Z,aa,B,ab,a4,rfl,a7,bg,bn,ae,ai⟩;simp only[dA,lz,bs];exact .some ⟨a7,bg,bn,ae,ai⟩
theorem a6u{cmp:D}(d:o6 cmp cE){o N:Nat}(c:N≤1000000000){g:J}{l:List TE}(e:l.length=N)(h:l.Pairwise λx y=>x.2<y.2)(f:g[o]?=some (.row aC 10 (l.map cJ))):
  Wp (R yB [.aZ 10 o 0 N,cmp] g) λp=>∃C:List TE,C.Perm l∧C.Pairwise tS∧p.2[o]?=some (.row aC 10 (C.map cJ))∧bM o g p.2:=by
 obtain⟨⟨n,b⟩,a,C,i,j,k,m⟩:=a6w a5f d c e h f;refine⟨(aF [],b),?_,C,i,j,k,m⟩;rw[Nm];simp only[Bp,bs,a1p,a]
theorem Wn(i:It):76≤(gj i).length:=by
 rw[ru];unfold fW k4 jB pS;simp only[bF,fI,g6];omega
def kj(P:List (List Int))(h:List bY × List cB):Nat→List bY × List cB→List Ev→Nat→Prop
 |0,s,d,c=>s=h∧d=[]∧c=0
 |n+1,s,d,c=>∃a g f p,kj P h n a g f∧P[n]?=some p ∧
   ((∃(b:hH) (e:List Ev),lK p (b.cW.map e5)∧b.hs=e4 p∧s=(gU b a.1 a.2).2∧k5 b a.1 a.2 e∧d=g++e∧c=f+b.cW.length)∨((∀xs,¬lK p xs)∧s=a∧d=g∧c=f))
theorem RR{b a:hH}(h:b.cW.map e5=a.cW.map e5)(e:b.hs=a.hs)(c:List bY)(d:List cB):gU b c d=gU a c d:=by
 unfold gU;rw[e,xA h,xq h]
theorem Wq{b a:hH}(h:b.cW.map e5=a.cW.map e5)(j:b.hs=a.hs){d:List bY}{e:List cB}{f:List Ev}(k:k5 b d e f):k5 a d e f:=by
 have i:b.cW.length=a.cW.length:=by have:=fR List.length h;simpa using this
 unfold k5 at *;rw[j,xA h,xq h]at k;split at k
 ·rename_i c;rw[bO c];exact k
 ·rename_i c;rw[cC c];cases g:gZ d e a.cW with
  |none=>rw[g]at k;exact k
  |some l=>rw[g]at k;exact⟨xp h _ _ k.1,by rw[← i];exact k.2⟩
theorem LM{P:List (List Int)}{p:List bY × List cB}:∀{n:Nat} {s g:List bY × List cB} {d e:List Ev} {c i:Nat},kj P p n s d c→kj P p n g e i→s=g∧h5 d e
 | 0,s,g,d,e,c,i,h,k=>by
  obtain⟨v,h2,_⟩:=h;obtain⟨y,z,_⟩:=k;subst v h2 y z;exact⟨rfl,trivial⟩
 | n+1,s,g,d,e,c,i,h,k=>by
  obtain⟨L,G,D,I,q,A,h⟩:=h;obtain⟨M,H,E,K,r,f,k⟩:=k;obtain⟨rfl,l⟩:=LM q r;rw[A]at f;injection f with f;subst f;rcases h with⟨t,F,b,w,rfl,B,rfl,rfl⟩|⟨b,rfl,rfl,rfl⟩
  ·rcases k with⟨j,u,a,x,rfl,C,rfl,rfl⟩|⟨a,_⟩
   ·have o:=Tp b a;have m:t.hs=j.hs:=by rw[w,x]
    refine⟨by rw[RR o m],l.app (Wo (Wq o m B) C).1⟩
   ·exact absurd b (a _)
  ·rcases k with⟨j,u,a,_⟩|⟨a,rfl,rfl,rfl⟩
   ·exact absurd a (b _)
   ·exact⟨rfl,l⟩
structure RB (P:List (List Int)) (s0:List bY × List cB) (n:Nat) (s:List bY × List cB) (es:List Ev) (c:Nat):Prop where
 ma:gi s.1
 ta:gx s.2
 ml:s.1.length≤s0.1.length+c
 tl:s.2.length≤s0.2.length+2*c
 el:es.length≤c
 cl:76*c≤((P.take n).map List.length).sum
theorem Tn{p:List Int}{a:List It}(h:lK p (a.map e5)):76*a.length≤p.length∧a.length≤40:=by
 obtain⟨i,j,⟨k,c⟩,_⟩:=h;obtain⟨e,_,f⟩:=rm c;have b:=f a rfl;have g:=N1 gj 76 a λd _=>Wn d
 rw[gK]at b;rw[fN]at e;omega
theorem xm {P:List (List Int)} {j:List bY × List cB} (l:gi j.1) (m:gx j.2):∀{n:Nat} {s:List bY × List cB} {f:List Ev} {c:Nat},kj P j n s f c→RB P j n s f c
 | 0,s,f,c,h=>by
  obtain⟨h2,u,v⟩:=h;subst h2 u v;exact⟨l,m,by omega,by omega,by simp,by simp⟩
 | n+1,s,f,c,h=>by
  obtain⟨a,I,H,A,o,B,h⟩:=h;have b:=xm l m o;have p:=b.ml;have q:=b.tl;have r:=b.el;have G:=b.cl;have M:((P.take (n+1)).map List.length).sum=((P.take n).map List.length).sum+A.length:=by
   rw[g9,B];simp[-a7N]
  rcases h with⟨d,t,k,L,rfl,e,rfl,rfl⟩|⟨k,rfl,rfl,rfl⟩
  ·obtain⟨N,Q⟩:=Tn k;have g:gi (gU d a.1 a.2).2.1∧gx (gU d a.1 a.2).2.2∧(gU d a.1 a.2).2.1.length≤a.1.length+d.cW.length∧(gU d a.1 a.2).2.2.length≤a.2.length+2*d.cW.length:=by
    unfold gU;split
    ·exact⟨b.ma,b.ta,by simp,by simp⟩
    ·rename_i x;obtain⟨_,w⟩:=qh (j5.1 x);have g:=(Ck d.hs d.cW (λz y=>(w z y).2.1) a.1 a.2 b.ma b.ta).2;cases i:gZ a.1 a.2 d.cW with
     |none=>exact⟨b.ma,b.ta,by simp,by simp⟩
     | some s =>
      obtain⟨C,D,E,F,_⟩:=g s i;exact⟨C,D,E,F⟩
   have K:t.length≤d.cW.length:=by
    unfold k5 at e;split at e
    ·subst e;simp[-a7N]
    ·cases i:gZ a.1 a.2 d.cW with
     |none=>rw[i]at e;simp only at e;subst e;simp[-a7N]
     |some s=>rw[i]at e;exact e.2
   refine⟨g.1,g.2.1,by omega,by omega,by rw[bF];omega,by omega⟩
  ·exact⟨b.ma,b.ta,p,q,r,by omega⟩
theorem zK:∀(n:Nat) (r:List Int),r.length≤n→((rd r).1.map List.length).sum≤r.length
 |0,r,h=>by rw[qL (.inl (by omega))];simp[-a7N]
 | n+1,r,h=>by
  by_cases a:Stop r
  ·rw[qL a];simp[-a7N]
  ·rw[wc a];have d:¬r.length<8:=λb=>a (.inl b)
   have e:¬r.length - 8<(num (r.take 4)).toNat:=λb=>a (.inr (.inr (.inr (.inl b))))
   have c:=zK n (r.drop (8+(num (r.take 4)).toNat)) (by rw[gK];omega);rw[gK]at c;simp only[fP,List.sum_cons,lq,gK];omega
theorem HX:∀(n:Nat) (l:List Nat),(l.take n).sum≤l.sum
 |0,l=>by simp
 |n+1,[]=>by simp
 |n+1,x::l=>by have:=HX n l;simp only[LD,List.sum_cons];omega
theorem Hn(l:List Int)(f:∀z∈l,U8 z):∀(n:Nat) (r:List Int),r.length≤n→(∀z∈r,U8 z)→∀p∈(rd r).1,p.length≤8388608∧∀z∈p,U8 z
 |0,r,h,_,p,a=>by rw[qL (.inl (by omega))]at a;cases a
 | n+1,r,h,e,p,a=>by
  by_cases b:Stop r
  ·rw[qL b]at a;cases a
  ·rw[wc b]at a;have g:¬r.length<8:=λc=>b (.inl c)
   have i:¬8388608<(num (r.take 4)).toNat:=λc=>b (.inr (.inr (.inl c)))
   rcases fc.1 a with rfl|a
   ·refine⟨by rw[lq];omega,λz d=>e z (fM (fG d))⟩
   ·exact Hn l f n (r.drop (8+(num (r.take 4)).toNat)) (by rw[gK];omega) (λz d=>e z (fM d)) p a
theorem LQ{b:hH}{a:List bY}{c:List cB}(h:(gU b a c).1≠0):(gU b a c).2=(a,c):=by
 unfold gU at h ⊢;split
 ·rfl
 ·rename_i d;rw[cC d]at h;cases e:gZ a c b.cW with
  |none=>rfl
  |some f=>rw[e]at h;exact absurd rfl h
theorem NA{b:hH}{a:List bY}{c:List cB}{d:List Ev}(h:(gU b a c).1≠0)(k:k5 b a c d):d=[]:=by
 unfold gU at h;unfold k5 at k;split at k
 ·exact k
 ·rename_i f;rw[cC f]at h;cases e:gZ a c b.cW with
  |none=>rw[e]at k;exact k
  |some g=>rw[e]at h;exact absurd rfl h
theorem zy{c:List bY}{d:List cB}{a b:D}(e:aI 3 cZ c a)(h2:aI 3 cY d b):(D.agg [a,b]).fo=true:=a2u (s:=(c,d)) e h2
theorem a4q(k:List bY × List cB)(m p:D)(b3:aI 3 cZ k.1 m)(cd:aI 3 cY k.2 p)(b4:gi k.1)(ce:gx k.2)(c0:k.1.length≤100)(c3:k.2.length≤100)
  (l:List Int) (ad:D) (h:J) (b2:aI 1 aY l ad) (ar:l.length≤3100000) (aw:∀z∈l,U8 z) :
  ∃e f t s b c,R yz [.agg [m,p],ad] h=some (.bD [.agg [e,f],t,.int .i64 (rd l).2],h)∧aI 3 cZ s.1 e∧aI 3 cY s.2 f∧kj (rd l).1 k (rd l).1.length s b c∧aI 10 bG (b.foldl iW []) t:=by
 suffices Wp (R yz [.agg [m,p],ad] h) (λd=>d.2=h∧∃e f t s b c,d.1 = .bD [.agg [e,f],t,.int .i64 (rd l).2]∧aI 3 cZ s.1 e∧aI 3 cY s.2 f∧kj (rd l).1 k (rd l).1.length s b c∧aI 10 bG (b.foldl iW []) t) by
  obtain⟨⟨dc,h'⟩,bx,rfl,e,f,t,s,b,c,rfl,bz⟩:=this;exact⟨e,f,t,s,b,c,bx,bz⟩
 have a0:∀(i:J) (g ak:D),Y tab i aX (.aE [g,ak])=some (.agg [g,ak]):=λi g ak=>id rfl
 have c2:=zK l.length l (bB _);have b9:=Hn l aw l.length l (bB _) aw;have cy:=(Hm l.length l (bB _)).1;rw[VI];simp only[KK,bs,aL];rw[lj aX 2 h [m,p] rfl (by omega)];have bo:(aG h aX 2 [[m,p]])[h.length]?=some (.row aX 2 [[m,p]]):=fO _ _ _ _;have a2:(aG h aX 2 [[m,p]]).length=h.length+1:=by simp[-a7N,aG]
 have cf:∀a,a<h.length→(aG h aX 2 [[m,p]])[a]?=h[a]?:=λa j=>eT _ _ _ _ j
 simp only[bs,a2];have ap:((D.ptr h.length 0 0,aG h aX 2 [[m,p]]):D × J).1 = .ptr h.length 0 0:=rfl;generalize ((D.ptr h.length 0 0,aG h aX 2 [[m,p]]):D × J)=c6 at ap ⊢;generalize aG h aX 2 [[m,p]]=ab at *;have bp:(aG ab aX 2 [[.aA,.aA]])[h.length+1]?=some (.row aX 2 [[.aA,.aA]]):=by rw[← a2];exact fO _ _ _ _
 have a5:(aG ab aX 2 [[.aA,.aA]])[h.length]?=some (.row aX 2 [[m,p]]):=by rw[eT _ _ _ _ (by omega)];exact bo
 have cg:∀a,a<h.length→(aG ab aX 2 [[.aA,.aA]])[a]?=h[a]?:=λa j=>by rw[eT _ _ _ _ (by omega)];exact cf a j
 have c4:(aG ab aX 2 [[.aA,.aA]]).length=h.length+2:=by simp[-a7N,aG,a2]
 generalize aG ab aX 2 [[.aA,.aA]]=bv at *;obtain⟨cp,br,bi,bg,bh,cj⟩:=a3Q l ad bv b2 (by omega) aw;generalize cx:(rd l).1=P at *;generalize (rd l).2=bn at *;have cc:bi.length=P.length:=by have:=fR List.length bg;simpa using this
 simp only[br,bs,fU,fC,fV,GY bh,cc,aL];have ao:∀{n s b c},kj P k n s b c→c≤41000∧s.1.length≤41100∧s.2.length≤82100∧b.length≤41000∧gi s.1∧gx s.2:=λ{n s b c} u=>by
  have L:=xm b4 ce u;have a5:=L.ml;have cq:=L.tl;have cr:=L.el;have cs:=L.cl;have ct:((P.take n).map List.length).sum≤(P.map List.length).sum:=by rw[nn];exact HX _ _
  exact⟨by omega,by omega,by omega,by omega,L.ma,L.ta⟩
 refine Wp.loop (λac G i=>∃n:Nat,Z 6 G = .int .i64 (n:Nat)∧ac+n=P.length∧∃e f s b c,kj P k n s b c∧aI 3 cZ s.1 e∧aI 3 cY s.2 f∧i[h.length]?=some (.row aX 2 [[e,f]])∧i[h.length+1]?=some (.row aX 2 [[.aA,.aA]])∧aR i (h.length+2) aC 10 (b.map bG) (Z 0 G)∧∀a,a<h.length→i[a]?=h[a]?)
  (λT=>T.1 = .ext 0∧∃e f s b c,kj P k P.length s b c∧aI 3 cZ s.1 e∧aI 3 cY s.2 f∧T.2.2[h.length]?=some (.row aX 2 [[e,f]])∧T.2.2[h.length+1]?=some (.row aX 2 [[.aA,.aA]])∧aR T.2.2 (h.length+2) aC 10 (b.map bG) (Z 0 T.2.1)∧∀a,a<h.length→T.2.2[a]?=h[a]?)
  P.length ⟨0,rfl,rfl,m,p,k,[],0,⟨rfl,rfl,rfl⟩,b3,cd,a5,bp,aR.aA _ _ _ _,cg⟩ ?_ ?_
 ·rintro ac G i ⟨n,b5,cz,e,f,s,b,c,u,w,x,A,B,K,C⟩;simp only[KL,b5,bs,aL,bS];refine Wp.dF ?_ ?_
  ·intro H;have H:n<P.length:=fe H;obtain⟨d,ah⟩:=hq H;obtain⟨a,j⟩:∃a,bi[n]?=some a:=⟨_,dG (by omega)⟩
   have cb:a.1=d:=by
    have:=fR (λl=>l[n]?) bg;simpa[-a7N,eE,j,ah]using this
   have ax:=eR n (by omega);have bc:aO tab gC cp (.int .i64 (n:Int))=some (.aE [a.2]):=by rw[y8 bh];simp[-a7N,j]
   have bd:=cj a (eW j);rw[cb]at bd;obtain⟨c1,ca⟩:=b9 d (eW ah);have aq:h.length+2≤i.length:=(bR.1 B).1;obtain⟨M,X,al,aa,a6,a7⟩:=ao u;rcases a4i d a.2 i bd (by omega) ca with⟨de,I,y,r,am,E,ck⟩|⟨b6,r,am,E⟩
   ·obtain⟨ae,af,t,an,ag,a9,ba,b0,bb⟩:=a3J ⟨e4 d,fl d,y,r,E⟩ i w x a6 a7 (by omega) (by omega);have ag:R rI [.agg [e,f],.agg (eJ (e4 d) (fl d) r)] i=some (.bD [.agg [ae,af],t,.int .i64 (gU ⟨e4 d,fl d,y,r,E⟩ s.1 s.2).1],i):=ag;have Q:kj P k (n+1) (gU ⟨e4 d,fl d,y,r,E⟩ s.1 s.2).2 (b++an) (c+y.length):=⟨s,b,c,d,u,ah,.inl ⟨⟨e4 d,fl d,y,r,E⟩,an,by show lK d (y.map e5);rw[ck];exact I,rfl,rfl,bb,rfl,rfl⟩⟩
    obtain⟨c7,c8,c9,co,da,db⟩:=ao Q;rw[bF]at co;simp only[bc,zD,am,bs,fU,fC,fV,xu,dH,dU,eF,bT,aK,aU,aJ,ap,tz A,sM,ag,xv,e8,a0,aL];by_cases ai:(gU ⟨e4 d,fl d,y,r,E⟩ s.1 s.2).1=0
    ·have az:decide ((gU ⟨e4 d,fl d,y,r,E⟩ s.1 s.2).1=0)=true:=fX ai;simp only[az,aN,bs,a0,aL];refine ud aq K (mB _ b0) (by simp;omega) λdd a8 ch c5 a1 _ _=>?_
     have cm:a8[h.length]?=some (.row aX 2 [[e,f]]):=by rw[a1 _ (by omega)];exact A
     have cn:a8[h.length+1]?=some (.row aX 2 [[.aA,.aA]]):=by rw[a1 _ (by omega)];exact B
     simp only[bs];refine m8 (kk:=0) (off:=0) (row:=[e,f]) (v :=.agg [ae,af]) cm (by rfl) (by rfl) (by simp) (zy a9 ba) λbw a3 a4=>?_
     have a3:bw[h.length]?=some (.row aX 2 [[ae,af]]):=a3;simp only[bs,a0,iN,ga,cN,aW,bL,cO,ax];refine .some (.inl ⟨rfl,ac - 1,by omega,n+1,rfl,by omega,ae,af,_,b++an,_,Q,a9,ba,a3,by rw[a4.2 _ (by omega)];exact cn,?_,λa j=>by rw[a4.2 a (by omega),a1 a (by omega)];exact C a j⟩);rw[gL];exact ch.cL λa j _=>a4.2 a (by omega)
    ·have az:decide ((gU ⟨e4 d,fl d,y,r,E⟩ s.1 s.2).1=0)=false:=g2 ai;rw[LQ ai,NA ai bb,nm]at Q;simp only[az,aU,aJ,bs,iN,ga,cN,aW,bL,cO,ax];exact .some (.inl ⟨rfl,ac - 1,by omega,n+1,rfl,by omega,e,f,_,b,_,Q,w,x,A,B,K,C⟩)
   ·have Q:kj P k (n+1) s b c:=⟨s,b,c,d,u,ah,.inr ⟨b6,rfl,rfl,rfl⟩⟩
    simp only[bc,zD,am,bs,fU,fC,fV,xu,dH,show decide ((22:Int)≠0)=true by decide,aK,aN,ga,cN,aW,bL,cO,ax];exact .some (.inl ⟨rfl,ac - 1,by omega,n+1,rfl,by omega,e,f,s,b,c,Q,w,x,A,B,K,C⟩)
  ·intro H;have H:n=P.length:=by
    have:¬(n:Int)<P.length:=by simpa using H
    omega
   subst H;exact .some (.inr ⟨by simp,rfl,e,f,s,b,c,u,w,x,A,B,K,C⟩)
 ·rintro⟨ag,G,i⟩ ⟨bj,e,f,s,b,c,u,w,x,A,B,K,C⟩;simp only at bj A B K C;subst bj;obtain⟨M,X,al,aa,a6,a7⟩:=ao u;simp only[dA,cN,bs,aW,aL];refine Wp.bind (P:=λd=>∃F:List TE,F.Perm (b.zipIdx 0)∧F.Pairwise tS∧aR d.2 (h.length+2) aC 10 (F.map cJ) (Z 0 G)∧d.2[h.length]?=some (.row aX 2 [[e,f]])∧d.2[h.length+1]?=some (.row aX 2 [[.aA,.aA]])∧∀a,a<h.length→d.2[a]?=h[a]?) ?_ ?_
  ·rcases K with⟨ay,au⟩|⟨o,b7,ay,b1⟩
   ·rw[ay];have au:b=[]:=by simpa using au
    refine(a6v _ i).mono λd b8=>?_
    rw[b8];exact⟨[],by rw[au];exact BK _,List.Pairwise.nil,.inl ⟨rfl,rfl⟩,A,B,C⟩
   ·rw[ay,fN];have ar:(b.zipIdx 0).length=b.length:=by simp
    refine(a6u SG (o:=o) (N:=b.length) (by omega) ar (Rz b 0).1 (by rw[Ry];exact b1)).mono λd ⟨F,M,X,al,aa⟩=>?_
    refine⟨F,M,X,.inr ⟨o,b7,?_,al⟩,by rw[aa.2 _ (by omega)];exact A,by rw[aa.2 _ (by omega)];exact B,λa j=>by rw[aa.2 a (by omega)];exact C a j⟩;rw[fN,M.length_eq,ar]
  rintro⟨cu,cw⟩ ⟨F,M,X,bf,bk,bl,be⟩;simp only at bf bk bl be;simp only[ap,tz bk,bs];refine m8 (kk:=0) (off:=0) (row:=[.aA,.aA]) (v :=.agg [e,f]) bl (by rfl) (by rfl) (by simp) (zy w x) λq aj bm=>?_
  have aj:q[h.length+1]?=some (.row aX 2 [[e,f]]):=aj;have ci:aR q (h.length+2) aC 10 ((F.map (·.1)).map bG) (Z 0 G):=by
   have:=bf.cL (h':=q) λa j _=>bm.2 a (by omega)
   rw[sx];exact this
  have av:=gS (n0:=h.length) (n:=2) ci (by omega) (λg _=>uW _ q 1 g);have bt:=iJ (n0:=h.length) (h:=q) (n:=1) w (λg _=>oW _ q 1 g);have bu:=iJ (n0:=h.length) (h:=q) (n:=1) x (λg _=>l2 _ q 1 g);have aq:h.length≤q.length:=by have:=(bR.1 aj).1;omega
  simp only[bs,tz aj,pR];rw [ff (d' :=.bD [.agg [e,f],cS h.length q 3 (Z 0 G),.int .i64 bn]) (by
   simp only[pB,oQ,fP,kE,bt,bu,nM]) (by
   refine .bD _ λbq I=>?_
   simp at I;rcases I with rfl|rfl|rfl
   ·refine .agg _ λbq I=>?_
    simp at I;rcases I with rfl|rfl
    ·exact e7 w λg _=>oX _ g
    ·exact e7 x λg _=>lI _ g
   ·exact e7 av λg _=>sW _ g
   ·constructor) aq (λa j=>by rw[bm.2 a (by omega)];exact be a j)]
  rw[a4T M X]at av;exact .some ⟨rfl,e,f,_,s,b,c,rfl,w,x,u,av⟩
theorem To{p:List Int}{a:List It}(o:p.length≤8388608)(h:lK p (a.map e5)):∀i∈a,qd i.e:=λi g c j=>by
 obtain⟨m,n,⟨r,k⟩,_⟩:=h;obtain⟨q,_,l⟩:=rm k;have d:=l a rfl;rw[gK]at d;have b:(gj i).length≤(a.map gj).flatten.length:=(B1 (g8.2 ⟨i,g,rfl⟩)).length_le;have f:(hJ c).length≤(i.e.fs.map hJ).flatten.length:=(B1 (g8.2 ⟨c,j,rfl⟩)).length_le;rw[ru]at b;simp only[fW,bF]at b;simp only[hJ,pS,bF,rX]at f;omega
theorem a4r(k:List bY × List cB)(m o:D)(bv:aI 3 cZ k.1 m)(b5:aI 3 cY k.2 o)(bw:gi k.1)(b6:gx k.2)(c0:k.1.length≤100)(c2:k.2.length≤100)
  (l:List Int) (ab:D) (h:J) (bu:aI 1 aY l ab) (cy:l.length≤3100000) (ao:∀z∈l,U8 z) :
  ∃e f u s b c,R yA [.agg [m,o],ab] h=some (.bD [.agg [e,f],u,.int .i64 (rd l).2],h)∧aI 3 cZ s.1 e∧aI 3 cY s.2 f∧kj (rd l).1 k (rd l).1.length s b c∧aI 10 bG (b.foldl iW []) u:=by
 suffices Wp (R yA [.agg [m,o],ab] h) (λd=>d.2=h∧∃e f u s b c,d.1 = .bD [.agg [e,f],u,.int .i64 (rd l).2]∧aI 3 cZ s.1 e∧aI 3 cY s.2 f∧kj (rd l).1 k (rd l).1.length s b c∧aI 10 bG (b.foldl iW []) u) by
  obtain⟨⟨da,ct⟩,bp,rfl,e,f,u,s,b,c,rfl,bq⟩:=this;exact⟨e,f,u,s,b,c,bp,bq⟩
 have a6:∀(p:J) (g ak:D),Y tab p aX (.aE [g,ak])=some (.agg [g,ak]):=λp g ak=>id rfl
 have c1:=zK l.length l (bB _);have b1:=Hn l ao l.length l (bB _) ao;have cw:=(Hm l.length l (bB _)).1;rw[VJ];simp only[KM,bs,aL];rw[lj aX 2 h [m,o] rfl (by omega)];have bg:(aG h aX 2 [[m,o]])[h.length]?=some (.row aX 2 [[m,o]]):=fO _ _ _ _;have ar:(aG h aX 2 [[m,o]]).length=h.length+1:=by simp[-a7N,aG]
 have b9:∀a,a<h.length→(aG h aX 2 [[m,o]])[a]?=h[a]?:=λa r=>eT _ _ _ _ r
 simp only[bs,ar];have an:((D.ptr h.length 0 0,aG h aX 2 [[m,o]]):D × J).1 = .ptr h.length 0 0:=rfl;generalize ((D.ptr h.length 0 0,aG h aX 2 [[m,o]]):D × J)=c4 at an ⊢;generalize aG h aX 2 [[m,o]]=X at *;have bh:(aG X aX 2 [[.aA,.aA]])[h.length+1]?=some (.row aX 2 [[.aA,.aA]]):=by rw[← ar];exact fO _ _ _ _
 have aw:(aG X aX 2 [[.aA,.aA]])[h.length]?=some (.row aX 2 [[m,o]]):=by rw[eT _ _ _ _ (by omega)];exact bg
 have ca:∀a,a<h.length→(aG X aX 2 [[.aA,.aA]])[a]?=h[a]?:=λa r=>by rw[eT _ _ _ _ (by omega)];exact b9 a r
 have c3:(aG X aX 2 [[.aA,.aA]]).length=h.length+2:=by simp[-a7N,aG,ar]
 generalize aG X aX 2 [[.aA,.aA]]=bo at *;obtain⟨cf,bj,ba,a7,a8,cb⟩:=a3R l ab bo bu (by omega) ao;generalize cu:(rd l).1=j at *;generalize (rd l).2=bf at *;have b4:ba.length=j.length:=by have:=fR List.length a7;simpa using this
 simp only[bj,bs,fU,fC,fV,aL];have a1:∀{n s b c},kj j k n s b c→c≤41000∧s.1.length≤41100∧s.2.length≤82100∧b.length≤41000∧gi s.1∧gx s.2:=λ{n s b c} F=>by
  have M:=xm bw b6 F;have aw:=M.ml;have cg:=M.tl;have ch:=M.el;have ci:=M.cl;have cj:((j.take n).map List.length).sum≤(j.map List.length).sum:=by rw[nn];exact HX _ _
  exact⟨by omega,by omega,by omega,by omega,M.ma,M.ta⟩
 refine Wp.loop (λaa Q p=>∃n:Nat,Z 1 Q = .int .i64 (n:Nat)∧aa+n=j.length∧∃e f s b c,kj j k n s b c∧aI 3 cZ s.1 e∧aI 3 cY s.2 f∧p[h.length]?=some (.row aX 2 [[e,f]])∧p[h.length+1]?=some (.row aX 2 [[.aA,.aA]])∧aI 10 bG (b.foldl iW []) (Z 0 Q)∧∀a,a<h.length→p[a]?=h[a]?)
  (λC=>C.1 = .ext 0∧∃e f s b c,kj j k j.length s b c∧aI 3 cZ s.1 e∧aI 3 cY s.2 f∧C.2.2[h.length]?=some (.row aX 2 [[e,f]])∧C.2.2[h.length+1]?=some (.row aX 2 [[.aA,.aA]])∧aI 10 bG (b.foldl iW []) (Z 0 C.2.1)∧∀a,a<h.length→C.2.2[a]?=h[a]?)
  j.length ⟨0,rfl,rfl,m,o,k,[],0,⟨rfl,rfl,rfl⟩,bv,b5,aw,bh,.aA _ _,ca⟩ ?_ ?_
 ·rintro aa Q p ⟨n,bx,cx,e,f,s,b,c,F,x,y,H,I,B,L⟩;simp only[KN,bx,bs,aL,GY a8,b4,bS];refine Wp.dF ?_ ?_
  ·intro i;have i:n<j.length:=fe i;obtain⟨d,ag⟩:=hq i;obtain⟨a,r⟩:∃a,ba[n]?=some a:=⟨_,dG (by omega)⟩
   have b3:a.1=d:=by
    have:=fR (λl=>l[n]?) a7;simpa[-a7N,eE,r,ag]using this
   have ap:=eR n (by omega);have a3:aO tab gC cf (.int .i64 (n:Int))=some (.aE [a.2]):=by rw[y8 a8];simp[-a7N,r]
   have a4:=cb a (eW r);rw[b3]at a4;obtain⟨b0,b2⟩:=b1 d (eW ag);have a2:h.length+2≤p.length:=(bR.1 I).1;obtain⟨ck,cm,cn,co,cp,cq⟩:=a1 F;rcases a4p d a.2 p a4 (by omega) b2 with⟨db,G,A,w,al,K,a9⟩|⟨bz,w,al,K⟩
   ·obtain ⟨ac,ad,u,q,ae,ax,ay,az,a0⟩:=a4l ⟨e4 d,fl d,A,w,K⟩ (To b0 (by rw[a9];exact G)) p x y (by omega) (by omega);have ae:R qy [.agg [e,f],.agg (eJ (e4 d) (fl d) w)] p=some (.bD [.agg [ac,ad],u,.int .i64 (gU ⟨e4 d,fl d,A,w,K⟩ s.1 s.2).1],p):=ae;have N:kj j k (n+1) (gU ⟨e4 d,fl d,A,w,K⟩ s.1 s.2).2 (b++q) (c+A.length):=⟨s,b,c,d,F,ag,.inl ⟨⟨e4 d,fl d,A,w,K⟩,q,by show lK d (A.map e5);rw[a9];exact G,rfl,rfl,a0,rfl,rfl⟩⟩
    obtain⟨c5,c6,c7,ce,c8,c9⟩:=a1 N;rw[bF]at ce;simp only[a3,zD,al,bs,fU,fC,fV,xu,dH,dU,eF,bT,aK,aU,aJ,an,tz H,sM,ae,xv,a6,aL];by_cases ah:(gU ⟨e4 d,fl d,A,w,K⟩ s.1 s.2).1=0
    ·have aq:decide (¬(gU ⟨e4 d,fl d,A,w,K⟩ s.1 s.2).1=0)=false:=g2 λbr=>br ah
     simp only[aq,aU,aJ,bs,a6,aL];refine m8 (kk:=0) (off:=0) (row:=[e,f]) (v :=.agg [ac,ad]) H (by rfl) (by rfl) (by simp) (zy ax ay) λam av bc=>?_
     have av:am[h.length]?=some (.row aX 2 [[ac,ad]]):=av
     try simp only[bs,aL]
     refine Wp.loop (λau T af=>af=am∧∃t:Nat,Z 1 T = .int .i64 (t:Nat)∧au+t=q.length∧aI 10 bG ((q.take t).foldl iW (b.foldl iW [])) (Z 0 T))
      (λC=>C.1 = .ext 2∧C.2.2=am∧aI 10 bG (q.foldl iW (b.foldl iW [])) (Z 0 C.2.1)) q.length ⟨rfl,0,rfl,rfl,B⟩ ?_ ?_
     ·rintro au T af ⟨rfl,t,bt,cz,P⟩;simp only[KO,bt,bs,aL,vU az,bS];refine Wp.dF ?_ ?_
      ·intro i;have i:t<q.length:=fe i;obtain⟨aj,a5⟩:∃aj,q[t]?=some aj:=⟨_,dG i⟩
       have b8:aO tab dX u (.int .i64 (t:Int))=some (.aE (bG aj)):=by rw[vJ az];simp[-a7N,a5]
       have b7:=eR t (by omega);obtain⟨cr,bk,cd⟩:=s72 _ (Z 0 T) aj af P (by rw[yP,yP,lq,e6];omega);simp only[b8,kJ,bk,bs,cO,b7];refine .some (.inl ⟨rfl,au - 1,by omega,rfl,t+1,rfl,by omega,?_⟩);rw[g9,a5,Ca,List.foldl_append];exact cd
      ·intro i;have i:t=q.length:=by
        have:¬(t:Int)<q.length:=by simpa using i
        omega
       subst i;rw[je]at P;exact .some (.inr ⟨by simp,rfl,rfl,P⟩)
     ·rintro⟨cs,T,af⟩ ⟨bd,be,P⟩;simp only at bd be P;subst bd;subst be;simp only[dA,ga,cN,bs,aW,bL,cO,ap];refine .some (.inl ⟨rfl,aa - 1,by omega,n+1,rfl,by omega,ac,ad,_,b++q,_,N,ax,ay,av,by rw[bc.2 _ (by omega)];exact I,?_,λa r=>by rw[bc.2 a (by omega)];exact L a r⟩);rw[List.foldl_append];exact P
    ·have aq:decide (¬(gU ⟨e4 d,fl d,A,w,K⟩ s.1 s.2).1=0)=true:=fX ah;rw[LQ ah,NA ah a0,nm]at N;simp only[aq,aN,bs,ga,cN,aW,bL,cO,ap];exact .some (.inl ⟨rfl,aa - 1,by omega,n+1,rfl,by omega,e,f,_,b,_,N,x,y,H,I,B,L⟩)
   ·have N:kj j k (n+1) s b c:=⟨s,b,c,d,F,ag,.inr ⟨bz,rfl,rfl,rfl⟩⟩
    simp only[a3,zD,al,bs,fU,fC,fV,xu,dH,show decide ((22:Int)≠0)=true by decide,aK,aN,ga,cN,aW,bL,cO,ap];exact .some (.inl ⟨rfl,aa - 1,by omega,n+1,rfl,by omega,e,f,s,b,c,N,x,y,H,I,B,L⟩)
  ·intro i;have i:n=j.length:=by
    have:¬(n:Int)<j.length:=by simpa using i
    omega
   subst i;exact .some (.inr ⟨by simp,rfl,e,f,s,b,c,F,x,y,H,I,B,L⟩)
 ·rintro⟨ae,Q,p⟩ ⟨bb,e,f,s,b,c,F,x,y,H,I,B,L⟩;simp only at bb H I B L;subst bb;simp only[dA,cN,bs,aW,aL,an,tz H];refine m8 (kk:=0) (off:=0) (row:=[.aA,.aA]) (v :=.agg [e,f]) I (by rfl) (by rfl) (by simp) (zy x y) λE ai cc=>?_
  have ai:E[h.length+1]?=some (.row aX 2 [[e,f]]):=ai;have bm:=iJ (n0:=h.length) (h:=E) (n:=1) x (λg _=>oW _ E 1 g);have bn:=iJ (n0:=h.length) (h:=E) (n:=1) y (λg _=>l2 _ E 1 g);have bl:=iJ (n0:=h.length) (h:=E) (n:=2) B (λg _=>uW _ E 1 g);have a2:h.length≤E.length:=by have:=(bR.1 ai).1;omega
  simp only[bs,tz ai,pR];rw [ff (d' :=.bD [.agg [e,f],Z 0 Q,.int .i64 bf]) (by
   simp only[pB,oQ,fP,kE,bm,bn,bl,nM]) (by
   refine .bD _ λbi G=>?_
   simp at G;rcases G with rfl|rfl|rfl
   ·refine .agg _ λbi G=>?_
    simp at G;rcases G with rfl|rfl
    ·exact e7 x λg _=>oX _ g
    ·exact e7 y λg _=>lI _ g
   ·exact e7 B λg _=>sW _ g
   ·constructor) a2 (λa r=>by rw[cc.2 a (by omega)];exact L a r)]
  exact .some ⟨rfl,e,f,_,s,b,c,rfl,x,y,F,B⟩
theorem Te(zs:List Int)(d:D)(n:Int)(h:J)(f:kC .u8 zs d)(s:0≤n)(u:n≤1000)(p:∀z∈zs,0≤z∧z<256):∃h',R vv [d,.int .i64 n] h=some (.ptr h.length 0 0,h')∧CD h' h.length∧h'.length=h.length+1∧∀b,b<h.length→h'[b]?=h[b]?:=by
 rw[Nq];have e:∃a:Int,nG (.int .i64 zs.length) (.int .i64 n)=some (.int .i64 a)∧0≤a∧a≤zs.length∧a≤1000:=by
  rw[CK];split
  ·exact⟨_,rfl,by omega,by omega,by omega⟩
  ·exact⟨_,rfl,by omega,by omega,by omega⟩
 obtain⟨a,e,k,l,r⟩:=e;obtain⟨c,o,g⟩:=Oh (T:=tab) (t:=aP) (i:=iK) (j:=iE) (id rfl) (id rfl) (id rfl) (id rfl) f (k2 :=.i64) k l;simp only[BC,bs,DZ f,e,o,L4 c (Oi g)];rw[lj kU 2 h [c,.int .i64 0] rfl (by omega)];refine⟨_,rfl,⟨_,c,zs.take a.toNat,0,by simp[-a7N,aG],g,?_,rfl,λz q=>p z (fG q)⟩,by simp[-a7N,aG],λb m=>eT _ _ _ _ m⟩;simp[-a7N];omega
def Ou(p:D × D):List D:=[p.1,p.2]
def BE(p:D × D):Prop:=∃a:List bY × List cB,aI 3 cZ a.1 p.1∧aI 3 cY a.2 p.2∧gi a.1∧gx a.2∧a.1.length≤100∧a.2.length≤100
theorem a0S(l:List Int)(e:D)(y:aI 1 aY l e)(s:l.length≤3100000)(x:∀z∈l,U8 z)(fs:List (D × D))(j:D)(ag:aI 2 Ou fs j)(af:∀p∈fs,BE p)(a0:fs.length=2)
  (r:List D) (ad:Z 8 r = .int .i64 0) (g:J) {H:Type} {q:bK→Option H} {Q:H→Prop} (k:∀ds,Wp (q (.ext 2,ds,g)) Q):Wp ((cA (Bn e j (.int .i64 (fs.length:Nat))) r g).bind q) Q:=by
 have ak:∀(g:J) (h i:D),Y tab g aX (.aE [h,i])=some (.agg [h,i]):=λg h i=>id rfl
 have a2:=zK l.length l (bB _);refine Wp.loop (λk ds b=>b=g∧∃a:Nat,Z 8 ds = .int .i64 (a:Nat)∧k+a=fs.length) (λE=>E.1 = .ext 2∧E.2.2=g) fs.length ⟨rfl,0,ad,rfl⟩ ?_ ?_
 ·rintro al ds b ⟨rfl,a,ai,a1⟩;simp only[Bn,ai,bs,aL,bS];refine Wp.dF ?_ ?_
  ·intro f;have f:a<fs.length:=by
    have:(a:Int)<(fs.length:Nat):=by simpa using f
    omega
   obtain⟨c,A⟩:=hq f;obtain⟨F,t,v,m,n,u,w⟩:=af c (eW A);have aj:=eR a (by omega);have ah:aO tab qU j (.int .i64 (a:Int))=some (.aE [c.1,c.2]):=by rw[a0u ag,bO (by omega),eQ,A];rfl
   obtain⟨N,P,M,G,ab,ax,K,am,ao,o,aq⟩:=a4q F c.1 c.2 t v m n u w l e b y s x;obtain⟨X,aa,T,a3,ac,ay,L,an,ap,I,ar⟩:=a4r F c.1 c.2 t v m n u w l e b y s x;obtain⟨rfl,ae⟩:=LM o I;have d:=xm m n o;have au:=d.ml;have av:=d.tl;have aw:=d.el;have R:=d.cl;rw[je]at R;have CX:=a3L G.1 G.2 N X P aa b am an ao ap (by omega) (by omega);have rq:=a4u (ab.foldl iW []) (ac.foldl iW []) M T b aq ar (N8 ae trivial) (by rw[yP,e6];omega);simp only[ah,ak,xv,K,L,bs,fU,fC,fV,dH,dU,eF,bT,bZ,gk,aN,CX,gB,fy,bW,aU,aJ,rq,aK,cO,aj];exact .some (.inl ⟨rfl,al - 1,by omega,rfl,a+1,rfl,by omega⟩)
  ·intro f;exact .some (.inr ⟨by simp,rfl,rfl⟩)
 ·rintro⟨az,ds,b⟩ ⟨B,C⟩;simp only at B C;subst B;subst C;exact k _
theorem a0R(b c:D)(C:BE (b,c))(e:List (List Int × D))(o:Nat)(n:D × J)(A:n.1 = .aZ 1 o 0 4)(g:J)(ab:e.length=4)(G:g[o]?=some (.row aP 1 (e.map λp=>[p.2])))(H:∀p∈e,aI 1 aY p.1 p.2∧p.1.length≤3100000∧∀z∈p.1,U8 z)(j:List D)(B:Z 9 j = .int .i64 0){u:Type}{i:bK→Option u}{Q:u→Prop}
  (k:∀ds,Wp (i (.ext 0,ds,g)) Q):Wp ((cA (Bm (.aE [b,c]) n (.int .i64 4)) j g).bind i) Q:=by
 refine Wp.loop (λk ds d=>d=g∧∃a:Nat,Z 9 ds = .int .i64 (a:Nat)∧k+a=4) (λt=>t.1 = .ext 0∧t.2.2=g) 4 ⟨rfl,0,B,rfl⟩ ?_ ?_
 ·rintro M ds d ⟨rfl,a,F,aa⟩;simp only[Bm,F,A,bs,aL,bS];refine Wp.dF ?_ ?_
  ·intro f;have f:a<4:=fe f;obtain⟨p,m⟩:∃p,e[a]?=some p:=⟨_,dG (by omega)⟩
   obtain⟨w,x,y⟩:=H p (eW m);have I:=eR a (by omega);have K:(0:Int)≤(a:Int)∧(a:Int)<((4:Nat):Int):=by omega
   have L:aO tab gC (.aZ 1 o 0 4) (.int .i64 (a:Int))=some (.ptr o a 0):=by rw[a0o,bO K];simp[-a7N]
   have P:Y tab d aP (.ptr o a 0)=some p.2:=by rw[zf,dM G,eE,m];rfl
   have v:eD tab aX [] []=some (.agg [.aA,.aA]):=id rfl;have N:Y tab d aX (.aE [b,c])=some (.agg [b,c]):=id rfl;have R:dL tab qU 2 [0,1] [.agg [.aA,.aA],.agg [b,c]]=some (.sl 2 true [[.aA,.aA],[b,c]]):=id rfl;have l:aI 2 Ou [((.aA:D),(.aA:D)),(b,c)] (.sl 2 true [[.aA,.aA],[b,c]]) :=.inr ⟨true,rfl⟩;have E:∀q∈[((.aA:D),(.aA:D)),(b,c)],BE q:=λq h=>by
    rcases fc.1 h with rfl|h
    ·exact⟨([],[]),.aA _ _,.aA _ _,List.Pairwise.nil,List.Pairwise.nil,by simp,by simp⟩
    ·rw[np.1 h];exact C
   simp only[L,P,v,N,R,a1y l,bs,aL];refine a0S p.1 p.2 w x y _ _ l E rfl _ (by rfl) _ λT=>?_
   simp only[dA,ga,cN,bs,aW,bL,cO,I];exact .some (.inl ⟨rfl,M - 1,by omega,rfl,a+1,rfl,by omega⟩)
  ·intro f;exact .some (.inr ⟨by simp,rfl,rfl⟩)
 ·rintro⟨X,ds,d⟩ ⟨r,s⟩;simp only at r s;subst r;subst s;exact k _
theorem a1c(n zs:List Int)(s d:D)(r w:Int)(a7:kC .u8 n s)(a8:∀z∈n,0≤z∧z<256)(ad:kC .u8 zs d)(b:∀z∈zs,0≤z∧z<256)(b1:n.length≤9223372036854775807):∃h',R DH [d,s,.int .i64 r,.int .u8 w] []=some (.bool true,h'):=by
 suffices Wp (R DH [d,s,.int .i64 r,.int .u8 w] []) (λak=>ak.1 = .bool true) by
  obtain⟨⟨br,h'⟩,a6,rfl⟩:=this;exact⟨h',a6⟩
 have ae:=Zj a7;have ai:∀X:J,scope [] X (.bool true)=some (.bool true,[]):=λX=>ff (by simp) (.bool _) (by simp) (λG C=>by cases C)
 rw[VG];simp only[KI,bs,a3m,gB,fy,bZ,aN,fm ae,dE,bW,aU,aJ,aL];refine Wp.dF ?_ ?_
 ·intro t;simp only[t,bs,cP,ai];exact .some rfl
 intro t;have t:n.length≤500:=by
  have:¬(n.length:Int)>500:=by simpa using t
  omega
 obtain⟨br,a,y,aa,az,b0,j,al,rfl,bd,bi⟩:=a3P zs d [] ad b;refine Wp.step az ?_;have m:=OK al bd;generalize kK al=a at j bi m;simp only[bs,fU,fC,fV];obtain⟨x,ab,a0,v⟩:=oz (n0:=0) (h:=aa) (l:=[]) (d :=.aA) (mI _) (aR.aA _ _ _ _) (m6 (h:=aa) (.inl j)) (by simp;omega);simp only[kp]at v;have ao:=iq.own v.ow;refine Wp.step a0 ?_;simp only[bs,rT ao,dE];refine Wp.join (P:=λe=>e.1 = .aQ∧∃o:List Int,iq e.2.2 o x∧o.length=a.length∧∀z∈o,U8 z) ?_ ?_ ?_
 ·intro c;have c:0<a.length:=by
   have:(a.length:Int)>0:=by simpa using c
   omega
  obtain⟨e,er,M,q,_⟩:=QJ r a.length ab (by omega);have q:=q (by omega);obtain⟨g,rfl⟩:=lM M;obtain⟨u,b3,rfl,af⟩:=m5 v.ow (i:=g) (by simp;omega);obtain⟨z,bj⟩:∃z,a[g]?=some z:=⟨_,dG (by omega)⟩
  have ah:(a.map aY)[g]?=some (aY z):=by rw[eE,bj];rfl
  have bk:(0:Int)≤(g:Int)∧(g:Int)<((a.map aY).length:Int):=by simp;omega
  have bl:aO tab aP (.aZ 1 u 0 (a.map aY).length) (.int .i64 (g:Int))=some (.ptr u g 0):=by rw[vI,bO bk];simp[-a7N]
  have bn:Y tab ab cD (.ptr u g 0)=some (.int .u8 z):=by rw[zh,dM af,ah];rfl
  simp only[er,bs,bl,bn,uS];refine a6X af ah (by rfl) (by simp[-a7N,aY]) (by rfl) λA ac _=>?_
  rw[SD,← j8]at ac
  try simp only[bs]
  refine .some ⟨rfl,a.set g (IntKind.wrap .u8 (BitVec.ofInt IntKind.u8.bits z ^^^ BitVec.ofInt IntKind.u8.bits w).toNat),.inr ⟨u,by simp,ac⟩,by simp,λbt F=>?_⟩;rcases List.mem_or_eq_of_mem_set F with F|rfl
  ·exact m bt F
  ·rw[wC];unfold U8;omega
 ·intro c;exact .some ⟨rfl,a,ao,rfl,m⟩
 rintro⟨a4,Q,A⟩ ⟨rfl,o,ag,b4,bc⟩;simp only at ag;obtain⟨bw,a1,B⟩:=QC a n y s A j ae (by omega) (by omega);simp only[cN,bs,a1,fU,fC,fV,e8];refine Wp.join (P:=λe=>e.1 = .aQ∧e.2.2=A∧∃p:List Int,aI 1 aY p (Z 0 e.2.1)∧p.length≤3100000∧∀z∈p,U8 z) ?_ ?_ ?_
 ·intro c;have c:ju a n=0:=by simpa using c
  unfold ki at B;rw[bO c]at B;refine .some ⟨rfl,rfl,_,B,by simp only[bF,mW];omega,λz b=>?_⟩;simp only[fp]at b;rcases b with((b|b)|b)|b
  ·exact m z b
  ·exact xZ _ z b
  ·exact xZ _ z b
  ·exact a8 z b
 ·intro c;exact .some ⟨rfl,rfl,a,j,by omega,m⟩
 rintro⟨a4,Q,a5⟩ ⟨am,an,p,E,be,bf⟩;simp only at am an E;subst am;subst an;generalize Z 0 Q=T at E ⊢;obtain⟨bz,a2,aw,b6,bm⟩:=Te zs d 100 a5 ad (by omega) (by omega) b;simp only[cN,bs];refine Wp.step a2 ?_;simp only[bs];obtain⟨ax,ay,f,a3,bv,bo,aj,ap,ba,bb,b2,bg,bh,b5⟩:=S7 aw;refine Wp.step a3 ?_;have bq:IntKind.wrap .i64 ((a.length:Int)+1)=((a.length+1:Nat):Int):=by rw[bJ (by omega) (by omega)];omega
 obtain⟨e,er,M,q,_⟩:=QJ r ((a.length+1:Nat):Int) f (by omega);have q:=q (by omega);obtain⟨N,CW,bp⟩:=rY j (k :=.i64) M (by omega);simp only[bs,xv,fm j,cO,bq,er,CW];have H:aI 1 aY a (cS 0 f 3 y):=zG (.inl j);have I:aI 1 aY o (cS 0 f 3 x):=zG (ag.cL λG bu z b7 C=>by
  have a9:=(bR.1 C).1;rw[bo.2 G (by omega)];exact bm G a9)
 have K:aI 1 aY p (cS 0 f 3 T):=zG (.inl E);have L:aI 1 aY (a.take e.toNat) (cS 0 f 3 N):=zG (.inl bp);generalize cS 0 f 3 y=aq at H;generalize cS 0 f 3 x=ar at I;generalize cS 0 f 3 T=au at K;generalize cS 0 f 3 N=av at L;rw[SC _ aq ar au av (fx H) (fx I) (fx K) (fx L)];simp only[bs,a1n,aL];refine a0R ax ay ⟨(aj,ap),ba,bg,bb,bh,by show aj.length≤100;omega,by show ap.length≤100;omega⟩ [(a,aq),(o,ar),(p,au),(a.take e.toNat,av)] _ _ rfl _ rfl (fO _ _ _ _) (λak c=>?_) _ (by rfl) λbx=>?_
 ·simp only[fc,oj,k9]at c;rcases c with rfl|rfl|rfl|rfl
  ·exact⟨H,by simp only;omega,m⟩
  ·exact⟨I,by simp only;omega,bc⟩
  ·exact⟨K,be,bf⟩
  ·exact⟨L,by simp only[lq];omega,λz b=>m z (fG b)⟩
 ·simp only[dA,cN,bs,cP,ai];exact .some rfl
end Go.Proofs.YtkcdpfogoepamaaGreatDoor

/- Part 5 of the texts that the theorem needs: an interpreter on data, proved sound; the functions on data; laws about them. -/
import Derived.Test.YtinlnkhheafjaaaGreatDoorM4
set_option linter.unusedSimpArgs false
set_option linter.unusedVariables false
set_option linter.unnecessarySimpa false
set_option maxRecDepth 100000
namespace Go.Eng
abbrev kS:=@List.not_mem_nil
abbrev wx:=@gt_iff_lt
abbrev yc:=@Int.lt_irrefl
abbrev EW:=@List.any_eq_false
end Go.Eng
namespace Go.Proofs.YtinlnkhheafjaaaGreatDoor
open Go.Eng Go.Pi
open Option renaming bind_some → Xm
theorem Jl(e:Ev)(m:Int)(h:J):R vL [.agg (bV e),.int .i64 m] h=some (.int .i64 (gL e m),h):=by
 apply Wp.val;rw[ML];simp only[Db,jj,W,aU,bV,nT,lF,iC,eB,ji e.fZ,fa,cZ];by_cases E:e.ls.length=0
 ·have v:(e.ls.length:Int)=0:=by omega
  simp only[v,bK,aK,aJ,bR];exact .some (by simp[-Xm,gL,E])
 by_cases M:40<e.ls.length
 ·have v:¬(e.ls.length:Int)=0:=by omega
  have F:(40:Int)<(e.ls.length:Int):=by omega
  simp only[v,F,bK,bG,aP,aL,aK,aJ,bR];exact .some (by simp[-Xm,gL,E,M])
 have v:¬(e.ls.length:Int)=0:=by omega
 have F:¬(40:Int)<(e.ls.length:Int):=by omega
 have ab:gL e m=iE e.a3 m e.a2 e.ls:=by simp[-Xm,gL,E,M]
 rw[ab];generalize ac:iE e.a3 m e.a2 e.ls=B;simp only[v,F,bG,aP,aL,aK];refine Wp.loop (λz D o=>o=h∧∃G H I K L,∃r:Int,∃b:Nat,D=[G,.int .i64 r,.int .i64 (b:Int),H,I,K,L]∧z+b=e.ls.length∧iE e.a3 m r (e.ls.drop b)=B)
   (λa=>a.2.2=h∧((a.1 = .ext 0∧B=0)∨(a.1 = .ret∧Z 0 a.2.1 = .int .i64 B))) e.ls.length ⟨rfl,_,_,_,_,_,_,0,rfl,rfl,ac⟩ ?_ ?_
 ·rintro z D o ⟨rfl,G,H,I,K,L,r,b,rfl,aj,c⟩;simp only[Dc,bD,bY,W,aU,nT,iC,ji e.fZ,cI];refine Wp.dS ?_ ?_
  ·intro l;have l:b<e.ls.length:=gS l;have Q:e.ls[b]?=some e.ls[b]:=cJ l;have y:=fD b (by omega);have w:IntKind.wrap .i64 ((e.ls.length:Int) - 1)=(e.ls.length:Int) - 1:=cN (by omega) (by omega);rw[ia l]at c;generalize e.ls[b]=a at Q c;have ad:aQ tab bA e.ld (.int .i64 (b:Int))=some (.aI (bC a)):=by rw[mc e.fZ];simp[-Xm,Q]
   have T:e.ls.drop (b+1)=[]↔(b:Int)=(e.ls.length:Int) - 1:=by
    rw[List.drop_eq_nil_iff];omega
   have ag:aA tab o bS (.aI (bC a))=some (.agg (bC a)):=id rfl;have ah:gY 3 (.agg (bC a))=some (.aI (bC a)):=mP 3 _ rfl;have V:aC tab bS 0 (.aI (bC a))=some (.aI (bC a)):=id rfl;have X:aC tab bS 1 (.aI (bC a))=some (.aI [.int .i64 a.len,.str a.eD]):=id rfl;have aa:aC tab bS 2 (.aI (bC a))=some (.aI [.str a.eD]):=id rfl;have af:aA tab o U (.aI (bC a))=some (.int .i64 a.off):=id rfl;have p:aA tab o U (.aI [.int .i64 a.len,.str a.eD])=some (.int .i64 a.len):=id rfl;have A:aA tab o bP (.aI [.str a.eD])=some (.str a.eD):=id rfl;unfold iE at c;simp only[ad,ag,ah,V,X,aa,af,W,dE];by_cases g:a.off=r
   case neg =>
    rw[cH (λd=>g d.1)]at c;simp only[g,dC,fy,bK,bL,eL,reduceCtorEq,eR,aL,W,bI,aJ,aK];exact .some (.inr ⟨by simp,rfl,.inr ⟨rfl,by rw[← c];rfl⟩⟩)
   by_cases j:a.len<1
   ·rw[cH (λd=>d.2.1 j)]at c;simp only[g,j,dC,eA,bK,bG,bL,eL,reduceCtorEq,eR,aP,aL,W,p,cI,bI,aJ,aK];exact .some (.inr ⟨by simp,rfl,.inr ⟨rfl,by rw[← c];rfl⟩⟩)
   generalize q:IntKind.wrap .i64 (e.a3 - r)=n at c;by_cases k:n<a.len
   ·rw[cH (λd=>d.2.2.1 k)]at c;simp only[g,j,k,dC,eA,bK,bG,bL,eL,reduceCtorEq,eR,aP,aL,W,p,hF,eB,eH,q,cI,cZ,bI,aJ,aK];exact .some (.inr ⟨by simp,rfl,.inr ⟨rfl,by rw[← c];rfl⟩⟩)
   by_cases s:e.ls.drop (b+1)=[]∧a.len<n
   ·rw[cH (λd=>d.2.2.2 s)]at c;have f:(b:Int)=(e.ls.length:Int) - 1:=T.1 s.1;have i:¬a.len=n:=by have:=s.2;omega
    have u:decide ((b:Int)=(e.ls.length:Int) - 1)=true:=hh f;simp only[g,j,k,u,i,dC,eA,fy,bK,bG,bL,eL,reduceCtorEq,eR,aP,aL,W,p,hF,nT,iC,ji e.fZ,eB,eH,w,q,cI,cZ,fa,dE,bI,aJ,aK];exact .some (.inr ⟨by simp,rfl,.inr ⟨rfl,by rw[← c];rfl⟩⟩)
   rw[bE ⟨g,j,k,s⟩]at c;have i:(b:Int)=(e.ls.length:Int) - 1→a.len=n:=λf=>by
    have:¬a.len<n:=λd=>s ⟨T.2 f,d⟩
    omega
   by_cases x:m<a.eD.length
   ·rw[bE x]at c;have t:(a.eD.length:Int)>m:=x;by_cases f:(b:Int)=(e.ls.length:Int) - 1
    ·replace i:=i f;have u:decide ((b:Int)=(e.ls.length:Int) - 1)=true:=hh f;have C:decide (¬a.len=n)=false:=gR (λd=>d i);simp only[g,j,k,u,C,t,dC,eA,fy,bK,bG,bL,eL,reduceCtorEq,eR,aP,aL,W,p,A,hF,nT,iC,ji e.fZ,eB,eH,w,q,cI,cZ,fa,dE,bI,aJ,aK,gm,cY,y,yc];exact .some (.inr ⟨by simp,rfl,.inr ⟨rfl,by rw[← c];rfl⟩⟩)
    ·clear i;simp only[g,j,k,f,t,dC,eA,fy,bK,bG,bL,eL,reduceCtorEq,eR,aP,aL,W,p,A,hF,nT,iC,ji e.fZ,eB,eH,w,q,cI,cZ,fa,dE,bI,aJ,aK,gm,cY,y,yc];exact .some (.inr ⟨by simp,rfl,.inr ⟨rfl,by rw[← c];rfl⟩⟩)
   ·rw[cH x]at c;have t:¬(a.eD.length:Int)>m:=x;by_cases f:(b:Int)=(e.ls.length:Int) - 1
    ·replace i:=i f;have u:decide ((b:Int)=(e.ls.length:Int) - 1)=true:=hh f;have C:decide (¬a.len=n)=false:=gR (λd=>d i);simp only[g,j,k,u,C,t,dC,eA,fy,bK,bG,bL,eL,reduceCtorEq,eR,aP,aL,W,p,A,hF,nT,iC,ji e.fZ,eB,eH,w,q,cI,cZ,fa,dE,bI,aJ,aK,gm,cY,y,yc];exact .some (.inl ⟨rfl,z - 1,by omega,rfl,_,_,_,_,_,_,b+1,rfl,by omega,c⟩)
    ·clear i;simp only[g,j,k,f,t,dC,eA,fy,bK,bG,bL,eL,reduceCtorEq,eR,aP,aL,W,p,A,hF,nT,iC,ji e.fZ,eB,eH,w,q,cI,cZ,fa,dE,bI,aJ,aK,gm,cY,y,yc];exact .some (.inl ⟨rfl,z - 1,by omega,rfl,_,_,_,_,_,_,b+1,rfl,by omega,c⟩)
  ·intro l;have l:e.ls.length≤b:=by
    have:¬(b:Int)<e.ls.length:=by simpa using l
    omega
   rw[nK l]at c;exact .some (.inr ⟨by simp,rfl,.inl ⟨rfl,c.symm⟩⟩)
 ·rintro⟨ai,D,o⟩ ⟨N,P⟩;simp only at N P;subst N;rcases P with⟨rfl,rfl⟩|⟨rfl,ae⟩
  ·simp only[dV,cL,W,bR];exact .some rfl
  ·simp only[mw,mv,l7,bD,W,ae,bR];exact .some rfl
def iF(x y:aD × aD):Prop:=Op.bytesLess x.1 y.1=true
theorem BI{x y:aD × aD}(h:iF x y):jv x y:=by
 rw[tV];cases a:Op.bytesLess y.1 x.1
 ·rfl
 ·have:=s4 h a;rw[s0]at this;cases this
theorem Te{C:List (aD × aD)}(h:C.Pairwise iF):iM C=false:=by
 rw[uB (h.imp BI),List.Nodup,List.pairwise_map];exact h.imp λ{a b} c d=>by
  have:Op.bytesLess a.1 b.1=true:=c;rw[d,s0]at this;cases this
theorem Vz{l C:List (aD × aD)}(g:C.Perm l)(c:C.Pairwise iF)(h:l.length≤32)(f:l.all (λp=>gK p.1)=true):eN l=(0,C):=by
 obtain⟨a,d⟩:=JM g (c.imp BI);have b:=Te c;have e:¬32<l.length:=by omega
 rw[d b];rw[b]at a;simp only[eN,e,aL,f,aJ,← a,aP]
theorem VB{l:List (aD × aD)}(g:l.length≤32)(f:l.all (λp=>gK p.1)=true)(e:¬(l.map Prod.fst).Nodup):eN l=(7,[]):=by
 obtain⟨b,c⟩:=JQ l;have:iM (jB l)=true:=by
  cases a:iM (jB l)
  ·rw[uB c,(b.map Prod.fst).nodup_iff]at a;exact absurd a e
  ·rfl
 have d:¬32<l.length:=by omega
 simp only[eN,d,aL,f,aJ,this]
theorem RD(l:List (aD × aD))(d:D)(h:J)(w:aR 2 aN l d)(M:l.length≤32)(G:∀p∈l,p.1.length≤9223372036854775807){E:Type}{k:bN→Option E}{Q:E→Prop}(a b I K:D)
  (C:l.all (λp=>gK p.1)=true→∀x y z,Wp (k (.ext 0,[a,b,x,y,z],h)) Q) (k2:¬l.all (λp=>gK p.1)=true→∀x y z,Wp (k (.ret,[.aB,.int .i64 6,x,y,z],h)) Q) :
  Wp ((cA (xD d) [a,b,.int .i64 0,I,K] h).bind k) Q:=by
 generalize F:l.all (λp=>gK p.1)=m at C k2;refine Wp.loop (λq n j=>j=h∧∃r s,∃c:Nat,n=[a,b,.int .i64 c,r,s]∧q+c=l.length∧(l.drop c).all (λp=>gK p.1)=m)
   (λx=>x.2.2=h∧((x.1 = .ext 0∧m=true∧∃p g i,x.2.1=[a,b,p,g,i])∨(x.1 = .ret∧m=false∧∃p g i,x.2.1=[.aB,.int .i64 6,p,g,i]))) l.length ⟨rfl,_,_,0,rfl,rfl,F⟩ ?_ ?_
 ·rintro q n j ⟨rfl,r,s,c,rfl,L,e⟩;simp only[xD,bD,bY,W,aU,iD w,cI];refine Wp.dS ?_ ?_
  ·intro f;have f:c<l.length:=gS f;have B:l[c]?=some l[c]:=cJ f;have H:=fD c (by omega);have v:=G l[c] (ou _);rw[ia f]at e;generalize l[c]=x at B e v;simp only[oX w,pL,aJ,dY,B,fW,W,rE x,rF,Uy x.1 j v,fK];simp only[u1]at e;cases A:gK x.1
   ·rw[A]at e;simp only[fO,aK,aJ];exact .some (.inr ⟨by simp,rfl,.inr ⟨rfl,e.symm,_,_,_,rfl⟩⟩)
   ·rw[A]at e;simp only[eY,aK,aP,aL,cY,W,H];exact .some (.inl ⟨rfl,q - 1,by omega,rfl,_,_,c+1,rfl,by omega,e⟩)
  ·intro f;have f:l.length≤c:=by
    have:¬(c:Int)<l.length:=by simpa using f
    omega
   rw[nK f]at e;exact .some (.inr ⟨by simp,rfl,.inl ⟨rfl,e.symm,_,_,_,rfl⟩⟩)
 ·rintro⟨x,n,j⟩ ⟨t,u⟩;simp only at t u;subst t;rcases u with⟨rfl,o,p,g,i,rfl⟩|⟨rfl,o,p,g,i,rfl⟩
  ·exact C o _ _ _
  ·exact k2 (by rw[o];simp[-Xm]) _ _ _
theorem RE (l:List (aD × aD)) (d:D) (P:aR 2 aN l d) (G:List D) (i:Nat) (x:aD × aD) (af:l[i]?=some x) (X:Z 3 G = .int .i64 (i:Int)) (a:List (aD × aD)) (av:a.length≤1000) (e:Nat) (g:J) (R:g[e]?=some (.row bB 2 ((a++[x]).map aN))) (b:D) {M:Type} {f:bN→Option M} {Q:M→Prop}
  (N:∀(k:Nat) (z:aD × aD) (g':J) (v:D),k≤a.length→g'[e]?=some (.row bB 2 ((a.take k++z::a.drop k).map aN))→bW e g g'→(k=0∨∃y,a[k - 1]?=some y∧¬iF x y)→(∀j y,k≤j→a[j]?=some y→iF x y)→Wp (f (.ext 4,[.int .i64 (k:Int),v],g')) Q) :
  Wp ((cA (xE d G (.aO 2 e 0 (a.length+1))) [.int .i64 (a.length:Int),b] g).bind f) Q:=by
 refine Wp.loop (λh u g'=>∃F z,u=[.int .i64 (h:Int),F]∧h≤a.length∧g'[e]?=some (.row bB 2 ((a.take h++z::a.drop h).map aN))∧bW e g g'∧∀j y,h≤j→a[j]?=some y→iF x y)
  (λs=>s.1 = .ext 4∧∃(k:Nat) (z:aD × aD) (v:D),s.2.1=[.int .i64 (k:Int),v]∧k≤a.length∧s.2.2[e]?=some (.row bB 2 ((a.take k++z::a.drop k).map aN))∧bW e g s.2.2∧(k=0∨∃y,a[k - 1]?=some y∧¬iF x y)∧(∀j y,k≤j→a[j]?=some y→iF x y)) a.length
  ⟨_,x,rfl,aX _,by rw[j9,pO];exact R,.refl _ _,λj y ab m=>by have:=(bO.1 m).1;omega⟩ ?_ ?_
 ·rintro h u g' ⟨F,z,rfl,ad,n,sm,A⟩;have aa:aQ tab bM d (.int .i64 (i:Int))=some (.aI (aN x)):=by rw[oX P];simp[-Xm,af]
  simp only[xE,bD,bY,W,aU,X,cZ];by_cases O:h=0
  ·subst O;have t:decide (((0:Nat):Int)>0)=false:=gR (by omega);simp only[t,bL,eL,reduceCtorEq,aL,aJ,W,bI,aP,aK];exact .some (.inr ⟨by simp,rfl,0,z,_,rfl,by omega,n,sm,.inl rfl,A⟩)
  ·obtain ⟨c,rfl⟩:∃c,h=c+1:=⟨h - 1,by omega⟩
   have t:decide (((c+1:Nat):Int)>0)=true:=hh (by omega);have E:IntKind.wrap .i64 (((c+1:Nat):Int) - 1)=(c:Int):=by rw[cN (by omega) (by omega)];omega
   obtain⟨y,m⟩:∃y,a[c]?=some y:=⟨_,cJ (by omega)⟩
   have H:(a.take (c+1)).length=c+1:=by simp;omega
   have I:((a.take (c+1)++z::a.drop (c+1)).map aN)[c]?=some (aN y):=by
    rw[dH,eV (by omega),fF,bE (by omega),m];rfl
   have ag:((a.take (c+1)++z::a.drop (c+1)).map aN)[c+1]?=some (aN z):=by
    rw[dH,j4 _ _ z _ H];rfl
   have K:aQ tab bM (.aO 2 e 0 (a.length+1)) (.int .i64 (c:Int))=some (.ptr e c 0):=by rw[n4,bE (by omega)];simp[-Xm]
   have ah:aQ tab bM (.aO 2 e 0 (a.length+1)) (.int .i64 ((c+1:Nat):Int))=some (.ptr e (c+1) 0):=by rw[n4,bE (by omega)];simp[-Xm]
   have an:aA tab g' bP (.ptr e c 0)=some (.str y.1):=by rw[lI,dT n,I];rfl
   have ao:aA tab g' bB (.ptr e c 0)=some (.agg (aN y)):=by rw[BA,dT n,I];rfl
   simp only[t,bL,aJ,W,eH,E,K,yZ,an,aa,rE x,rF,Vp,bI];by_cases o:iF x y
   ·have B:(!(Op.bytesLess y.1 x.1||y.1==x.1))=true:=by
      have q:Op.bytesLess x.1 y.1=true:=o;have w:Op.bytesLess y.1 x.1=false:=(tV x y).1 (BI o);have r:(y.1==x.1)=false:=by
       cases C:(y.1==x.1)
       ·rfl
       ·rw[eq_of_beq C,s0]at q;cases q
      rw[w,r];rfl
    simp only[B,aK,aJ,eH,E,K,ao,ah,W,aU];refine nE (off:=0) n ag (by rfl) (by exact aX _) (by rfl) λau L ap=>?_
    have ae:((a.take (c+1)++z::a.drop (c+1)).map aN).set (c+1) (dQ (aN z) 0 (cP (.agg (aN y))))=(a.take c++y::a.drop c).map aN:=by
     rw[show dQ (aN z) 0 (cP (.agg (aN y)))=aN y from rfl,← kQ,oe _ _ z y _ H,vB m,gA,m];simp[-Xm]
    rw[ae]at L
    try simp only[W,eH,E]
    exact .some (.inl ⟨rfl,c,by omega,_,y,rfl,by omega,L,sm.trans ap,λj aq ab p=>by
     by_cases ac:j=c
     ·subst ac;rw[m]at p;injection p with p;subst p;exact o
     ·exact A j aq (by omega) p⟩)
   ·have B:(!(Op.bytesLess y.1 x.1||y.1==x.1))=false:=by
      by_cases r:y.1=x.1
      ·have:(y.1==x.1)=true:=by simpa using r
       rw[this];simp[-Xm]
      ·have q:Op.bytesLess x.1 y.1=false:=by
         cases C:Op.bytesLess x.1 y.1
         ·rfl
         ·exact absurd C o
       have w:=s3 q (λT=>r T.symm);rw[w];rfl
    simp only[B,aK,aP,aL];exact .some (.inr ⟨by simp,rfl,c+1,z,_,rfl,ad,n,sm,.inr ⟨y,by simpa using m,o⟩,A⟩)
 ·rintro⟨ar,u,g'⟩ ⟨rfl,k,z,v,rfl,ai,aj,ak,al,am⟩;exact N k z g' v ai aj ak al am
theorem Td{x y z:aD × aD}(h:iF x y)(k:iF y z):iF x z:=s4 h k
theorem Hc{b:List (aD × aD)}{y:aD × aD}{k:Nat}(h:b.Pairwise iF)(o:k=0∨∃z,b[k - 1]?=some z∧iF z y)(h2:∀j z,k≤j→b[j]?=some z→iF y z):(b.take k++y::b.drop k).Pairwise iF:=by
 rw[jT];have g:=h;rw[← jU k b,jT]at g;have s:∀c∈b.take k,iF c y:=by
  intro c e;rcases o with rfl|⟨z,i,l⟩
  ·simp at e
  ·obtain⟨j,a⟩:=lv e;rw[fF]at a;split at a
   ·rename_i u;by_cases p:j=k - 1
    ·subst p;rw[i]at a;injection a with a;subst a;exact l
    ·obtain⟨q,m⟩:=bO.1 a;obtain⟨r,n⟩:=bO.1 i;have:=yh.1 h j (k - 1) q r (by omega);rw[m,n]at this;exact Td this l
   ·cases a
 have t:∀d∈b.drop k,iF y d:=by
  intro d f;obtain⟨j,a⟩:=lv f;rw[kt]at a;exact h2 (k+j) d (by omega) a
 refine⟨g.1,jn.2 ⟨t,g.2.1⟩,λc e d f=>?_⟩;rcases dW.1 f with rfl|f
 ·exact s c e
 ·exact g.2.2 c e d f
theorem MD{l:List (aD × aD)}{i:Nat}{y z:aD × aD}(d:l[i]?=some y)(e:z∈l.take i)(c:z.1=y.1):¬(l.map Prod.fst).Nodup:=by
 intro a;have b:l=l.take i++y::l.drop (i+1):=by
  rw[← vB d,jU]
 rw[b,fV,gO,yg]at a;exact a.2.2 z.1 (e8.2 ⟨z,e,rfl⟩) y.1 (by simp) c
theorem Ux (l:List (aD × aD)) (d:D) (h:J) (v:aR 2 aN l d) (a4:∀p∈l,p.1.length≤9223372036854775807):∃d',R vM [d] h=some (.bZ [d',.int .i64 (eN l).1],h)∧((eN l).1=0→aR 2 aN (eN l).2 d'):=by
 suffices Wp (R vM [d] h) (λp=>p.2=h∧∃d',p.1 = .bZ [d',.int .i64 (eN l).1]∧((eN l).1=0→aR 2 aN (eN l).2 d')) by
  obtain⟨⟨j,bu⟩,C,rfl,d',rfl,T⟩:=this;exact⟨d',C,T⟩
 have ag:∀(g:J) (P:Int),h.length≤g.length→(∀e,e<h.length→g[e]?=h[e]?)→scope h g (.bZ [.aB,.int .i64 P])=some (.bZ [.aB,.int .i64 P],h):=λg P C T=>iu (by simp) (.bZ _ λj H=>by
  simp only[dW,kS,iS]at H;rcases H with rfl|rfl
  ·exact .aB
  ·exact .int _ _) C T
 rw[MN];by_cases an:32<l.length
 ·have X:decide ((l.length:Int)>32)=true:=hh (by omega);have k:eN l=(4,[]):=by simp only[eN,an,aJ]
  rw[k];simp only[xC,W,aU,iD v,cZ,X,aK,aJ,jK,ag h 4 (aX _) (λ_ _=>rfl)];exact .some ⟨rfl,.aB,rfl,λu=>by cases u⟩
 have X:decide ((l.length:Int)>32)=false:=gR (by omega);simp only[xC,W,aU,iD v,cZ,X,aK,aP,aL];refine RD l d h v (by omega) a4 _ _ _ _ (λN j b r=>?_) (λN j b r=>?_)
 case refine_2 =>
  have k:eN l=(6,[]):=by simp only[eN,an,aL,N];rfl
  rw[k];simp only[mw,mv,l7,bD,bY,W,jK,ag h 6 (aX _) (λ_ _=>rfl)];exact .some ⟨rfl,.aB,rfl,λu=>by cases u⟩
 simp only[dV,cL,bD,bY,W,aU];clear j b r;refine Wp.loop (λO s g=>h.length≤g.length∧(∀e,e<h.length→g[e]?=h[e]?)∧∃w x j y z A K,∃(i:Nat) (a:List (aD × aD)),s=[w,x,j,.int .i64 (i:Int),y,z,A,K]∧O+i=l.length∧Own g h.length bB 2 (a.map aN) j∧a.Perm (l.take i)∧a.Pairwise iF)
   (λf=>h.length≤f.2.2.length∧(∀e,e<h.length→f.2.2[e]?=h[e]?)∧((f.1 = .ext 2∧∃a:List (aD × aD),Own f.2.2 h.length bB 2 (a.map aN) (Z 2 f.2.1)∧eN l=(0,a))∨(f.1 = .ret∧Z 0 f.2.1 = .aB∧Z 1 f.2.1 = .int .i64 7∧eN l=(7,[])))) l.length
   ⟨aX _,λ_ _=>rfl,_,_,_,_,_,_,_,0,[],rfl,rfl,Own.aB _ _ _ _,by simp,List.Pairwise.nil⟩ ?_ ?_
 ·rintro O s g ⟨E,F,w,x,j,y,z,A,K,i,a,rfl,bw,I,G,k⟩;simp only[De,bD,bY,W,aU,iD v,cI];refine Wp.dS ?_ ?_
  ·intro t;have t:i<l.length:=gS t;obtain⟨b,m⟩:=iR t;have au:=fD i (by omega);have bv:a.length=i:=by rw[G.length_eq,lV];omega
   have a9:bJ tab bM 1 [0] [.agg (aN b)]=some (.sl 2 true [aN b]):=id rfl;have ac:aQ tab bM d (.int .i64 (i:Int))=some (.aI (aN b)):=by rw[oX v];simp[-Xm,m]
   simp only[R6 I,eQ,ac,W,tq,a9,aU];refine xm E I (iq _ _ _ _) (by simp only[eQ,eP,eJ];omega) λb1 a2 az bz a1 _ _=>?_
   have bc:a.map aN++[aN b]=(a++[b]).map aN:=by simp
   rw[bc]at az;obtain⟨q,ba,rfl,a6⟩:=BZ az (i:=0) (by simp);have a7:((a++[b]).map aN).length=a.length+1:=by simp
   rw[a7]
   try simp only[W]
   refine RE l d v [w,x,j,.int .i64 (i:Int),y,z,A,K] i b m rfl a (by omega) q a2 a6 _ λc r bt P bx bn aw bo ax=>?_
   have ar:(a.take c).length=c:=by simp;omega
   have bk:((a.take c++r::a.drop c).map aN)[c]?=some (aN r):=by rw[dH,j4 _ _ r _ ar];rfl
   have bl:aQ tab bM (.aO 2 q 0 (a.length+1)) (.int .i64 (c:Int))=some (.ptr q c 0):=by rw[n4,bE (by omega)];simp[-Xm]
   simp only[dV,cL,W,bD,bY,aU,ac,tq,bl];refine nE (off:=0) bn bk (by rfl) (by exact aX _) (by rfl) λB af a0=>?_
   rw[show dQ (aN r) 0 (cP (.agg (aN b)))=aN b from rfl,← kQ,oe _ _ r b _ ar]at af;have a8:(a.take c++b::a.drop c).length=a.length+1:=by
    have:=gi List.length (jU c a);simp only[dL,eP]at this ⊢;omega
   have bq:Own B h.length bB 2 ((a.take c++b::a.drop c).map aN) (.aO 2 q 0 (a.length+1)) :=.inr ⟨q,ba,by rw[eQ,a8],af⟩;have ao:h.length≤B.length:=by have:=a0.1;have:=aw.1;omega
   have ap:∀e,e<h.length→B[e]?=h[e]?:=λe M=>by rw[a0.2 e (by omega),aw.2 e (by omega),a1 e M];exact F e M
   have bb:(a.take c++b::a.drop c).Perm (l.take (i+1)):=by
    rw[gA,m,Option.toList_some];refine List.perm_middle.trans ?_;rw[jU];exact(List.Perm.cons b G).trans (by simpa using(yi (l₁:=[b]) (l₂:=l.take i)))
   have ay:(a.take c++b::a.drop c).Pairwise iF→∀(ah ai aj ak al am:D),(λf:bN=>(f.1 = .aS∧∃av ,av<O∧h.length≤f.2.2.length∧(∀e,e<h.length→f.2.2[e]?=h[e]?)∧∃w x j y z A K,∃(i:Nat) (a:List (aD × aD)),f.2.1=[w,x,j,.int .i64 (i:Int),y,z,A,K]∧av+i=l.length∧Own f.2.2 h.length bB 2 (a.map aN) j∧a.Perm (l.take i)∧a.Pairwise iF)) (.aS,[ah,ai,.aO 2 q 0 (a.length+1),.int .i64 ((i+1:Nat):Int),aj,ak,al,am],B):=λbd ah ai aj ak al am=>⟨rfl,O - 1,by omega,ao,ap,_,_,_,_,_,_,_,i+1,_,rfl,by omega,bq,bb,bd⟩
   try simp only[W,cZ,aU]
   by_cases aq:c=0
   ·subst aq;have Q:decide (((0:Nat):Int)>0)=false:=gR (by omega);simp only[Q,bL,eL,reduceCtorEq,aL,aJ,W,bI,aP,aK,cY,au];exact .some (.inl (ay (Hc k (.inl rfl) ax) _ _ _ _ _ _))
   ·obtain⟨o,ad,bh⟩:=bo.resolve_left aq;have Q:decide ((c:Int)>0)=true:=hh (by omega);have bf:IntKind.wrap .i64 ((c:Int) - 1)=((c - 1:Nat):Int):=by rw[cN (by omega) (by omega)];omega
    have bm:aQ tab bM (.aO 2 q 0 (a.length+1)) (.int .i64 ((c - 1:Nat):Int))=some (.ptr q (c - 1) 0):=by rw[n4,bE (by omega)];simp[-Xm]
    have bi:((a.take c++b::a.drop c).map aN)[c - 1]?=some (aN o):=by
     rw[dH,eV (by omega),fF,bE (by omega),ad];rfl
    have bp:aA tab B bP (.ptr q (c - 1) 0)=some (.str o.1):=by rw[lI,dT af,bi];rfl
    simp only[Q,bL,aJ,W,eH,bf,bm,yZ,bp,ac,rE b,rF,nQ,bI];by_cases L:o.1=b.1
    ·have ab:(o.1==b.1)=true:=by simpa using L
     have bg:o∈l.take i:=G.mem_iff.1 (eS ad);have a5:=VB (l:=l) (by omega) N (MD m bg L);simp only[ab,aK,aJ];exact .some (.inr ⟨by simp,ao,ap,.inr ⟨rfl,rfl,rfl,a5⟩⟩)
    ·have ab:(o.1==b.1)=false:=by simpa using L
     have bj:iF o b:=by
      have C:Op.bytesLess b.1 o.1=false:=by
       cases M:Op.bytesLess b.1 o.1
       ·rfl
       ·exact absurd M bh
      exact s3 C (λu=>L u.symm)
     simp only[ab,aK,aP,aL,cY,au,W];exact .some (.inl (ay (Hc k (.inr ⟨o,ad,bj⟩) ax) _ _ _ _ _ _))
  ·intro t;have t:l.length≤i:=by
    have:¬(i:Int)<l.length:=by simpa using t
    omega
   rw[iz t]at G;exact .some (.inr ⟨by simp,E,F,.inl ⟨rfl,a,I,Vz G k (by omega) N⟩⟩)
 ·rintro ⟨br,s,g⟩ ⟨E,F,a3⟩;rcases a3 with⟨rfl,a,I,aa⟩|⟨rfl,n0,ae,aa⟩
  ·have k:=jy (n0:=h.length) (n:=2) I (aX _) λp _ b m=>by
     simp only[aN,dW,kS,iS]at m;rcases m with rfl|rfl<;>exact Qf _ _ _ _
   have be:scope h g (.bZ [Z 2 s,.int .i64 0])=some (.bZ [cV h.length g 3 (Z 2 s),.int .i64 0],h):=by
    refine iu (by simp) (.bZ _ λj H=>?_) E F;simp only[dW,kS,iS]at H;rcases H with rfl|rfl
    ·exact jA k λp _ b m=>by
       simp only[aN,dW,kS,iS]at m;rcases m with rfl|rfl<;>exact .str _
    ·exact .int _ _
   simp only[dV,cL,W,bD,bY,jK,be,aa];exact .some ⟨rfl,_,rfl,λ_=>k⟩
  ·replace n0:Z 0 s = .aB:=n0;replace ae:Z 1 s = .int .i64 7:=ae;simp only[mw,mv,l7,bD,bY,W,n0,ae,jK,ag g 7 E F,aa];exact .some ⟨rfl,.aB,rfl,λu=>by cases u⟩
theorem RC(l:List (aD × aD))(d:D)(h:J)(v:aR 2 aN l d)(N:l.length≤1000){C:Type}{j:bN→Option C}{Q:C→Prop}(a K L:D)
  (B:(l.any λp=>decide (2000<p.2.length))=false→∀x y z,Wp (j (.ext 0,[a,x,y,z],h)) Q) (k2:(l.any λp=>decide (2000<p.2.length))=true→∀x y z,Wp (j (.ret,[.int .i64 3,x,y,z],h)) Q) :
  Wp ((cA (xB d) [a,.int .i64 0,K,L] h).bind j) Q:=by
 generalize F:(l.any λp=>decide (2000<p.2.length))=k at B k2;refine Wp.loop (λq m i=>i=h∧∃r s,∃b:Nat,m=[a,.int .i64 (b:Int),r,s]∧q+b=l.length∧((l.drop b).any λp=>decide (2000<p.2.length))=k)
   (λx=>x.2.2=h∧((x.1 = .ext 0∧k=false∧∃p f g,x.2.1=[a,p,f,g])∨(x.1 = .ret∧k=true∧∃p f g,x.2.1=[.int .i64 3,p,f,g]))) l.length ⟨rfl,_,_,0,rfl,rfl,F⟩ ?_ ?_
 ·rintro q m i ⟨rfl,r,s,b,rfl,M,c⟩;simp only[xB,bD,bY,W,aU,iD v,cI];refine Wp.dS ?_ ?_
  ·intro e;have e:b<l.length:=gS e;obtain⟨x,A⟩:=iR e;have H:=fD b (by omega);rw[vB A]at c;have G:aQ tab bM d (.int .i64 (b:Int))=some (.aI (aN x)):=by rw[oX v];simp[-Xm,A]
   have E:aC tab bB 1 (.aI (aN x))=some (.aI [.str x.2]):=id rfl;have I:aA tab i bP (.aI [.str x.2])=some (.str x.2):=id rfl;simp only[G,E,I,W,gm,cZ];simp only[List.any_cons]at c;by_cases w:2000<x.2.length
   ·have n:(x.2.length:Int)>2000:=by omega
    simp only[w,bK,Bool.true_or]at c;simp only[n,bK,aK,aJ];exact .some (.inr ⟨by simp,rfl,.inr ⟨rfl,c.symm,_,_,_,rfl⟩⟩)
   ·have n:¬(x.2.length:Int)>2000:=by omega
    simp only[w,bG,qL]at c;simp only[n,bG,aK,aP,aL,cY,W,H];exact .some (.inl ⟨rfl,q - 1,by omega,rfl,_,_,b+1,rfl,by omega,c⟩)
  ·intro e;have e:l.length≤b:=by
    have:¬(b:Int)<l.length:=by simpa using e
    omega
   rw[nK e]at c;exact .some (.inr ⟨by simp,rfl,.inl ⟨rfl,c.symm,_,_,_,rfl⟩⟩)
 ·rintro⟨x,m,i⟩ ⟨t,u⟩;simp only at t u;subst t;rcases u with⟨rfl,o,p,f,g,rfl⟩|⟨rfl,o,p,f,g,rfl⟩
  ·exact B o _ _ _
  ·exact k2 o _ _ _
def lz(e:Ev):Prop:=∀a∈e.fs,a.1.length≤9223372036854775807
theorem Uv(e:Ev)(h:J)(I:lz e):R zd [.agg (bV e)] h=some (.int .i64 (nR e),h):=by
 apply Wp.val;have L:aC tab aG 5 (.aI (bV e))=some (.aI [.int .i64 e.a5,.int .i64 e.a6,.str e.s7,.str e.s8,e.fd]):=id rfl;have M:aC tab aG 6 (.aI (bV e))=some (.aI [.int .i64 e.a6,.str e.s7,.str e.s8,e.fd]):=id rfl;have N:aC tab aG 7 (.aI (bV e))=some (.aI [.str e.s7,.str e.s8,e.fd]):=id rfl;have P:aC tab aG 8 (.aI (bV e))=some (.aI [.str e.s8,e.fd]):=id rfl;have Q:aC tab aG 9 (.aI (bV e))=some (.aI [e.fd]):=id rfl;have K:∀a,aA tab a bM (.aI [e.fd])=some e.fd:=λa=>by
  have w:=qC e.gk;generalize e.fd=F at w;cases F<;>first|rfl|(simp[-Xm,D.one]at w)
 have x:∀a,aA tab a aG (.aI (bV e))=some (.agg (bV e)):=λa=>id rfl
 rw[MI];simp only[C9,jj,W,aU,x,Jk,L,M,N,P,Q];unfold nR;by_cases b:fh e=true
 case neg =>
  have G:fh e=false:=by simpa using b
  simp only[G,aP,aL,dE,dC,show ¬(2:Int)=0 by omega,fy,bK,bL,eL,reduceCtorEq,eR,W,bI,aJ,aK,fO,Bool.true_or,bR];exact .some rfl
 by_cases f:e.a5<0
 ·have c:¬0≤e.a5:=by omega
  simp only[b,f,c,aJ,dE,dC,eA,bK,bG,bL,eL,eB,cI,reduceCtorEq,eR,aP,aL,W,bI,aK,eY,lS,fO,Bool.or_true,bR];exact .some rfl
 have c:0≤e.a5:=by omega
 by_cases q:253402300799999<e.a5
 ·have g:¬e.a5≤253402300799999:=by omega
  simp only[b,f,c,q,g,aJ,dE,dC,eA,bK,bG,bL,eL,eB,cI,cZ,reduceCtorEq,eR,aP,aL,W,bI,aK,eY,uL,fO,Bool.or_true,bR,wx];exact .some rfl
 have g:e.a5≤253402300799999:=by omega
 simp only[b,f,c,q,g,aJ,dE,dC,eA,bK,bG,bL,eL,eB,cI,cZ,reduceCtorEq,eR,aP,aL,W,bI,aK,eY,Bool.and_true,Bool.or_self,uM,wx,Uw,fK,aU];by_cases r:e.a6<1∨¬Int.tmod 5040 e.a6=0
 ·simp only[r,eA,bG,fO,aJ,bR];exact .some rfl
 simp only[r,fy,bK,eY,aP,aL,x,Jl,W,dE,dC];generalize ab:gL e 2000=C;by_cases s:C=0
 case neg =>
  simp only[s,fy,bK,aJ,bR];exact .some rfl
 subst s;simp only[eA,bG,aP,aL,ik,gm,W,cZ,wx];by_cases i:32<e.s7.length
 ·have d:(32:Int)<(e.s7.length:Int):=by omega
  simp only[i,d,kH,bK,aJ,bL,eL,reduceCtorEq,aL,eR,W,bI,aK,bR];exact .some rfl
 have d:¬(32:Int)<(e.s7.length:Int):=by omega
 by_cases t:32<e.s8.length
 ·have j:(32:Int)<(e.s8.length:Int):=by omega
  simp only[i,d,t,j,nv,bK,bG,aJ,bL,aL,aP,W,ik,gm,cZ,wx,bI,aK,bR];exact .some rfl
 have j:¬(32:Int)<(e.s8.length:Int):=by omega
 obtain⟨v,y,n⟩:=Ux e.fs e.fd h e.gk I;simp only[i,d,t,j,nu,bG,aJ,bL,aL,aP,W,ik,gm,cZ,wx,bI,aK,K,y,jd,iZ,j8,dE,dC];have z:=JK e.fs;have l:(eN e.fs).1=0→(eN e.fs).2.length≤1000:=λH=>by
  unfold eN at H ⊢;split
  ·simp[-Xm]
  ·split
   ·split
    ·simp[-Xm]
    ·simp only[JP];omega
   ·simp[-Xm]
 generalize ac:eN e.fs=E at y n z l;obtain⟨S,B⟩:=E;simp only at n z l ⊢;by_cases u:S=0
 case neg =>
  simp only[u,fy,bK,aJ,bR];exact .some rfl
 subst u;have m:=n rfl;have A:=l rfl;simp only[eA,bG,aP,aL,W,Jy B e.fs v e.fd h m e.gk (by omega),fK,aU];by_cases k:B=e.fs
 case neg =>
  simp only[k,bG,fO,aJ,fy,bR];exact .some rfl
 simp only[k,bK,eY,aP,aL,eA];rw[k]at m A;refine RC e.fs v h m A _ _ _ (λo T X aa=>?_) (λo T X aa=>?_)
 ·simp only[dV,cL,W,bR,o,aP,aL];exact .some rfl
 ·simp only[mw,mv,l7,bD,W,bR,o,aJ];exact .some rfl
theorem BF(t m:Int):∀(l:List dJ) (a:Int),iE t m a l=0∨iE t m a l=3∨iE t m a l=19
 |[],a =>.inl rfl
 | x::r,a=>by
  unfold iE;split
  ·split
   ·exact .inr (.inl rfl)
   ·exact BF t m r _
  ·exact .inr (.inr rfl)
theorem HZ(t:Int):∀(l:List dJ) (a:Int),(∀x∈l,x.eD.length≤20000)→iE t 20000 a l=iE t 60000 a l
 |[],a,_=>rfl
 | x::r,a,h=>by
  have g:=h x (by simp);have b:=HZ t r (IntKind.wrap .i64 (a+x.len)) λf e=>h f (by simp[-Xm,e])
  have c:¬(20000:Int)<(x.eD.length:Int):=by omega
  have d:¬(60000:Int)<(x.eD.length:Int):=by omega
  simp only[iE,b,c,d,aL]
def Bq(i:It):Int:=
 if i.r=[]then nR i.e
 else if 32<i.r.length then 3
 else if fh i.e=false then 2
 else if gL i.e 20000≠0∧gL i.e 20000≠3 then gL i.e 20000
 else if i.e.a5≠0∨i.e.a6≠0∨i.e.s7≠[]∨i.e.s8≠[]∨i.e.fs.length≠0∨(i.e.ls.any λa => !(a.eD==[]))=true then 19 else 0
theorem Rl(i:It):Bq i=gT i:=by
 unfold Bq gT;by_cases a:i.r=[]
 ·simp only[a,aJ]
 by_cases d:32<i.r.length
 ·simp only[a,d,aJ,aL]
 by_cases h:fh i.e=false
 ·simp only[a,d,h,aJ,aL]
 simp only[a,d,h,aL];unfold gL;by_cases f:i.e.ls.length=0
 ·simp[-Xm,f]
 by_cases j:40<i.e.ls.length
 ·simp[-Xm,f,j]
 simp only[f,j,aL];have n:=BF i.e.a3 20000 i.e.ls i.e.a2;have b:=BF i.e.a3 60000 i.e.ls i.e.a2;by_cases m:∀c∈i.e.ls,c.eD.length≤20000
 ·rw[HZ i.e.a3 i.e.ls i.e.a2 m];generalize iE i.e.a3 60000 i.e.a2 i.e.ls=o at b ⊢;rcases b with rfl|rfl|rfl<;>simp[-Xm]
 ·have l:(i.e.ls.any λg => !(g.eD==[]))=true:=by
    rw[ye];refine mA λp=>m λc s=>?_
    refine mA λk=>p ⟨c,s,?_⟩
    cases q:c.eD with
    |nil=>rw[q]at k;simp at k
    |cons u v=>rfl
  generalize (i.e.ls.any λg => !(g.eD==[]))=w at l ⊢;subst l;generalize iE i.e.a3 60000 i.e.a2 i.e.ls=o at b ⊢;generalize iE i.e.a3 20000 i.e.a2 i.e.ls=t at n ⊢;rcases b with rfl|rfl|rfl<;>rcases n with rfl|rfl|rfl<;>simp[-Xm]
theorem Rz(e:Ev)(h:J){w:Type}{k:bN→Option w}{Q:w→Prop}(a H I:D)
  (u:(e.ls.any λp => !(p.eD==[]))=false→∀x y z,Wp (k (.ext 0,[a,x,y,z],h)) Q) (k2:(e.ls.any λp => !(p.eD==[]))=true→∀x y z,Wp (k (.ret,[.int .i64 19,x,y,z],h)) Q) :
  Wp ((cA (xx (.aI (bV e))) [a,.int .i64 0,H,I] h).bind k) Q:=by
 have G:aC tab aG 4 (.aI (bV e))=some (.aI [e.ld,.int .i64 e.a5,.int .i64 e.a6,.str e.s7,.str e.s8,e.fd]):=id rfl;have L:=e.rW;generalize B:(e.ls.any λp => !(p.eD==[]))=l at u k2;refine Wp.loop (λo m j=>j=h∧∃v q,∃b:Nat,m=[a,.int .i64 (b:Int),v,q]∧o+b=e.ls.length∧((e.ls.drop b).any λp => !(p.eD==[]))=l)
   (λx=>x.2.2=h∧((x.1 = .ext 0∧l=false∧∃p g i,x.2.1=[a,p,g,i])∨(x.1 = .ret∧l=true∧∃p g i,x.2.1=[.int .i64 19,p,g,i]))) e.ls.length ⟨rfl,_,_,0,rfl,rfl,B⟩ ?_ ?_
 ·rintro o m j ⟨rfl,v,q,b,rfl,K,c⟩;simp only[xx,bD,bY,W,aU,G,iC,ji e.fZ,cI];refine Wp.dS ?_ ?_
  ·intro d;have d:b<e.ls.length:=gS d;obtain⟨x,t⟩:=iR d;have E:=fD b (by omega);rw[vB t]at c;have C:aQ tab bA e.ld (.int .i64 (b:Int))=some (.aI (bC x)):=by rw[mc e.fZ];simp[-Xm,t]
   have A:aC tab bS 2 (.aI (bC x))=some (.aI [.str x.eD]):=id rfl;have F:aA tab j bP (.aI [.str x.eD])=some (.str x.eD):=id rfl;simp only[C,A,F,W,lC];simp only[List.any_cons]at c;by_cases f:(x.eD==[])=true
   ·simp only[f,eY,qL]at c;simp only[f,eY,aK,aP,aL,cY,W,E];exact .some (.inl ⟨rfl,o - 1,by omega,rfl,_,_,b+1,rfl,by omega,c⟩)
   ·have f:(x.eD==[])=false:=by simpa using f
    simp only[f,fO,Bool.true_or]at c;simp only[f,fO,aK,aJ];exact .some (.inr ⟨by simp,rfl,.inr ⟨rfl,c.symm,_,_,_,rfl⟩⟩)
  ·intro d;have d:e.ls.length≤b:=by
    have:¬(b:Int)<e.ls.length:=by simpa using d
    omega
   rw[nK d]at c;exact .some (.inr ⟨by simp,rfl,.inl ⟨rfl,c.symm,_,_,_,rfl⟩⟩)
 ·rintro⟨x,m,j⟩ ⟨r,s⟩;simp only at r s;subst r;rcases s with⟨rfl,n,p,g,i,rfl⟩|⟨rfl,n,p,g,i,rfl⟩
  ·exact u n _ _ _
  ·exact k2 n _ _ _
theorem Ji(i:It)(h:J)(M:lz i.e):R vJ [.agg (aE i)] h=some (.int .i64 (gT i),h):=by
 rw[← Rl];apply Wp.val;have N:gY 10 (.agg (bV i.e))=some (.aI (bV i.e)):=mP 10 _ rfl;have Q:aC tab aG 5 (.aI (bV i.e))=some (.aI [.int .i64 i.e.a5,.int .i64 i.e.a6,.str i.e.s7,.str i.e.s8,i.e.fd]):=id rfl;have b:aC tab aG 6 (.aI (bV i.e))=some (.aI [.int .i64 i.e.a6,.str i.e.s7,.str i.e.s8,i.e.fd]):=id rfl;have d:aC tab aG 7 (.aI (bV i.e))=some (.aI [.str i.e.s7,.str i.e.s8,i.e.fd]):=id rfl;have g:aC tab aG 8 (.aI (bV i.e))=some (.aI [.str i.e.s8,i.e.fd]):=id rfl;have t:aC tab aG 9 (.aI (bV i.e))=some (.aI [i.e.fd]):=id rfl;rw[ME];simp only[C8,jj,W,aU,Bo,kl,Bp,tk,N,nQ,bR];unfold Bq;by_cases k:i.r=[]
 ·simp only[k,kA,aK,aJ,Uv i.e h M,W];exact .some rfl
 have C:(i.r==[])=false:=by simpa using k
 simp only[k,C,aK,aP,aL,gm,W,cZ];by_cases u:32<i.r.length
 ·have l:(i.r.length:Int)>32:=by omega
  simp only[u,l,bK,aJ];exact .some rfl
 have l:¬(i.r.length:Int)>32:=by omega
 simp only[u,l,bG,aP,aL,Jk,W,dE,dC];by_cases v:fh i.e=true
 case neg =>
  have E:fh i.e=false:=by simpa using v
  simp only[E,aP,aL,show ¬(2:Int)=0 by omega,fy,bK,aK,aJ];exact .some rfl
 simp only[v,aJ,eA,bG,aK,aP,eR,aL,Jl,W,dE,dC];generalize gL i.e 20000=a;by_cases m:a≠0∧a≠3
 ·obtain⟨G,H⟩:=m;simp only[dC,G,H,fy,bK,bL,aJ,W,bI,aK,gX,dE];exact .some rfl
 have F:decide (¬a=0)=true→decide (¬a=3)=false:=by
  intro s;have s:¬a=0:=by simpa using s
  by_cases A:a=3
  ·simp[-Xm,A]
  ·exact absurd ⟨s,A⟩ m
 rw[cH (by simpa[-Xm,dC]using m)];have step:∀(j:D→Option (D × J)),((O (.bool (decide (¬a=0))) true (some (.int .i64 a))).bind λT=>(O (.bool (decide (¬a=0))) true (V tab .neq iH T (.int .i64 3))).bind λX=>(cD (.bool (decide (¬a=0))) X (.bool false)).bind j)=j (.bool false):=by
  intro j;cases P:decide (¬a=0)with
  |false=>simp only[bL,aP,aL,reduceCtorEq,W,bI]
  |true=>simp only[bL,aJ,W,dE,dC,F P,bI]
 rw[step];simp only[aK,aP,aL,Q,b,d,g,t,eB,ik,la,W,dE,lC,iD i.e.gk,aU,dC];have B:(i.e.fs.length:Int)=0↔i.e.fs.length=0:=by omega
 by_cases w:¬i.e.a5=0
 ·simp only[w,fy,kH,bK,bL,eL,reduceCtorEq,aJ,eR,aL,W,bI,aK];exact .some rfl
 have c:i.e.a5=0:=kK.1 w;by_cases x:¬i.e.a6=0
 ·simp only[c,x,eA,fy,kH,mY,bK,bG,bL,eL,b,eB,dE,dC,reduceCtorEq,aJ,eR,aP,aL,W,bI,aK];exact .some rfl
 have f:i.e.a6=0:=kK.1 x;by_cases o:¬i.e.s7=[]
 ·have I:(i.e.s7==[])=false:=by simpa using o
  simp only[c,f,o,I,eA,fy,kH,mY,bK,bG,bL,eL,b,d,eB,ik,dE,lC,dC,fO,reduceCtorEq,aJ,eR,aP,aL,W,bI,aK];exact .some rfl
 have n:i.e.s7=[]:=kK.1 o;by_cases p:¬i.e.s8=[]
 ·have K:(i.e.s8==[])=false:=by simpa using p
  simp only[c,f,n,p,K,eA,fy,kH,mY,bK,bG,bL,eL,b,d,g,eB,ik,dE,lC,dC,kA,eY,fO,reduceCtorEq,aJ,eR,aP,aL,W,bI,aK];exact .some rfl
 have y:i.e.s8=[]:=kK.1 p;by_cases z:¬i.e.fs.length=0
 ·simp only[c,f,n,y,z,B,eA,fy,kH,mY,bK,bG,bL,eL,b,d,g,t,eB,ik,la,iD i.e.gk,dE,lC,dC,kA,eY,fO,reduceCtorEq,aJ,eR,aP,aL,W,bI,aK];exact .some rfl
 have L:i.e.fs.length=0:=kK.1 z;simp only[c,f,n,y,L,B,eA,mY,bG,bL,eL,b,d,g,t,eB,ik,la,iD i.e.gk,dE,lC,dC,kA,eY,reduceCtorEq,aJ,aP,aL,W,bI,aK];refine Rz i.e h _ _ _ (λq aa ab ac=>?_) (λq aa ab ac=>?_)
 ·simp only[dV,cL,W,bR,q,aP,aL];exact .some rfl
 ·simp only[mw,mv,l7,bD,W,bR,q,aJ];exact .some rfl
theorem BM{h:J}{o:Nat}(q:CM h o):∃v h',R lH [.ptr o 0 0] h=some (.int .i64 v,h')∧CM h' o∧bW o h h':=by
 suffices Wp (R lH [.ptr o 0 0] h) (λf=>∃v,f.1 = .int .i64 v∧CM f.2 o∧bW o h f.2) by
  obtain⟨⟨y,h'⟩,k,v,rfl,e⟩:=this;exact⟨v,h',k,e⟩
 have l:aR 1 inr qs (.sl 1 true (qs.map λa=>[.int .i64 a])) :=.mk _ _ _ _;rw[Np];simp only[DS,W,aU,Sy];obtain⟨v,k,p,j,m,w,x⟩:=gv q 4 (by omega) (by omega);simp only[p,W,fa];refine Wp.dS ?_ ?_
 ·intro _;obtain⟨i,e,d,c,g,n,u⟩:=gv j 12 (by omega) (by omega);obtain⟨b,t⟩:∃b,qs[i.toNat]?=some b:=⟨_,cJ (by rw[Sx];omega)⟩
  have s:aT tab aW (.sl 1 true (qs.map λa=>[.int .i64 a]))=some (.int .i64 12):=lJ l;have r:aQ tab aW (.sl 1 true (qs.map λa=>[.int .i64 a])) (.int .i64 i)=some (.aI [.int .i64 b]):=by
   rw[me l,bE n,t];rfl
  simp only[W,s,d,r,eB,bR];exact .some ⟨b,rfl,c,m.trans g⟩
 ·intro _;obtain⟨i,e,d,c,g,n,u⟩:=gv j 60 (by omega) (by omega);simp only[W,d,eH,bR];exact .some ⟨_,rfl,c,m.trans g⟩
structure RB (n m:Nat) (x:RI):Prop where
 r:x.r.length≤1000
 t7:x.t7.length≤1000
 t8:x.t8.length≤1000
 fs:x.fs.length≤n
 ls:x.ls.length≤m
 lt:∀l∈x.ls,l.eD.length≤1000
 ft:∀p∈x.fs,p.1.length≤1000∧p.2.length≤1000
theorem RB.le{n m b a:Nat}{x:RI}(h:RB n m x)(c:n≤b)(h2:m≤a):RB b a x:=⟨h.r,h.t7,h.t8,hX h.fs c,hX h.ls h2,h.lt,h.ft⟩
def fY(x:RI)(b a:D):List D:=[.int .i64 x.a0,.int .i64 x.a1,.int .i64 x.a2,.int .i64 x.a3,b,.int .i64 x.a5,.int .i64 x.a6,.str x.t7,.str x.t8,a]
structure Sp (h:J) (o:Nat) (g:J) (n m:Nat) (x:RI) (ld fd:D):Prop where
 s:Sm h o g
 hl:h.length+3≤g.length
 b1:∃e:Ev,g[h.length]?=some (.row aF 11 [.str x.r::bV e])
 b2:g[h.length+1]?=some (.row aF 11 [aE jC])
 b3:g[h.length+2]?=some (.row aG 10 [fY x ld fd])
 ol:Own g (h.length+3) bS 3 (x.ls.map bC) ld
 ow:Own g (h.length+3) bB 2 (x.fs.map aN) fd
 ne:∀q,ld.e9 q→fd.e9 q→False
 B:RB n m x
theorem Sp.draw{h g g':J}{o n m:Nat}{x:RI}{d b:D}(S:Sp h o g n m x d b)(c:CM g' o)(s:bW o g g'):Sp h o g' n m x d b:=by
 have j:=S.s.lt;obtain⟨e,f⟩:=S.b1;exact⟨S.s.next c s,by rw[s.1];exact S.hl,⟨e,by rw[s.2 _ (by omega)];exact f⟩,by rw[s.2 _ (by omega)];exact S.b2,by rw[s.2 _ (by omega)];exact S.b3,S.ol.bH λa i _=>s.2 a (by omega),S.ow.bH λa i _=>s.2 a (by omega),S.ne,S.B⟩
theorem Sp.my{h g g':J}{o n m f e:Nat}{x x':RI}{c b:D}(S:Sp h o g n m x c b)(s:bW (h.length+2) g g')(p:g'[h.length+2]?=some (.row aG 10 [fY x' c b]))(q:x'.r=x.r)(l:x'.ls=x.ls)(k:x'.fs=x.fs)(B:RB f e x'):Sp h o g' f e x' c b:=by
 have t:=S.s.lt;obtain⟨i,j⟩:=S.b1;exact⟨S.s.app (by rw[s.1];exact aX _) λa d=>s.2 a (by omega),by rw[s.1];exact S.hl,⟨i,by rw[s.2 _ (by omega),q];exact j⟩,by rw[s.2 _ (by omega)];exact S.b2,p,by rw[l];exact S.ol.bH λa d _=>s.2 a (by omega),by rw[k];exact S.ow.bH λa d _=>s.2 a (by omega),S.ne,B⟩
theorem Sp.wk{h g:J}{o n m e d:Nat}{x:RI}{c b:D}(a:Sp h o g n m x c b)(f:n≤e)(h2:m≤d):Sp h o g e d x c b:=⟨a.s,a.hl,a.b1,a.b2,a.b3,a.ol,a.ow,a.ne,a.B.le f h2⟩
theorem Sp.re{h g g':J}{o n m f e:Nat}{x x':RI}{t j c b:D}(S:Sp h o g n m x t j)(l:g.length≤g'.length)(d:∀a,a<h.length+2→g'[a]?=g[a]?)(p:g'[h.length+2]?=some (.row aG 10 [fY x' c b]))(ol:Own g' (h.length+3) bS 3 (x'.ls.map bC) c)(ow:Own g' (h.length+3) bB 2 (x'.fs.map aN) b)
  (ne:∀a,c.e9 a→b.e9 a→False) (q:x'.r=x.r) (B:RB f e x'):Sp h o g' f e x' c b:=by
 have u:=S.s.lt;have hl:=S.hl;obtain⟨i,k⟩:=S.b1;exact⟨S.s.app l λa v=>d a (by omega),by omega,⟨i,by rw[d _ (by omega),q];exact k⟩,by rw[d _ (by omega)];exact S.b2,p,ol,ow,ne,B⟩
theorem qD(x:RI)(b a:D)(k:Nat)(v:D)(c:v.one=true)(d:k<10):([fY x b a].set 0 (dQ (fY x b a) (0+k) (cP v)))=[(fY x b a).set k v]:=by
 rw[dF,CA _ _ _ c (by simp[-Xm,fY];omega)];rfl
theorem Sp.nq{h g:J}{o n m:Nat}{x:RI}{a b:D}(S:Sp h o g n m x a b):aA tab g bA (.ptr (h.length+2) 0 (0+4))=some a:=by
 rw[nr,dT S.b3];rfl
theorem Sp.ik{h g:J}{o n m:Nat}{x:RI}{b a:D}(S:Sp h o g n m x b a):aA tab g bM (.ptr (h.length+2) 0 (0+9))=some a:=by
 rw[HI,dT S.b3];rfl
theorem Sp.eB{h g:J}{o n m:Nat}{x:RI}{b a:D}(S:Sp h o g n m x b a):aA tab g U (.ptr (h.length+2) 0 (0+3))=some (.int .i64 x.a3):=by
 rw[fB,dT S.b3];rfl
theorem Sp.Su{h g g':J}{o n m:Nat}{x x':RI}{a b:D}(S:Sp h o g n m x a b){d:Nat}(f:a.e9 d)(s:bW d g g')(q:Own g' (h.length+3) bS 3 (x'.ls.map bC) a)(c:x'={ x with ls:=x'.ls })(B:RB n m x'):Sp h o g' n m x' a b:=by
 have y:=S.s.lt;have w:=S.ol.lt f;obtain⟨i,p⟩:=S.b1;have j:x'.r=x.r:=by rw[c]
 have k:x'.fs=x.fs:=by rw[c]
 have l:fY x' a b=fY x a b:=by rw[c];rfl
 exact⟨S.s.app (by rw[s.1];exact aX _) λe v=>s.2 e (by omega),by rw[s.1];exact S.hl,⟨i,by rw[s.2 _ (by omega),j];exact p⟩,by rw[s.2 _ (by omega)];exact S.b2,by rw[s.2 _ (by omega),l];exact S.b3,q,
  by rw[k];exact S.ow.bH λe v u=>s.2 e λt=>S.ne d f (by rw[← t];exact u),S.ne,B⟩
theorem lq{b:Bool}{x y:Option bN}{f:bN→List D}{P:J→Prop}(c:b=true→Wp x λr=>r.1 = .aS∧P r.2.2)(d:b=false→Wp y λr=>r.1 = .aS∧P r.2.2):
  Wp ((S (.bool b) x y).bind λr=>some (r.1,f r,r.2.2)) (λr=>r.1 = .aS∧P r.2.2):=by
 refine Wp.join c d λe a=>?_
 exact .some a
theorem BL{h:J}{o:Nat}(ci:CM h o){n m:Nat}(eg:n≤1000)(ef:m≤1000)(i:It)(f:RB n m (aY i)):∃(j:It) (h':J),R oR [.ptr o 0 0,.agg (aE i)] h=some (.agg (aE j),h')∧CM h' o∧bW o h h'∧RB (n+1) (max m 41) (aY j):=by
 suffices Wp (R oR [.ptr o 0 0,.agg (aE i)] h) (λab=>∃j:It,ab.1 = .agg (aE j)∧CM ab.2 o∧bW o h ab.2∧RB (n+1) (max m 41) (aY j)) by
  obtain⟨⟨a,h'⟩,C,j,rfl,H⟩:=this;exact⟨j,h',C,H⟩
 have co:=ci.lt;have dm:([.str [],.int .i64 0,.int .i64 0,.int .i64 0,.int .i64 0,.aB,.int .i64 0,.int .i64 0,.str [],.str [],.aB]:List D)=aE jC:=rfl;have bt:=f.ls;have bp:=f.fs;have bt:i.e.ls.length≤m:=bt;have bp:i.e.fs.length≤n:=bp;rw[Nn];simp only[DQ,dm,so aF 11 h (aE i) rfl (by omega),W,aU];have aj:(aZ h aF 11 [aE i])[h.length]?=some (.row aF 11 [aE i]):=hZ _ _ _ _;have cw:∀b,b<h.length→(aZ h aF 11 [aE i])[b]?=h[b]?:=λb q=>gQ _ _ _ _ q
 have au:(aZ h aF 11 [aE i]).length=h.length+1:=by simp[-Xm,aZ]
 generalize aZ h aF 11 [aE i]=a2 at *;have ap:(aZ a2 aF 11 [aE jC])[h.length+1]?=some (.row aF 11 [aE jC]):=by rw[← au];exact hZ _ _ _ _
 have be:∀b,b<h.length+1→(aZ a2 aF 11 [aE jC])[b]?=a2[b]?:=λb q=>gQ _ _ _ _ (by omega)
 have b4:(aZ a2 aF 11 [aE jC]).length=h.length+2:=by simp[-Xm,aZ,au]
 rw[au];generalize aZ a2 aF 11 [aE jC]=X at *;have b9:X[h.length]?=some (.row aF 11 [aE i]):=by rw[be _ (by omega)];exact aj
 have cz:aA tab X aG (.ptr h.length 0 (0+1))=some (.agg (bV i.e)):=by rw[BB,dT b9];rfl
 simp only[kh,cz,W,b4];have aq:∀r,(aZ X aG 10 [r])[h.length+2]?=some (.row aG 10 [r]):=λr=>by rw[← b4];exact hZ _ _ _ _
 have bf:∀r b,b<h.length+2→(aZ X aG 10 [r])[b]?=X[b]?:=λr b q=>gQ _ _ _ _ (by omega)
 have dq:∀r,(aZ X aG 10 [r]).length=h.length+3:=λr=>by simp[-Xm,aZ,b4]
 refine qK (kk:=0) (off:=0) (v :=.agg (bV i.e)) (aq _) (by rfl) (by rfl) (by simp) (by rfl) λG af ac=>?_
 replace af:G[h.length+2]?=some (.row aG 10 [bV i.e]):=af;have dp:=ac.1.trans (dq _);have ca:G[h.length]?=some (.row aF 11 [aE i]):=by rw[ac.2 _ (by omega),bf _ _ (by omega),be _ (by omega)];exact aj
 have cb:G[h.length+1]?=some (.row aF 11 [aE jC]):=by rw[ac.2 _ (by omega),bf _ _ (by omega)];exact ap
 have ad:∀b,b<h.length→G[b]?=h[b]?:=λb q=>by rw[ac.2 _ (by omega),bf _ _ (by omega),be _ (by omega),cw _ q]
 clear aj b9 ap aq cw be bf cz ac au;have c0:aA tab G bA (.ptr (h.length+2) 0 (0+4))=some i.e.ld:=by rw[nr,dT af];rfl
 simp only[mZ,c0,W];refine sq (n0:=h.length+3) (rows:=[]) (by omega) (.aB _ _ _ _) (sj _ i.e.fZ) (by simp only[eQ,eJ];omega) λu eb av dr b0 _ _=>?_
 rw[jE]at av
 try simp only[W]
 refine pB (kk:=0) (off:=0+4) (row:=bV i.e) (v:=u) (by rw[b0 _ (by omega)];exact af) (by rfl) (by rw[(j5 (kE av)).1];rfl) (by simp[-Xm,bV]) (j5 (kE av)).2 λbc bi bj=>?_
 have cs:([bV i.e].set 0 (dQ (bV i.e) (0+4) (cP u)))=[fY (aY i) u i.e.fd]:=by rw[dF,CA _ _ _ (kE av) (by simp[-Xm,bV])];rfl
 rw[cs]at bi;have bh:Own bc (h.length+3) bS 3 (i.e.ls.map bC) u:=av.bH λb q _=>bj.2 b (by omega)
 have c1:aA tab bc bM (.ptr (h.length+2) 0 (0+9))=some i.e.fd:=by rw[HI,dT bi];rfl
 simp only[On,c1,W];have cx:h.length+3≤bc.length:=by rw[bj.1];omega
 refine xm (n0:=bc.length) (rows:=[]) (aX _) (.aB _ _ _ _) (sj _ i.e.gk) (by simp only[eQ,eJ];omega) λx ec ak ds bg _ _=>?_
 rw[jE]at ak
 try simp only[W]
 have cn:∀b,u.e9 b→x.e9 b→False:=λb C H=>by
  have:=(bh.lt C).2;have:=(ak.lt H).1;omega
 refine Ka (kk:=0) (off:=0+9) (row:=fY (aY i) u i.e.fd) (v:=x) (by rw[bg _ (by omega)];exact bi) (by rfl) (by rw[(j5 (kE ak)).1];rfl) (by simp[-Xm,fY]) (j5 (kE ak)).2 λcg b7 aw=>?_
 have ct:([fY (aY i) u i.e.fd].set 0 (dQ (fY (aY i) u i.e.fd) (0+9) (cP x)))=[fY (aY i) u x]:=by rw[qD _ _ _ _ _ (kE ak) (by omega)];rfl
 rw[ct]at b7;have a6:∀b,b<h.length+2→cg[b]?=G[b]?:=λb q=>by rw[aw.2 _ (by omega),bg _ (by omega),bj.2 _ (by omega),b0 _ (by omega)]
 have s:Sp h o cg n m (aY i) u x:=
  ⟨⟨co,ci.bH (by rw[a6 _ (by omega),ad _ co]),⟨by rw[aw.1];omega,λb q _=>by rw[a6 _ (by omega),ad _ q]⟩⟩,by rw[aw.1];omega,⟨i.e,by rw[a6 _ (by omega)];exact ca⟩,by rw[a6 _ (by omega)];exact cb,b7,
   bh.bH λb q aa=>by rw[aw.2 _ (by omega),bg _ (bh.lt aa).2],(ak.from cx).bH λb q aa=>aw.2 b (by omega),cn,f⟩
 clear b7 a6 ct aw cn ak bg ds c1 bh bi cs bj av b0 dr c0 ca cb ad af;obtain⟨v,ch,ce,cc,c3,ej,ek⟩:=gv s.s.cd 13 (by omega) (by omega);replace s:=s.draw cc c3;simp only[ce,W,fa,Oi,tm,l8,nU,Oj,Ol,Om,Oo,kh];clear ce c3 cc cx dp;refine Wp.bind (P:=λr=>r.1 = .aS∧∃a c e,Sp h o r.2.2 (n+1) (max m 41) a c e) ?_ ?_
 ·
  have ar:∀(y:Nat) (F:Int→RI) (L:List D),(∀v,(fY (aY i) u x).set y (.int .i64 v)=fY (F v) u x)→(∀v,(F v).r=(aY i).r∧(F v).ls=(aY i).ls∧(F v).fs=(aY i).fs∧RB n m (F v))→y<10 →
    Wp ((R lH [.ptr o 0 0] ch).bind λab=>(bT tab ab.2 U (.ptr (h.length+2) 0 (0+y)) ab.1).bind λh'=>some ((.aS,L,h'):bN)) (λr=>r.1 = .aS∧∃a c e,Sp h o r.2.2 (n+1) (max m 41) a c e):=by
   intro y F L bx dk br;obtain⟨w,ae,a0,M,T⟩:=BM s.s.cd;have g:=s.draw M T;rw[a0];simp only[W];refine kr (kk:=0) (off:=0+y) (row:=fY (aY i) u x) g.b3 (by rfl) (by rfl) (by simp[-Xm,fY];omega) (by rfl) λZ E t=>?_
   rw[qD _ _ _ _ _ rfl br,bx]at E;obtain⟨d6,d7,d8,d9⟩:=dk w;exact .some ⟨rfl,_,_,_,g.my t E d6 d7 d8 (d9.le (by omega) (by omega))⟩
  have an:∀aj ap aq ay bm bn,RB n m { aY i with a0:=aj,a1:=ap,a2:=aq,a3:=ay,a5:=bm,a6:=bn }:=λ_ _ _ _ _ _=>⟨f.r,f.t7,f.t8,f.fs,f.ls,f.lt,f.ft⟩
  have cy:∀(y:Nat) (F:Int→dJ→dJ) (L:List D),(∀v k,(bC k).set y (.int .i64 v)=bC (F v k))→(∀v k,(F v k).eD=k.eD)→y<3→∀w:Int,0≤w→w<i.e.ls.length→∀ae,Sp h o ae n m (aY i) u x→∀K:Int,∃S,aQ tab bA u (.int .i64 w)=some (.ptr S w.toNat 0) ∧ 
    ∀bk bl:Prop,bk→bl→Wp ((bT tab ae U (.ptr S w.toNat (0+y)) (.int .i64 K)).bind λh'=>e7 bk (e7 bl (some ((.aS,L,h'):bN)))) (λr=>r.1 = .aS∧∃a c e,Sp h o r.2.2 (n+1) (max m 41) a c e):=by
   intro y F L bx dl br w a9 al ae g K;rcases g.ol with⟨_,a3⟩|⟨S,cp,I,bq⟩
   ·have:i.e.ls=[]:=by simpa[-Xm,aY]using a3
    rw[this]at al;simp at al;omega
   have bd:((aY i).ls.map bC).length=i.e.ls.length:=by simp[-Xm,aY]
   rw[bd]at I;obtain⟨k,N⟩:∃k,i.e.ls[w.toNat]?=some k:=⟨_,cJ (by omega)⟩
   have aa:u.e9 S:=⟨_,_,I⟩
   refine⟨S,by rw[I,qm,bE ⟨a9,al⟩];simp[-Xm],λbk bl c8 c9=>?_⟩;refine kr (kk:=w.toNat) (off:=0+y) (row:=bC k) bq (by rw[dH,show(aY i).ls[w.toNat]?=some k from N];rfl) (by rfl) (by simp[-Xm,bC];omega) (by rfl) λZ E t=>?_
   have dh:((aY i).ls.map bC).set w.toNat (dQ (bC k) (0+y) (cP (.int .i64 K)))=(((aY i).ls.set w.toNat (F K k)).map bC):=by
    rw[dF,CA _ _ _ rfl (by simp[-Xm,bC];omega),bx,kQ]
   rw[dh]at E;have cl:((aY i).ls.set w.toNat (F K k)).length=(aY i).ls.length:=by simp
   have df:∀b∈(aY i).ls.set w.toNat (F K k),b.eD.length≤1000:=λb q=>by
    rcases u9 q with q|rfl
    ·exact f.lt b q
    ·rw[dl];exact f.lt k (eS N)
   rw[ke _ _ c8,ke _ _ c9];exact .some ⟨rfl,{ aY i with ls:=(aY i).ls.set w.toNat (F K k) },_,_,(g.Su (x':={ aY i with ls:=(aY i).ls.set w.toNat (F K k) }) aa t (.inr ⟨S,cp,by rw[eQ,cl,I];rfl,E⟩) rfl ⟨f.r,f.t7,f.t8,f.fs,by rw[cl];exact f.ls,df,f.ft⟩)|>.wk (by omega) (by omega)⟩
  refine Wp.dS (λ_=>ar 0 (λv=>{ aY i with a0:=v }) _ (λ_=>rfl) (λv=>⟨rfl,rfl,rfl,an v _ _ _ _ _⟩) (by omega)) λ_=>?_
  refine lq (P:=λl=>∃a c e,Sp h o l (n+1) (max m 41) a c e) (λ_=>ar 1 (λv=>{ aY i with a1:=v }) _ (λ_=>rfl) (λv=>⟨rfl,rfl,rfl,an _ v _ _ _ _⟩) (by omega)) λ_=>?_
  refine lq (P:=λl=>∃a c e,Sp h o l (n+1) (max m 41) a c e) (λ_=>ar 2 (λv=>{ aY i with a2:=v }) _ (λ_=>rfl) (λv=>⟨rfl,rfl,rfl,an _ _ v _ _ _⟩) (by omega)) λ_=>?_
  refine lq (P:=λl=>∃a c e,Sp h o l (n+1) (max m 41) a c e) (λ_=>ar 3 (λv=>{ aY i with a3:=v }) _ (λ_=>rfl) (λv=>⟨rfl,rfl,rfl,an _ _ _ v _ _⟩) (by omega)) λ_=>?_
  refine lq (P:=λl=>∃a c e,Sp h o l (n+1) (max m 41) a c e) (λ_=>ar 5 (λv=>{ aY i with a5:=v }) _ (λ_=>rfl) (λv=>⟨rfl,rfl,rfl,an _ _ _ _ v _⟩) (by omega)) λ_=>?_
  refine lq (P:=λl=>∃a c e,Sp h o l (n+1) (max m 41) a c e) (λ_=>ar 6 (λv=>{ aY i with a6:=v }) _ (λ_=>rfl) (λv=>⟨rfl,rfl,rfl,an _ _ _ _ _ v⟩) (by omega)) λ_=>?_
  have bd:aT tab bA u=some (.int .i64 (i.e.ls.length:Int)):=by rw[wE s.ol,eQ];rfl
  have b8:∀L:List D,Wp (some ((.aS,L,ch):bN)) (λr=>r.1 = .aS∧∃a c e,Sp h o r.2.2 (n+1) (max m 41) a c e):=λL =>.some ⟨rfl,_,_,_,s.wk (by omega) (by omega)⟩
  refine lq (P:=λl=>∃a c e,Sp h o l (n+1) (max m 41) a c e) (λ_=>?_) λ_=>?_
  ·simp only[s.nq,bd,W,cZ];refine lq (P:=λl=>∃a c e,Sp h o l (n+1) (max m 41) a c e) (λz=>?_) λ_=>b8 _
   have z:0<i.e.ls.length:=by
    have:(i.e.ls.length:Int)>0:=by simpa using z
    omega
   obtain⟨w,ae,a0,M,T,a9,al⟩:=gv s.s.cd (i.e.ls.length:Int) (by omega) (by omega);have g:=s.draw M T;obtain⟨K,Z,a1,ad,t⟩:=BM g.s.cd;have A:=g.draw ad t;obtain⟨S,a4,bw⟩:=cy 0 (λv k=>{ k with off:=v }) [] (λ_ _=>rfl) (λ_ _=>rfl) (by omega) w a9 al Z A K;simp only[a0,a1,a4,k5,W];exact bw _ _ g.nq A.nq
  refine lq (P:=λl=>∃a c e,Sp h o l (n+1) (max m 41) a c e) (λ_=>?_) λ_=>?_
  ·simp only[s.nq,bd,W,cZ];refine lq (P:=λl=>∃a c e,Sp h o l (n+1) (max m 41) a c e) (λz=>?_) λ_=>b8 _
   have z:0<i.e.ls.length:=by
    have:(i.e.ls.length:Int)>0:=by simpa using z
    omega
   obtain⟨w,ae,a0,M,T,a9,al⟩:=gv s.s.cd (i.e.ls.length:Int) (by omega) (by omega);have g:=s.draw M T;obtain⟨K,Z,a1,ad,t⟩:=BM g.s.cd;have A:=g.draw ad t;obtain⟨S,a4,bw⟩:=cy 1 (λv k=>{ k with len:=v }) [] (λ_ _=>rfl) (λ_ _=>rfl) (by omega) w a9 al Z A K;simp only[a0,a1,a4,l9,W];exact bw _ _ g.nq A.nq
  refine lq (P:=λl=>∃a c e,Sp h o l (n+1) (max m 41) a c e) (λ_=>?_) λ_=>?_
  ·refine pB (kk:=0) (off:=0+4) (row:=fY (aY i) u x) s.b3 (by rfl) (by rfl) (by simp[-Xm,fY]) (by rfl) λZ E t=>?_
   rw[qD _ _ _ _ _ rfl (by omega)]at E;have N:=s.hl;exact .some ⟨rfl,{ aY i with ls:=[] },.aB,x,s.re (x':={ aY i with ls:=[] }) (by rw[t.1];exact aX _) (λb q=>t.2 b (by omega)) E (.aB _ _ _ _) (s.ow.bH λb q _=>t.2 b (by omega)) (λb ⟨_,_,q⟩=>by cases q) rfl ⟨f.r,f.t7,f.t8,by have:=f.fs;show(aY i).fs.length≤_;omega,jr _,λk N=>(by cases N),f.ft⟩⟩
  refine lq (P:=λl=>∃a c e,Sp h o l (n+1) (max m 41) a c e) (λ_=>?_) λ_=>?_
  ·simp only[s.ik,Ta,W];refine kF s.s.cd H6 10 (by decide) (by decide) (by decide) λB ae M T cq cr=>?_
   have g:=s.draw M T;obtain⟨ax,Z,a1,ad,t,eh⟩:=Ia g.s.cd 3 (by omega) (by omega);have A:=g.draw ad t;simp only[a1,W,Fv,Fz];have N:=A.hl;refine xm (n0:=h.length+3) (by omega) A.ow (iq _ _ _ _) (by simp only[eQ,eP,eJ];have:=f.fs;omega) λam c7 Q b5 a5 bz qi=>?_
   have bv:((aY i).fs.map aN++[[.str B,.str ax]])=((aY i).fs++[(B,ax)]).map aN:=by rw[fV];rfl
   rw[bv]at Q;rw[ke _ _ g.ik,ke _ _ A.ik];refine Ka (kk:=0) (off:=0+9) (row:=fY (aY i) u x) (v:=am) (by rw[a5 _ (by omega)];exact A.b3) (by rfl) (by rw[(j5 (kE Q)).1];rfl) (by simp[-Xm,fY]) (j5 (kE Q)).2 λcf a7 ag=>?_
   rw[qD _ _ _ _ _ (kE Q) (by omega)]at a7;exact .some ⟨rfl,{ aY i with fs:=(aY i).fs++[(B,ax)] },u,am,A.re (x':={ aY i with fs:=(aY i).fs++[(B,ax)] }) (by rw[ag.1];exact b5) (λb q=>by rw[ag.2 b (by omega)];exact a5 b (by omega)) a7
    (A.ol.bH λb q aa=>by rw[ag.2 b (by omega)];exact bz b (A.ol.lt aa).2 λa3=>A.ne b aa a3) (Q.bH λb q _=>ag.2 b (by omega))
    (λb C H=>by rcases qi b H with H|H;exact A.ne b C H;have:=(A.ol.lt C).2;omega) rfl
    ⟨f.r,f.t7,f.t8,by have:=f.fs;show((aY i).fs++[(B,ax)]).length≤_;simp[-Xm];omega,by have:=f.ls;show(aY i).ls.length≤_;omega,f.lt,λab z=>by
     rcases eI.1 z with z|z
     ·exact f.ft ab z
     ·rw[gz.1 z];exact⟨by show B.length≤1000;omega,by show ax.length≤1000;omega⟩⟩⟩
  refine lq (P:=λl=>∃a c e,Sp h o l (n+1) (max m 41) a c e) (λ_=>?_) λ_=>?_
  ·simp only[Tb,W];refine kF s.s.cd H7 100 (by decide) (by decide) (by decide) λB ae M T cq cr=>?_
   have g:=s.draw M T;obtain⟨az,bo⟩:=g.b1;simp only[W];refine CX (kk:=0) (off:=0+0) (row :=.str (aY i).r::bV az) (v :=.str B) bo (by rfl) (by rfl) (by simp) (by rfl) λZ E t=>?_
   have N:=g.hl;have E:Z[h.length]?=some (.row aF 11 [.str B::bV az]):=E;exact .some ⟨rfl,{ aY i with r:=B },u,x,⟨g.s.app (by rw[t.1];exact aX _) λb q=>t.2 b (by omega),by rw[t.1];exact N,⟨az,E⟩,by rw[t.2 _ (by omega)];exact g.b2,by rw[t.2 _ (by omega)];exact g.b3,g.ol.bH λb q _=>t.2 b (by omega),g.ow.bH λb q _=>t.2 b (by omega),g.ne,⟨by show B.length≤1000;omega,f.t7,f.t8,by have:=f.fs;show(aY i).fs.length≤_;omega,by have:=f.ls;show(aY i).ls.length≤_;omega,f.lt,f.ft⟩⟩⟩
  refine lq (P:=λl=>∃a c e,Sp h o l (n+1) (max m 41) a c e) (λ_=>?_) λ_=>?_
  ·simp only[Tc,W];refine kF s.s.cd H8 100 (by decide) (by decide) (by decide) λB ae M T cq cr=>?_
   have g:=s.draw M T;simp only[W];refine CX (kk:=0) (off:=0+7) (row:=fY (aY i) u x) (v :=.str B) g.b3 (by rfl) (by rfl) (by simp[-Xm,fY]) (by rfl) λZ E t=>?_
   rw[qD _ _ _ _ _ rfl (by omega)]at E;exact .some ⟨rfl,{ aY i with t7:=B },u,x,g.my (x':={ aY i with t7:=B }) t E rfl rfl rfl ⟨f.r,by show B.length≤1000;omega,f.t8,by have:=f.fs;show(aY i).fs.length≤_;omega,by have:=f.ls;show(aY i).ls.length≤_;omega,f.lt,f.ft⟩⟩
  try simp only[aU]
  refine Wp.loop (λy bb l=>∃ao ba a c,bb=[ao,ba]∧Sp h o l (n+1) (max m 41) a c x∧y+a.ls.length=max m 41)
   (λr=>r.1 = .ext 1∧∃a c e,Sp h o r.2.2 (n+1) (max m 41) a c e) (max m 41 - (aY i).ls.length) ⟨_,_,_,_,rfl,s.wk (by omega) (by omega),by have:=f.ls;omega⟩ ?_ ?_
  ·rintro y bb l ⟨ao,ba,a,c,rfl,p,br⟩;have bu:aT tab bA c=some (.int .i64 (a.ls.length:Int)):=by rw[wE p.ol,eQ]
   have cj:∀L:List D,Wp (some ((.ext 1,L,l):bN)) λr=>(r.1 = .aS∧∃cu,cu<y∧∃ao ba a c,r.2.1=[ao,ba]∧Sp h o r.2.2 (n+1) (max m 41) a c x∧cu+a.ls.length=max m 41)∨(r.1 ≠ .aS∧(r.1 = .ext 1∧∃a c e,Sp h o r.2.2 (n+1) (max m 41) a c e)):=λL =>.some (.inr ⟨by simp,rfl,_,_,_,p⟩)
   simp only[DR,bD,bY,W,aU,mZ,nU,p.nq,bu,cZ];by_cases C:(a.ls.length:Int)>0
   case neg =>
    simp only[C,bG,bL,reduceCtorEq,aP,aL,W,bI,aK];exact cj _
   by_cases H:(a.ls.length:Int)≤40
   case neg =>
    simp only[C,H,bK,bG,bL,aJ,W,p.nq,bu,ig,bI,aK,aP,aL];exact cj _
   have dj:IntKind.wrap .i64 ((a.ls.length:Int) - 1)=((a.ls.length - 1:Nat):Int):=by rw[cN (by omega) (by omega)];omega
   obtain⟨S,cp,I,bq⟩:=BZ p.ol (i:=a.ls.length - 1) (by rw[eQ];omega);rw[eQ]at I;obtain⟨k,N⟩:∃k,a.ls[a.ls.length - 1]?=some k:=⟨_,cJ (by omega)⟩
   have a4:aQ tab bA c (.int .i64 ((a.ls.length - 1:Nat):Int))=some (.ptr S (a.ls.length - 1) 0):=by
    rw[I,qm,bE (by omega)];simp[-Xm]
   have de:aA tab l bS (.ptr S (a.ls.length - 1) 0)=some (.agg (bC k)):=by
    rw[BC,dT bq,dH,N];rfl
   have db:gY 3 (.agg (bC k))=some (.aI (bC k)):=mP 3 _ rfl;have d0:aC tab bS 0 (.aI (bC k))=some (.aI (bC k)):=id rfl;have d1:aC tab bS 1 (.aI (bC k))=some (.aI [.int .i64 k.len,.str k.eD]):=id rfl;have au:∀l,aA tab l U (.aI (bC k))=some (.int .i64 k.off):=λl=>id rfl
   simp only[C,H,bK,bL,aJ,W,p.nq,bu,ig,bI,aK,eH,dj,a4,de,db,d0,d1,au,eB,cY,yE,yJ];have ed:=p.hl;have ee:=p.B.ls;refine sq (n0:=h.length+3) (by omega) p.ol (iq _ _ _ _) (by simp only[eQ,eP,eJ];omega) λam c7 Q b5 a5 bz qi=>?_
   generalize cm:(⟨IntKind.wrap .i64 (k.off+k.len),1,[]⟩:dJ)=ai;have bv:(a.ls.map bC++[[.int .i64 (IntKind.wrap .i64 (k.off+k.len)),.int .i64 1,.str []]])=(a.ls++[ai]).map bC:=by rw[← cm,fV];rfl
   rw[bv]at Q
   try simp only[W]
   refine pB (kk:=0) (off:=0+4) (row:=fY a c x) (v:=am) (by rw[a5 _ (by omega)];exact p.b3) (by rfl) (by rw[(j5 (kE Q)).1];rfl) (by simp[-Xm,fY]) (j5 (kE Q)).2 λcf a7 ag=>?_
   rw[qD _ _ _ _ _ (kE Q) (by omega)]at a7;have g:Sp h o cf (n+1) (max m 41) { a with ls:=a.ls++[ai] } am x:=p.re (x':={ a with ls:=a.ls++[ai] }) (by rw[ag.1];exact b5) (λb q=>by rw[ag.2 b (by omega)];exact a5 b (by omega)) a7
    (Q.bH λb q _=>ag.2 b (by omega)) (p.ow.bH λb q aa=>by rw[ag.2 b (by omega)];exact bz b (p.ow.lt aa).2 λa3=>p.ne b a3 aa)
    (λb C H=>by rcases qi b C with C|C;exact p.ne b C H;have:=(p.ow.lt H).2;omega) rfl
    ⟨p.B.r,p.B.t7,p.B.t8,p.B.fs,by show(a.ls++[ai]).length≤_;simp[-Xm];omega,λab z=>by
     rcases eI.1 z with z|z
     ·exact p.B.lt ab z
     ·rw[gz.1 z,← cm];simp[-Xm],p.B.ft⟩
   simp only[g.eB,W,cY];refine kr (kk:=0) (off:=0+3) (row:=fY { a with ls:=a.ls++[ai] } am x) g.b3 (by rfl) (by rfl) (by simp[-Xm,fY]) (by rfl) λea c2 d2=>?_
   rw[qD _ _ _ _ _ rfl (by omega)]at c2;refine .some (.inl ⟨rfl,y - 1,by omega,_,_,{ a with ls:=a.ls++[ai],a3:=IntKind.wrap .i64 (a.a3+1) },am,rfl,g.my (x':={ a with ls:=a.ls++[ai],a3:=IntKind.wrap .i64 (a.a3+1) }) d2 c2 rfl rfl rfl ⟨g.B.r,g.B.t7,g.B.t8,g.B.fs,g.B.ls,g.B.lt,g.B.ft⟩,?_⟩);show y - 1+(a.ls++[ai]).length=_;simp[-Xm];omega
  ·rintro⟨c5,bb,l⟩ ⟨rfl,da⟩;exact .some ⟨rfl,da⟩
 ·rintro⟨c5,bb,l⟩ ⟨rfl,a,c,e,p⟩;have N:=p.hl;have dw:aA tab l aG (.ptr (h.length+2) 0 0)=some (.agg (fY a c e)):=by rw[BB,dT p.b3];rfl
  simp only[gV,cL,dw,W];obtain⟨az,bo⟩:=p.b1;refine qK (kk:=0) (off:=0+1) (row :=.str a.r::bV az) (v :=.agg (fY a c e)) bo (by rfl) (by rfl) (by simp[-Xm,bV]) (by rfl) λX b6 a8=>?_
  have b6:X[h.length]?=some (.row aF 11 [a.row c e]):=b6;have dt:aA tab X aF (.ptr h.length 0 0)=some (.agg (a.row c e)):=by rw[r2,dT b6];rfl
  simp only[dt,W];refine jP (kk:=0) (off:=0) (row:=aE jC) (v :=.agg (a.row c e)) (by rw[a8.2 _ (by omega)];exact p.b2) (by rfl) (by rfl) (by exact aX _) (by rfl) λG af ac=>?_
  have af:G[h.length+1]?=some (.row aF 11 [a.row c e]):=af;have du:aA tab G aF (.ptr (h.length+1) 0 0)=some (.agg (a.row c e)):=by rw[r2,dT af];rfl
  simp only[du,W,bR];have dy:Own G (h.length+3) bS 3 (a.ls.map bC) c:=p.ol.bH λb q _=>by rw[ac.2 b (by omega),a8.2 b (by omega)]
  have dz:Own G (h.length+3) bB 2 (a.fs.map Go.Proofs.YtinlnkhheafjaaaGreatDoor.aN) e:=p.ow.bH λb q _=>by rw[ac.2 b (by omega),a8.2 b (by omega)]
  have d4:=jy (n0:=h.length) (n:=2) dy (by omega) λao _ d I=>by
   simp only[bC,dW,kS,iS]at I;rcases I with rfl|rfl|rfl<;>simp[-Xm]
  have d3:=jy (n0:=h.length) (n:=2) dz (by omega) λao _ d I=>by
   simp only[Go.Proofs.YtinlnkhheafjaaaGreatDoor.aN,dW,kS,iS]at I;rcases I with rfl|rfl<;>simp[-Xm]
  have bt:=p.B.ls;have bp:=p.B.fs;obtain⟨j,ck⟩:∃j,j=BP a _ _ d4 d3 (by omega) (by omega):=⟨_,rfl⟩
  have dd:aE j=a.row (cV h.length G 3 c) (cV h.length G 3 e):=by rw[ck];rfl
  have c4:=(p.s.app (g':=X) (by rw[a8.1];exact aX _) λb q=>a8.2 b (by omega)).app (g':=G) (by rw[ac.1];exact aX _) λb q=>ac.2 b (by omega)
  obtain⟨h',dg,dc,di⟩:=c4.scope (d :=.agg (a.row c e)) (d' :=.agg (aE j)) (by rw[wv,dd];simp[-Xm,RI.row,km]) (qk _ j);rw[dg];exact .some ⟨j,rfl,dc,di,by rw[ck];exact p.B⟩
theorem I0{n m:Nat}{i:It}(h:RB n m (aY i)):lz i.e:=λb a=>by
 have:=(h.ft b a).1;omega
theorem Br{i:It}(hi:jD i):RB 4 3 (aY i):=by
 obtain⟨s,_⟩:=Rn hi;have n:=hi.l3;have h:=hi.fs;obtain⟨g,f,q,t⟩:=hi.ch;have p:=wL _ _ _ g f (by omega);have j:i.r.length≤32∧i.e.s7.length≤32∧i.e.s8.length≤32∧∀c∈i.e.fs,c.1.length≤1000∧c.2.length≤1000:=by
  rcases hi with⟨l,a⟩|a
  ·refine⟨by rw[l];simp[-Xm],(show ∀b∈pd,b.length≤32 by decide) _ a.tr,(show ∀b∈pe,b.length≤32 by decide) _ a.st,λc d=>⟨?_,(show ∀b∈pf,b.length≤1000 by decide) _ (a.fs.2 c d)⟩⟩;exact(show ∀b∈kD,b.length≤1000 by decide) _ (a.fs.1.subset (e8.2 ⟨c,d,rfl⟩))
  ·exact⟨(show ∀b∈qt,b.length≤32 by decide) _ a.r,by rw[a.tr];simp[-Xm],by rw[a.st];simp[-Xm],λc d=>by rw[a.fs]at d;cases d⟩
 obtain⟨r1,u,v,o⟩:=j;exact⟨by show i.r.length≤1000;omega,by show i.e.s7.length≤1000;omega,by show i.e.s8.length≤1000;omega,h,n,λm k=>by have:=(p m k).2;omega,o⟩
abbrev FM:=Int × Int
def iP(m:FM):List D:=[.int .i64 m.1,.int .i64 m.2]
def Ix(ms:List FM):Bool:=ms.any λa=>decide (a.1<0)||decide (a.2<0)
def BQ:Nat→lT→List FM × lT
 |0,s=>([],s)
 |n+1,s=>if s.2=true then([],s)else(((ph s).1,(ph (ph s).2).1)::(BQ n (ph (ph s).2).2).1,(BQ n (ph (ph s).2).2).2)
def dN(l:List Int):Nat:=(num ((l.drop 4).take 4)).toNat
def LY(l:List Int):lT:=((l.take (8+dN l)).drop 8,false)
def dA(l:List Int):Int × lT:=ph (LY l)
def dM(l:List Int):List FM × lT:=BQ (HM (dA l).2).1.toNat (HM (dA l).2).2
theorem Io(n0:Nat)(h:J)(n:Nat)(m:FM):∀d∈iP m,cV n0 h n d=d:=by
 intro d a;simp only[iP,dW,kS,iS]at a;rcases a with rfl|rfl<;>exact G0 _ _ _ _ _
theorem Ip(n:Nat)(m:FM):∀d∈iP m,Ok n d:=by
 intro d a;simp only[iP,dW,kS,iS]at a;rcases a with rfl|rfl<;>exact .int _ _
theorem Ro(h:J)(n:Nat)(i:It):∀d∈aE i,snap h n d=d:=by
 intro d b;simp only[aE,bV,dW,kS,iS]at b;rcases b with rfl|rfl|rfl|rfl|rfl|rfl|rfl|rfl|rfl|rfl|rfl
 case inr.inr.inr.inr.inr.inl=>rcases i.e.fZ with⟨a,_⟩|⟨c,a⟩<;>rw[a]<;>cases n<;>rfl
 case inr.inr.inr.inr.inr.inr.inr.inr.inr.inr=>rcases i.e.gk with⟨a,_⟩|⟨c,a⟩<;>rw[a]<;>cases n<;>rfl
 all_goals (cases n<;>rfl)
structure ox (i:It):Prop where
 r:yd i
 b:(p0 i).length≤20000
 e:gT i=0
theorem UU(l:List FM)(d e:D)(h:J)(i:aR 2 iP l d)(m:aR 2 iP l e)(A:l.length≤9000000000000000000):R tC [d,e] h=some (.bool true,h):=by
 apply Wp.val;rw[Nt];simp only[DX,W,dE,dC,eA,bG,aP,aL,tW i,tW m,aK,aU];refine Wp.loop (λk f c=>c=h∧∃q r s,∃a:Nat,f=[q,.int .i64 a,r,s]∧k+a=l.length)
  (λp=>p.1 = .ext 0∧p.2.2=h) l.length ⟨rfl,_,_,_,0,rfl,rfl⟩ ?_ ?_
 ·rintro k f c ⟨rfl,q,r,s,a,rfl,z⟩;simp only[DY,bD,bY,W,aU,tW i,cI];refine Wp.dS ?_ ?_
  ·intro g;have g:a<l.length:=gS g;have j:l[a]?=some l[a]:=cJ g;generalize l[a]=b at j;have v:aQ tab eT d (.int .i64 a)=some (.aI (iP b)):=by rw[tS i];simp[-Xm,j]
   have w:aQ tab eT e (.int .i64 a)=some (.aI (iP b)):=by rw[tS m];simp[-Xm,j]
   have x:aA tab c dU (.aI (iP b))=some (.agg (iP b)):=id rfl;have u:=fD a (by omega);have t:V tab .neq dU (.agg (iP b)) (.agg (iP b))=some (.bool false):=by
    have:=Lg b.1 b.1 b.2 b.2;simpa[-Xm,iP]using this
   simp only[v,w,x,t,W,aK,aP,aL,cY,u];exact .some (.inl ⟨rfl,k - 1,by omega,rfl,_,_,_,a+1,rfl,by omega⟩)
  ·intro _;exact .some (.inr ⟨by simp,rfl,rfl⟩)
 ·rintro⟨y,f,c⟩ ⟨n,o⟩;simp only at n o;subst n;subst o;simp only[dV,cL,W,bR];exact .some rfl
theorem Cp(l m:List It)(e f:D)(h:J)(j:aR 11 aE l e)(q:aR 11 aE m f)(r:l.map aY=m.map aY)(K:l.length≤9000000000000000000):R qc [e,f] h=some (.bool true,h):=by
 apply Wp.val;have B:m.length=l.length:=by have:=gi List.length r;simpa using this.symm
 rw[Nu];simp only[DZ,W,dE,dC,eA,bG,aP,aL,jh j,jh q,B,aK,aU];refine Wp.loop (λp g c=>c=h∧∃x y z,∃a:Nat,g=[x,.int .i64 a,y,z]∧p+a=l.length)
  (λv=>v.1 = .ext 0∧v.2.2=h) l.length ⟨rfl,_,_,_,0,rfl,rfl⟩ ?_ ?_
 ·rintro p g c ⟨rfl,x,y,z,a,rfl,I⟩;simp only[D0,bD,bY,W,aU,jh j,cI];refine Wp.dS ?_ ?_
  ·intro i;have i:a<l.length:=gS i;have k:l[a]?=some l[a]:=cJ i;have n:m[a]?=some m[a]:=cJ (by omega);have o:aY l[a]=aY m[a]:=by
    have d:(l.map aY)[a]?=some (aY l[a]):=by rw[dH,k];rfl
    have A:(m.map aY)[a]?=some (aY m[a]):=by rw[dH,n];rfl
    rw[r,A]at d;injection d with d;exact d.symm
   generalize l[a]=b at k o;generalize m[a]=w at n o;have E:aQ tab aV e (.int .i64 a)=some (.aI (aE b)):=by rw[k8 j];simp[-Xm,k]
   have F:aQ tab aV f (.int .i64 a)=some (.aI (aE w)):=by rw[k8 q];simp[-Xm,n]
   have G:∀b:It,aA tab c aF (.aI (aE b))=some (.agg (aE b)):=λb=>id rfl
   have C:=fD a (by omega);have s:=Vd b w c;rw[(Un o).2.2.2]at s;simp only[E,F,G,s,W,fK,eY,aK,aP,aL,cY,C];exact .some (.inl ⟨rfl,p - 1,by omega,rfl,_,_,_,a+1,rfl,by omega⟩)
  ·intro _;exact .some (.inr ⟨by simp,rfl,rfl⟩)
 ·rintro⟨H,g,c⟩ ⟨t,u⟩;simp only at t u;subst t;subst u;simp only[dV,cL,W,bR];exact .some rfl
theorem Ih(k:Int):∀(c:List dJ) (a b:Int),gw a c b→gw (a+k) (c.map λl=>⟨l.off+k,l.len,l.eD⟩) (b+k)
 |[],a,b,h=>by show a+k=b+k;rw[show a=b from h]
 | l::r,a,b,h=>by
  obtain⟨d,h2,e,f,g⟩:=h;refine⟨by show l.off+k=a+k;rw[d],h2,e,f,?_⟩;have:=Ih k r _ b g;show gw (a+k+l.len) _ _;rw[show a+k+l.len=a+l.len+k by omega];exact this
def lM(x:RI)(f k:Int):RI:=⟨x.r,x.a0,f,x.a2+k,x.a3+k,x.ls.map λa=>⟨a.off+k,a.len,a.eD⟩,x.a5,x.a6,x.t7,x.t8,x.fs⟩
theorem Iv{i j:It}(hi:jD i){f k:Int}(bb:0≤f)(bc:f≤2)(a9:0≤i.e.a2+k)(X:i.e.a3+k≤50000)(aa:aY j=lM (aY i) f k):ox j:=by
 obtain⟨F,⟨u,v,n,o,l,E,p,w,s,t,g,D,P,Q,R,T⟩⟩:=j;simp only[aY,lM,RI.mk.injEq]at aa;obtain⟨H,aw,ax,ay,az,I,af,K,L,M,C⟩:=aa;have bf:=hi.l3;have aj:=hi.fs;obtain⟨ai,a6,a7,be⟩:=hi.ch;have x:=Ih k _ _ _ ai;rw[← ay,← az,← I]at x;have a8:l.length=i.e.ls.length:=by rw[I];simp[-Xm]
 have bd:=mi _ _ _ x;have ag:=wL _ _ _ x (by omega) (by omega);have an:F.length≤32∧s.length≤32∧t.length≤32∧fu u∧fu v∧fu p∧fu w∧∀b∈g,b.1.length≤1000∧b.2.length≤1000:=by
  rw[H,aw,ax,af,K,L,M,C];rcases hi with⟨m,d⟩|d
  ·have y:=d.h0;have z:=d.h2;have ak:=d.t0;have al:=d.t9;have A:=(show ∀a∈qq,(-10000:Int)≤a∧a≤10000 by decide) _ d.wt;refine⟨by rw[m];simp[-Xm],(show ∀a∈pd,a.length≤32 by decide) _ d.tr,(show ∀a∈pe,a.length≤32 by decide) _ d.st,by unfold fu;omega,by unfold fu;omega,by unfold fu;omega,by unfold fu;omega,λb c=>⟨?_,(show ∀a∈pf,a.length≤1000 by decide) _ (d.fs.2 b c)⟩⟩;exact(show ∀a∈kD,a.length≤1000 by decide) _ (d.fs.1.subset (e8.2 ⟨b,c,rfl⟩))
  ·have y:=d.h0;have z:=d.h2;have ak:=d.t0;have al:=d.w0;exact⟨(show ∀a∈qt,a.length≤32 by decide) _ d.r,by rw[d.tr];simp[-Xm],by rw[d.st];simp[-Xm],by unfold fu;omega,by unfold fu;omega,by unfold fu;omega,by unfold fu;omega,λb c=>by rw[d.fs]at c;cases c⟩
 obtain⟨r1,bg,bh,a0,a1,a4,a5,N⟩:=an;have ah:g.length≤4:=by rw[C];exact aj
 refine⟨⟨by show F.length<_;omega,a0,a1,by unfold fu;show _≤n∧n<_;omega,by unfold fu;show _≤o∧o<_;omega,by show l.length<_;omega,λG q=>(ag G q).1,a4,a5,by show s.length<_;omega,by show t.length<_;omega,by show g.length<_;omega,λb c=>by have:=N b c;omega⟩,?_,?_⟩
 ·have y:=tn tY 220 l (λG q=>by
    have:=(ag G q).2;simp only[tY,dL,wT,r8];omega)
  have z:(g.map p9).flatten.length≤g.length*2008:=tn p9 2008 g (λb c=>by
   have:=N b c;simp only[p9,dL,r8];omega)
  have am:(g.length*2008:Nat)≤4*2008:=jG _ ah;have X:(l.length*220:Nat)≤3*220:=jG _ (by omega);simp only[p0,yI,yH,dL,wT,r8,B1];omega
 ·have q:∀B:Int,200≤B→gL (⟨u,v,n,o,l,E,p,w,s,t,g,D,P,Q,R,T⟩:Ev) B=0:=λB ap=>Sd B ap (by show 0≤n;omega) (by show o≤60000;omega) (by show 1≤l.length;omega) (by show l.length≤40;omega) x
  rcases hi with⟨m,h⟩|h
  ·have y:=h.h0;have z:=h.h2;have am:=h.t0;have X:=h.t9;have A:=(show ∀a∈qq,¬a<1∧Int.tmod 5040 a=0 by decide) _ h.wt;have ad:=(show ∀a∈pd,¬32<a.length by decide) _ h.tr;have ac:=(show ∀a∈pe,¬32<a.length by decide) _ h.st;have ab:=Tz h.fs;have au:(g.any λb=>decide (2000<b.2.length))=false:=by
    rw[EW];intro b c;have:=(N b c).2;simp[-Xm];omega
   rw[← K]at A;rw[← L]at ad;rw[← M]at ac;rw[← C]at ab;have aq:F=[]:=by rw[H];exact m
   have ar:(decide (0≤p)&&decide (p≤253402300799999))=true:=by simp;omega
   have c:fh (⟨u,v,n,o,l,E,p,w,s,t,g,D,P,Q,R,T⟩:Ev)=true:=by
    simp[-Xm,fh];omega
   simp[-Xm,gT,aq,nR,c,ar,A.1,A.2,q 2000 (by omega),ad,ac,ab,au]
  ·have m:=(show ∀a∈qt,a≠[]∧¬32<a.length by decide) _ h.r;rw[← H]at m;have y:=h.h0;have z:=h.h2;obtain rfl:p=0:=af.trans h.t0;obtain rfl:w=0:=K.trans h.w0;obtain rfl:s=[]:=L.trans h.tr;obtain rfl:t=[]:=M.trans h.st;obtain rfl:g=[]:=C.trans h.fs;have c:fh (⟨u,v,n,o,l,E,0,0,[],[],[],D,P,Q,R,T⟩:Ev)=true:=by
    simp[-Xm,fh];omega
   have ae:∀b∈l,b.eD=[]:=λb c=>by
    rw[I]at c;obtain⟨av,ao,rfl⟩:=e8.1 c;exact h.tx av ao
   have ba:(l.any λb => !(b.eD==[]))=false:=by
    rw[EW];intro b c;simp[-Xm,ae b c]
   simp[-Xm,gT,m.1,m.2,c,q 60000 (by omega)];exact ae
inductive jo:Int→List FM→Prop
 |nil (n):jo n []
 |cons {n:Int} {m:FM} {r}:n≤m.1→m.1≤3→0≤m.2→m.2≤1000→jo (m.1+1) r→jo n (m::r)
theorem jo.mem:∀{l:List FM} {n:Int},jo n l→∀m∈l,n≤m.1∧m.1≤3∧0≤m.2∧m.2≤1000
 | x::r,n,h,m,a=>by
  cases h with
  | cons b h2 c d e =>
   rcases dW.1 a with rfl|a
   ·exact⟨b,h2,c,d⟩
   ·have:=e.mem m a;omega
theorem jo.neg{l:List FM}{n:Int}(h:jo n l)(c:0≤n):Ix l=false:=by
 unfold Ix;rw[EW];intro b a;have:=h.mem b a;simp[-Xm];omega
theorem jo.app{k:Int}:∀{l:List FM} {n:Int} {m:FM},jo n l→(∀x∈l,x.1<m.1)→n≤m.1→m.1≤3→0≤m.2→m.2≤1000→jo n (l++[m])
 |[],n,m,h,c,d,h2,a,b =>.cons d h2 a b (.nil _)
 | x::r,n,m,h,c,d,h2,a,b=>by
  cases h with
  | cons g1 e f g i =>
   have:=c x (by simp);exact .cons g1 e f g (jo.app (k:=k) i (λo j=>c o (gy _ j)) (by omega) h2 a b)
theorem Th{h:J}{o:Nat}(z:CM h o):∃ms d h',R rJ [.ptr o 0 0] h=some (d,h')∧aR 2 iP ms d∧jo 0 ms∧CM h' o∧bW o h h':=by
 suffices Wp (R rJ [.ptr o 0 0] h) (λv=>∃ms,aR 2 iP ms v.1∧jo 0 ms∧CM v.2 o∧bW o h v.2) by
  obtain⟨⟨p,h'⟩,S,ms,T⟩:=this;exact⟨ms,p,h',S,T⟩
 have B:=z.lt;rw[Nr];simp only[DU,W,aU];refine Wp.loop (λn s g=>∃d,∃a:Nat,∃p I,∃b:List FM,s=[d,.int .i64 a,p,I]∧n+a=4∧Sm h o g∧Own g h.length dU 2 (b.map iP) d∧jo 0 b∧(∀e∈b,e.1<a)∧b.length≤a)
  (λl=>l.1 = .ext 0∧∃d,∃b:List FM,Z 0 l.2.1=d∧Sm h o l.2.2∧Own l.2.2 h.length dU 2 (b.map iP) d∧jo 0 b) 4 ⟨.aB,0,.any,.any,[],rfl,rfl,.refl z,.aB _ _ _ _,.nil _,by simp,by simp⟩ ?_ ?_
 ·rintro n s g ⟨d,a,p,I,b,rfl,am,f,j,i,u,an⟩;simp only[DV,bD,bY,W,aU,cI];refine Wp.dS ?_ ?_
  ·intro y;have y:a<4:=gS y;have D:=fD a (by omega);obtain⟨af,aj,P,M,G,ao,ap⟩:=gv f.cd 2 (by omega) (by omega);have q:=f.next M G;have E:=j.same G B;simp only[P,W,fa];by_cases C:af=1
   ·simp only[C,bK,aK,aJ];obtain⟨m,ak,Q,N,H,ag,aq⟩:=gv q.cd 120 (by omega) (by omega);have w:=q.next N H;have ac:=E.same H B;simp only[Q,W,K7,Li,aU];refine J7 (ys:=[iP ((a:Int),m)]) (n0:=h.length) w.le ac (iq _ _ _ _) (by simp;omega) λah al F ab aa _ _=>?_
    have K:=w.app ab λad X=>aa ad X
    simp only[W,cL,gV,bD,cY,D];have t:b.map iP++[iP ((a:Int),m)]=(b++[((a:Int),m)]).map iP:=by simp
    rw[t]at F;refine .some (.inl ⟨rfl,n - 1,by omega,_,a+1,_,_,_,rfl,by omega,K,F,jo.app (k:=0) i (λe c=>u e c) (by show(0:Int)≤a;omega) (by show(a:Int)≤3;omega) ag (by show m≤1000;omega),λe c=>?_,by simp;omega⟩);rcases eI.1 c with c|c
    ·have:=u e c;omega
    ·simp at c;rw[c];show(a:Int)<_;omega
   ·simp only[C,bG,aK,aP,aL];simp only[W,cL,gV,bD,cY,D];exact .some (.inl ⟨rfl,n - 1,by omega,_,a+1,_,_,b,rfl,by omega,q,E,i,λe c=>by have:=u e c;omega,by omega⟩)
  ·intro _;exact .some (.inr ⟨by simp,rfl,d,b,rfl,f,j,i⟩)
 ·rintro⟨ai,s,g⟩ ⟨rfl,d,b,A,f,j,i⟩;simp only at A f j;simp only[dV,cL,W,bD,A,bR];have x:=jy (n0:=h.length) (n:=3) j (aX _) (λr _=>Io _ g 3 r);obtain⟨h',t,L,ae⟩:=f.scope (d:=d) rfl (jA x λr _=>Ip _ r);rw[t];exact .some ⟨b,x,i,L,ae⟩
def mm(k:Int)(l:dJ):dJ:=⟨l.off+k,l.len,l.eD⟩
theorem Vo(s:Int)(a:List dJ)(i:Nat)(hi:i<a.length):(((a.take i).map (mm s)++a.drop i).map bC).set i (bC (mm s a[i]))=((a.take (i+1)).map (mm s)++a.drop (i+1)).map bC:=by
 have b:a[i]?=some a[i]:=cJ hi;rw[ia hi,gA,b];generalize a[i]=c;rw[fV,gO,oe _ _ _ _ i (by simp;omega)];simp[-Xm]
theorem TX{s:Int}{c:List dJ}{x:D}{n0:Nat}{g:J}(aa:Own g n0 bS 3 (c.map bC) x)(af:c.length≤1000)(P:∀l∈c, -9223372036854775808≤l.off+s∧l.off+s<9223372036854775808)(a b:D){E:Type}{t:bN→Option E}{Q:E→Prop}
  (k:∀g' i j m,g'.length=g.length→(∀e,¬x.e9 e→g'[e]?=g[e]?)→Own g' n0 bS 3 ((c.map (mm s)).map bC) x→Wp (t (.ext 2,[i,j,m],g')) Q) :
  Wp ((cA (xT (.int .i64 s) x (.int .i64 c.length)) [a,.int .i64 0,b] g).bind t) Q:=by
 refine Wp.loop (λh r g'=>∃B C,∃d:Nat,r=[B,.int .i64 d,C]∧h+d=c.length∧g'.length=g.length∧(∀e,¬x.e9 e→g'[e]?=g[e]?)∧Own g' n0 bS 3 (((c.take d).map (mm s)++c.drop d).map bC) x)
  (λh=>h.1 = .ext 2∧∃i j m,h.2.1=[i,j,m]∧h.2.2.length=g.length∧(∀e,¬x.e9 e→h.2.2[e]?=g[e]?)∧Own h.2.2 n0 bS 3 ((c.map (mm s)).map bC) x) c.length ⟨_,_,0,rfl,by omega,rfl,λ_ _=>rfl,by simpa using aa⟩ ?_ ?_
 ·rintro h r g' ⟨B,C,d,rfl,ae,q,o,n⟩;simp only[xT,bD,bY,W,aU,cI];refine Wp.dS ?_ ?_
  ·intro f;have f:d<c.length:=gS f;have F:c[d]?=some c[d]:=cJ f;have M:=Vo s c d f;have I:c[d]∈c:=ou f;have p:(((c.take d).map (mm s)++c.drop d).map bC)[d]?=some (bC c[d]):=by
    rw[dH,hV (by simp;omega)];have:d - ((c.take d).map (mm s)).length=0:=by simp;omega
    rw[this,kt];simp[-Xm,F]
   have u:(((c.take d).map (mm s)++c.drop d).map bC).length=c.length:=by simp;omega
   obtain⟨ab,ag⟩:=P _ I;generalize c[d]=l at *;have T:IntKind.wrap .i64 (l.off+s)=l.off+s:=cN ab (by omega);have R:=fD d (by omega);rcases n with⟨_,K⟩|⟨y,L,rfl,v⟩
   ·rw[K]at p;cases p
   rw[u];have H:(0:Int)≤d∧(d:Int)<c.length:=⟨by omega,by omega⟩
   have X:aA tab g' U (.ptr y d 0)=some (.int .i64 l.off):=by rw[fB,dT v,p];rfl
   rw[u]at o;simp only[qm,H,gX,aJ,W,dF,dY,k5,ov,X,cY,T];refine kr (kk:=d) (off:=0) (row:=bC l) v p (by rfl) (by simp[-Xm,bC]) (by rfl) λad z A=>?_
   have N:dQ (bC l) 0 (cP (.int .i64 (l.off+s)))=bC (mm s l):=id rfl;rw[N,M]at z;simp only[W,R];refine .some (.inl ⟨rfl,h - 1,by omega,_,_,d+1,rfl,by omega,A.1.trans q,λe w=>?_,?_⟩)
   ·rw[A.2 e λG=>w ⟨3,c.length,by rw[G]⟩];exact o e w
   ·refine .inr ⟨y,L,?_,z⟩;have:(((c.take (d+1)).map (mm s)++c.drop (d+1)).map bC).length=c.length:=by simp;omega
    rw[this]
  ·intro f;have f:d=c.length:=by
    have:¬(d:Int)<c.length:=by simpa using f
    omega
   subst f;rw[j9,pO,u2]at n;exact .some (.inr ⟨by simp,rfl,_,_,_,rfl,q,o,n⟩)
 ·rintro⟨ac,r,g'⟩ ⟨rfl,i,j,m,rfl,q,o,n⟩;exact k g' i j m q o n
def oB(g:J)(n0:Nat)(x:RI)(row:List D):Prop:=∃b a,row=x.row b a∧Own g n0 bS 3 (x.ls.map bC) b∧aR 2 aN x.fs a∧x.ls.length≤1000∧x.fs.length≤1000
inductive ky (g:J) (n0:Nat):List RI→List (List D)→Prop
 |nil:ky g n0 [] []
 |cons {x row xs rows}:oB g n0 x row→ky g n0 xs rows→ky g n0 (x::xs) (row::rows)
theorem ky.snoc{g:J}{n0:Nat}{x:RI}{row:List D}:∀{xs:List RI} {rows:List (List D)},ky g n0 xs rows→oB g n0 x row→ky g n0 (xs++[x]) (rows++[row])
 |_,_,.nil,h =>.cons h .nil
 |_,_,.cons a b,h =>.cons a (b.snoc h)
theorem ky.len{g:J}{n0:Nat}:∀{xs:List RI} {rows:List (List D)},ky g n0 xs rows→rows.length=xs.length
 |_,_,.nil=>rfl
 |_,_,.cons a b=>by simp[-Xm,b.len]
theorem oB.bH{g g':J}{n0:Nat}{x:RI}{row:List D}(h:oB g n0 x row)(i:∀a l,n0≤a→a<g.length→g[a]?=some (.row bS 3 l)→g'[a]?=g[a]?):oB g' n0 x row:=by
 obtain⟨k,d,e,b,f⟩:=h;exact⟨k,d,e,b.bH λa j c=>i a _ j (b.lt c).2 (kp b c),f⟩
theorem ky.bH{g g':J}{n0:Nat}(d:∀c e,n0≤c→c<g.length→g[c]?=some (.row bS 3 e)→g'[c]?=g[c]?):∀{xs:List RI} {rows:List (List D)},ky g n0 xs rows→ky g' n0 xs rows
 |_,_,.nil =>.nil
 |_,_,.cons a b =>.cons (a.bH d) (b.bH d)
theorem oB.fz{g:J}{n0 m:Nat}(k:m≤n0){x:RI}{row:List D}(h:oB g n0 x row):∃j:It,aY j=x∧row.map (Pi.cV m g 2)=aE j:=by
 obtain⟨d,a,rfl,f,b,p,q⟩:=h;have l:=jy (n0:=m) (n:=1) f k (λe _=>r3 _ g _ e);have i:Pi.cV m g 2 a=a:=uz (n:=1) b λr _ o c=>by
  simp only[aN,dW,kS,iS]at c;rcases c with rfl|rfl<;>rfl
 refine⟨BP x (Pi.cV m g 2 d) a l b (by omega) (by omega),TC _ _ _ _ _ _ _,?_⟩;show[_,_,_,_,_,Pi.cV m g 2 d,_,_,_,_,Pi.cV m g 2 a]=_;rw[i];rfl
theorem ky.fz{g:J}{n0 m:Nat}(d:m≤n0):∀{xs:List RI} {rows:List (List D)},ky g n0 xs rows→∃c:List It,c.map aY=xs∧rows.map (λrow=>row.map (Pi.cV m g 2))=c.map aE
 |_,_,.nil=>⟨[],rfl,rfl⟩
 | _,_,.cons a b=>by
  obtain⟨j,e,h2⟩:=a.fz d;obtain⟨c,f,h⟩:=b.fz d;exact⟨j::c,by simp[-Xm,e,f],by simp[-Xm,h2,h]⟩
theorem TU{g:J}{a m e z n:Nat}{rows:List (List D)}{d:D}(b:Own g a e z rows d)(i:m≤a):(rows=[]∧cV m g (n+1) d = .aB)∨cV m g (n+1) d = .sl z false (rows.map λrow=>row.map (cV m g n)):=by
 rcases b with⟨rfl,f⟩|⟨h,j,rfl,c⟩
 ·exact .inl ⟨f,rfl⟩
 ·right;have:Nat.ble m h=true:=by rw[Nat.ble_eq];omega
  simp only[Pi.cV,this,c,gx,j9]
theorem Hi(o k:Nat)(f:Int)(a:0≤f)(d:f<3):aQ tab iV (.ptr o k 0) (.int .i64 f)=some (.ptr o k f.toNat):=by
 have b:oK tab iV=some (gb,some 3):=id rfl;have c:gb.Y=1:=id rfl;have e:f<((3:Nat):Int):=d;simp only[aQ,b,c,a,e,gX,aJ,Nat.zero_lt_one];simp[-Xm]
def k3(a:List Int):List D:=a.map (.int .i64 ·)
structure QA (h g k:J) (o:Nat) (es:List Int) (row:List D):Prop where
 s:Sm h o k
 e:k[h.length]?=some (.row iV 3 [k3 es])
 i:k[g.length]?=some (.row aF 11 [row])
 a:∀q,q<g.length→q≠o→q≠h.length→k[q]?=g[q]?
 hg:h.length<g.length
theorem QA.l{h g k:J}{o:Nat}{a:List Int}{row:List D}(A:QA h g k o a row):g.length<k.length:=(bO.1 A.i).1
theorem QA.next{h g k b:J}{o:Nat}{d:List Int}{row:List D}(A:QA h g k o d row)(c:CM b o)(s:bW o k b):QA h g b o d row:=
 have n:=A.s.lt;have hg:=A.hg
 ⟨A.s.next c s,by rw[s.2 _ (by omega)];exact A.e,by rw[s.2 _ (by omega)];exact A.i,λj l f m=>by rw[s.2 j f];exact A.a j l f m,A.hg⟩
theorem QA.put{h g k c:J}{o:Nat}{d:List Int}{row f:List D}(A:QA h g k o d row)(p:c[g.length]?=some (.row aF 11 [f]))(s:bW g.length k c):QA h g c o d f:=
 have m:=A.s.lt;have hg:=A.hg
 ⟨A.s.app (mI s.1.symm) λb n=>s.2 b (by omega),by rw[s.2 _ (by omega)];exact A.e,p,λb i j l=>by rw[s.2 b (by omega)];exact A.a b i j l,A.hg⟩
theorem QA.ends{h g k c:J}{o:Nat}{f d:List Int}{row:List D}(A:QA h g k o f row)(p:c[h.length]?=some (.row iV 3 [k3 d]))(s:bW h.length k c):QA h g c o d row:=
 have m:=A.s.lt;have hg:=A.hg
 ⟨A.s.app (mI s.1.symm) λb n=>s.2 b (by omega),p,by rw[s.2 _ (by omega)];exact A.i,λb j l e=>by rw[s.2 b e];exact A.a b j l e,A.hg⟩
theorem QA.grow{h g k c:J}{o:Nat}{d:List Int}{row:List D}(A:QA h g k o d row)(l:k.length≤c.length)(s:∀b,b<g.length+1→c[b]?=k[b]?):QA h g c o d row:=
 have n:=A.s.lt;have hg:=A.hg
 ⟨A.s.app l λb p=>s b (by omega),by rw[s _ (by omega)];exact A.e,by rw[s _ (by omega)];exact A.i,λb f j m=>by rw[s b (by omega)];exact A.a b f j m,A.hg⟩
theorem Oa(a:List Int)(f v:Int)(b:a.length=3)(g:0≤f)(h:f<3):dQ (k3 a) f.toNat (cP (.int .i64 v))=k3 (a.set f.toNat v):=by
 match a,b with
 | [c,d,e],_ =>
  have:f=0∨f=1∨f=2:=by omega
  rcases this with rfl|rfl|rfl<;>rfl
theorem N9(a:List Int)(f:Int)(g:a.length=3)(h:0≤f)(i:f<3):∃e,a[f.toNat]?=some e∧((k3 a).drop f.toNat).head?=some (.int .i64 e)∧e∈a:=by
 match a,g with
 | [b,c,d],_ =>
  have:f=0∨f=1∨f=2:=by omega
  rcases this with rfl|rfl|rfl
  ·exact⟨b,rfl,rfl,by simp⟩
  ·exact⟨c,rfl,rfl,by simp⟩
  ·exact⟨d,rfl,rfl,by simp⟩
def cU(r:Int):List D:=[.int .i64 r]
def dX(f:Int)(xs:List RI):Option Int:=xs.foldl (λb a=>if a.a1=f then some a.a3 else b) none
theorem Hy(f:Int)(xs:List RI)(z:RI):dX f (xs++[z])=if z.a1=f then some z.a3 else dX f xs:=by simp[-Xm,dX]
def iY(z:RI):Prop:=∃(a:It) (b c:Int),jD a∧0≤b∧b≤2∧0≤a.e.a2+c∧a.e.a3+c≤50000∧z=lM (aY a) b c
def iX(xs:List RI):Prop:=∀(c:Nat) (a:RI),xs[c]?=some a→∀b,dX a.a1 (xs.take c)=some b→b=a.a2
theorem iX.snoc{xs:List RI}{z:RI}(h:iX xs)(i:∀e,dX z.a1 xs=some e→e=z.a2):iX (xs++[z]):=λb j a e c=>by
 rcases fm b xs.length with d|d
 ·rw[eV d]at a;rw[List.take_append_of_le_length (by omega)]at c;exact h b j a e c
 ·rw[hV d]at a;have f:b - xs.length=0:=by
   cases g:b - xs.length with
   |zero=>rfl
   |succ k=>rw[g]at a;cases a
  rw[f]at a;injection a with a;subst a;have:b=xs.length:=by omega
  rw[this,vd]at c
  ·exact i e c
  ·rfl
structure QP (h g:J) (o:Nat) (es:List Int) (xs:List RI) (rows:List (List D)) (rs:List Int) (x y:D):Prop where
 s:Sm h o g
 e:g[h.length]?=some (.row iV 3 [k3 es])
 e3:es.length=3
 eb:∀e∈es,0≤e∧e≤40+1000*xs.length
 q:ky g (h.length+1) xs rows
 x:Own g (h.length+1) aF 11 rows x
 y:Own g (h.length+1) U 1 (rs.map cU) y
 ok:∀z∈xs,∀j:It,aY j=z→ox j
 rl:rs.length=xs.length
 lk:∀f e:Int,dX f xs=some e→0≤f→f<3→es[f.toNat]?=some e
 ct:iX xs
 fq:∀z∈xs,z.fs.length≤20
 dr:∀z∈xs,iY z
theorem QP.hg{h g:J}{o:Nat}{a:List Int}{xs:List RI}{rows:List (List D)}{b:List Int}{x y:D}(P:QP h g o a xs rows b x y):h.length<g.length:=(bO.1 P.e).1
theorem TZ{h g:J}{o:Nat}{m:List Int}{xs:List RI}{rows:List (List D)}{H:List Int}{x y:D}(P:QP h g o m xs rows H x y)(q:xs.length≤40){n:Int}(c8:0<n)(ek:n≤1000){b4:D × J}(bl:b4.1 = .ptr h.length 0 0)(cf cg ci cj ck cl cm cd ce:D){Q:bN→Prop}
  (k:∀g' cy z rows' r x' al co ac cp cq cr cs cu ry cn,QP h g' o cy (xs++[z]) rows' (H++[r]) x' al→Q (.aS,[x',al,.int .i64 (n - 1),co,ac,cp,cq,cr,cs,cu,ry,cn],g')) :
  Wp (uR (.ptr o 0 0) b4 [x,y,.int .i64 n,cf,cg,ci,cj,ck,cl,cm,cd,ce] g) Q:=by
 have c6:decide (n>0)=true:=hh c8;have el:=P.s.lt;have bj:=P.hg;simp only[uR,bD,bY,W,aU,cZ,c6,aK,aJ];obtain⟨a,E,bf,cb,ak,l⟩:=BK P.s.cd;obtain⟨bi,d7,d8,eo⟩:=l.ch;have ei:=mi _ _ _ bi;have ep:=l.l3;have ec:=l.fs;simp only[bf,W];have aw:E.length=g.length:=ak.1;have n0:(aZ E aF 11 [[.str [],.int .i64 0,.int .i64 0,.int .i64 0,.int .i64 0,.aB,.int .i64 0,.int .i64 0,.str [],.str [],.aB]])[g.length]?=some (.row aF 11 [aE jC]):=by rw[← aw];exact hZ _ _ _ _
 have ai:∀b,b<g.length→(aZ E aF 11 [[.str [],.int .i64 0,.int .i64 0,.int .i64 0,.int .i64 0,.aB,.int .i64 0,.int .i64 0,.str [],.str [],.aB]])[b]?=E[b]?:=λb j=>gQ _ _ _ _ (by omega)
 have dt:(aZ E aF 11 [[.str [],.int .i64 0,.int .i64 0,.int .i64 0,.int .i64 0,.aB,.int .i64 0,.int .i64 0,.str [],.str [],.aB]]).length=g.length+1:=by rw[← aw];exact hN _ _ _ _
 rw[aw];generalize aZ E aF 11 [[.str [],.int .i64 0,.int .i64 0,.int .i64 0,.int .i64 0,.aB,.int .i64 0,.int .i64 0,.str [],.str [],.aB]]=c0 at *;have am:QA h g c0 o m (aE jC):=⟨(P.s.next cb ak).app (by omega) λb j=>ai b (by omega),by rw[ai _ bj,ak.2 _ (by omega)];exact P.e,n0,λb d c3 ef=>by rw[ai b d,ak.2 b c3],bj⟩
 clear n0 ai dt;refine jP (kk:=0) (off:=0) (row:=aE jC) (v :=.agg (aE a)) am.i (by rfl) (by rfl) (by exact aX _) (ql _) λar b2 b7=>?_
 have an:QA h g ar o m (km a.r a.e.a0 a.e.a1 a.e.a2 a.e.a3 a.e.ld a.e.a5 a.e.a6 a.e.s7 a.e.s8 a.e.fd):=am.put b2 b7;clear b2 b7 am bf;obtain⟨e,ed,ac,be,b8,A,ad⟩:=gv an.s.cd 3 (by omega) (by omega);have ao:=an.next be b8;clear an b8 be;simp only[ac,W,kh,tm];refine kr (kk:=0) (off:=0+1+1) (v :=.int .i64 e) ao.i (by rfl) (by rfl) (by simp[-Xm,km]) (by rfl) λM b3 b9=>?_
 have I:QA h g M o m (km a.r a.e.a0 e a.e.a2 a.e.a3 a.e.ld a.e.a5 a.e.a6 a.e.s7 a.e.s8 a.e.fd):=ao.put b3 b9;clear b3 b9 ao ac;obtain⟨c,R,c4,c5⟩:=N9 m e P.e3 A ad;obtain⟨d9,ea⟩:=P.eb c c5;have dl:aA tab M U (.ptr h.length 0 e.toNat)=some (.int .i64 c):=by rw[fB,dT I.e];exact c4
 have dm:aA tab M U (.ptr g.length 0 (0+1+2))=some (.int .i64 a.e.a2):=by rw[fB,dT I.i];rfl
 have dq:aA tab M bA (.ptr g.length 0 (0+1+4))=some a.e.ld:=by rw[nr,dT I.i];rfl
 have df:IntKind.wrap .i64 (c - a.e.a2)=c - a.e.a2:=cN (by omega) (by omega);simp only[W,bl,Hi _ _ e A ad,dl,kh,l8,mZ,dm,dq,eH,df];refine sq (n0:=M.length) (rows:=[]) (aX _) (.aB _ _ _ _) (sj _ a.e.fZ) (by simp;omega) λu ee aj dj bm _ _=>?_
 rw[jE]at aj;have eq:=I.l;have bc:=I.grow dj λb j=>bm b (by omega)
 have ds:aT tab bA u=some (.int .i64 a.e.ls.length):=by rw[wE aj];simp[-Xm]
 have da:∀G∈a.e.ls,0≤G.off∧G.off≤1000:=by
  have di:∀(ah:List dJ) (ab L:Int),gw ab ah L→∀y∈ah,ab≤y.off∧y.off≤L:=by
   intro ah
   induction ah with
   |nil=>intro ab L _ y T;simp at T
   | cons z r dg =>
    intro ab L h y T;have eg:=mi _ _ _ h.2.2.2.2;rcases dW.1 T with rfl|T
    ·have:=h.1;have:=h.2.1;omega
    ·have:=dg _ L h.2.2.2.2 y T;have:=h.2.1;omega
  intro G p;have:=di _ _ _ bi G p;omega
 simp only[W,ds,aU];refine TX (s:=c - a.e.a2) aj (by omega) (λG p=>by have:=da G p;omega) _ _ λau ez ex ey es bn bx=>?_
 have K:QA h g au o m _:=bc.grow (by omega) λb j=>bn b λag=>by have:=(aj.lt ag).1;omega
 clear bn bc bm;have br:aA tab au U (.ptr g.length 0 (0+1+2))=some (.int .i64 a.e.a2):=by rw[fB,dT K.i];rfl
 have bt:aA tab au U (.ptr g.length 0 (0+1+3))=some (.int .i64 a.e.a3):=by rw[fB,dT K.i];rfl
 have dd:IntKind.wrap .i64 (a.e.a2+(c - a.e.a2))=a.e.a2+(c - a.e.a2):=cN (by omega) (by omega);have de:IntKind.wrap .i64 (a.e.a3+(c - a.e.a2))=a.e.a3+(c - a.e.a2):=cN (by omega) (by omega);simp only[W,dV,cL,bD,bY,kh,l8,nU,mZ,br,bt,cY,dd,de,aU];have ax:=j5 (kE bx);refine pB (kk:=0) (off:=0+1+4) K.i (by rfl) (by rw[ax.1];rfl) (by simp[-Xm,km]) ax.2 λc1 ay a4=>?_
 rw[ax.1]at ay;have ap:QA h g c1 o m (km a.r a.e.a0 e a.e.a2 a.e.a3 u a.e.a5 a.e.a6 a.e.s7 a.e.s8 a.e.fd):=K.put ay a4;have bz:=bx.same a4 (by omega);clear ay a4 K br bt
 try simp only[W,kh,l8,nU]
 refine kr (kk:=0) (off:=0+1+2) (v :=.int .i64 (a.e.a2+(c - a.e.a2))) ap.i (by rfl) (by rfl) (by simp[-Xm,km]) (by rfl) λc2 b5 a7=>?_
 have aq:QA h g c2 o m (km a.r a.e.a0 e (a.e.a2+(c - a.e.a2)) a.e.a3 u a.e.a5 a.e.a6 a.e.s7 a.e.s8 a.e.fd):=ap.put b5 a7;have b0:=bz.same a7 (by omega);clear b5 a7 ap bz
 try simp only[W,kh,l8,nU]
 refine kr (kk:=0) (off:=0+1+3) (v :=.int .i64 (a.e.a3+(c - a.e.a2))) aq.i (by rfl) (by rfl) (by simp[-Xm,km]) (by rfl) λbh b6 a8=>?_
 have aa:QA h g bh o m (km a.r a.e.a0 e (a.e.a2+(c - a.e.a2)) (a.e.a3+(c - a.e.a2)) u a.e.a5 a.e.a6 a.e.s7 a.e.s8 a.e.fd):=aq.put b6 a8;have b1:=b0.same a8 (by omega);clear b6 a8 aq b0;have bu:aA tab bh U (.ptr g.length 0 (0+1+3))=some (.int .i64 (a.e.a3+(c - a.e.a2))):=by rw[fB,dT aa.i];rfl
 simp only[W,kh,nU,bu,bl,Hi _ _ e A ad];refine kr (kk:=0) (off:=e.toNat) (v :=.int .i64 (a.e.a3+(c - a.e.a2))) aa.e (by rfl) (by rfl) (by simp only[k3,eQ,P.e3];omega) (by rfl) λN az a9=>?_
 rw[Oa m e _ P.e3 A ad]at az;have C:QA h g N o (m.set e.toNat (a.e.a3+(c - a.e.a2))) _:=aa.ends az a9;have du:=b1.same a9 (by omega);clear az a9 aa b1 bu;have dp:aA tab N aF (.ptr g.length 0 0)=some (.agg (km a.r a.e.a0 e (a.e.a2+(c - a.e.a2)) (a.e.a3+(c - a.e.a2)) u a.e.a5 a.e.a6 a.e.s7 a.e.s8 a.e.fd)):=qp C.i rfl;have c7:bJ tab aV 1 [0] [.agg (km a.r a.e.a0 e (a.e.a2+(c - a.e.a2)) (a.e.a3+(c - a.e.a2)) u a.e.a5 a.e.a6 a.e.s7 a.e.s8 a.e.fd)]=some (.sl 11 true [km a.r a.e.a0 e (a.e.a2+(c - a.e.a2)) (a.e.a3+(c - a.e.a2)) u a.e.a5 a.e.a6 a.e.s7 a.e.s8 a.e.fd]):=id rfl;simp only[W,dp,c7];have ag:∀{i z:Nat} {rw:List (List D)} {w:D},Own g (h.length+1) i z rw w→Own N (h.length+1) i z rw w:=λt=>t.bH λb j l=>C.a b (t.lt l).2 (by omega) (by omega)
 have ba:=ag P.x;have d5:=ag P.y;have d0:=P.q.bH (g':=N) λb _ j db _=>C.a b db (by omega) (by omega)
 have ej:rows.length≤40:=by rw[P.q.len];exact q
 have et:=C.l;refine nD (n0:=h.length+1) (by omega) ba (iq _ _ _ _) (by simp;omega) λx' ae dw dk kc bo _=>?_
 have bd:=C.s.app dk λb j=>kc b (by omega)
 have bv:∀{i z:Nat} {rw:List (List D)} {w:D} {X:Nat},Own N X i z rw w→i≠aF→Own ae X i z rw w:=λt av=>t.bH λb j l=>bo b (t.lt l).2 λq=>by
  have d:=kp t l;rw[kp ba q]at d;injection d with d;injection d with d;exact av d.symm
 have d6:=bv d5 (by decide);have dy:=bv du (by decide);have d1:=d0.bH (g':=ae) λb H _ j d=>bo b j λq=>by
  rw[kp ba q]at d;injection d with d;injection d with d;exact absurd d (by decide)
 have cw:ae[h.length]?=some (.row iV 3 [k3 (m.set e.toNat (a.e.a3+(c - a.e.a2)))]):=by rw[kc _ (by omega)];exact C.e
 obtain⟨r,O,cx,cc,B,eu,ew⟩:=gv bd.cd 4 (by omega) (by omega);have ca:=bd.next cc B;simp only[W,cx,FB];have d4:=dw.same B (by omega);have bb:=d6.same B (by omega);have dz:=dy.same B (by omega);have d2:=d1.bH (g':=O) λb H j _ _=>B.2 b (by omega)
 have eh:O.length=ae.length:=B.1;have en:H.length≤40:=by rw[P.rl];exact q
 refine sr (ys:=[cU r]) (n0:=h.length+1) (by omega) bb (iq _ _ _ _) (by simp;omega) λal af dx le bp bq _=>?_
 have bw:∀{i z:Nat} {rw:List (List D)} {w:D} {X:Nat},Own O X i z rw w→i≠U→Own af X i z rw w:=λt av=>t.bH λb j l=>bq b (t.lt l).2 λq=>by
  have d:=kp t l;rw[kp bb q]at d;injection d with d;injection d with d;exact av d.symm
 have c9:IntKind.wrap .i64 (n - 1)=n - 1:=cN (by omega) (by omega);simp only[W,eH,c9];have d3:=d2.bH (g':=af) λb H _ j d=>bq b j λq=>by
  rw[kp bb q]at d;injection d with d;injection d with d;exact absurd d (by decide)
 have dc:oB af (h.length+1) (lM (aY a) e (c - a.e.a2)) (km a.r a.e.a0 e (a.e.a2+(c - a.e.a2)) (a.e.a3+(c - a.e.a2)) u a.e.a5 a.e.a6 a.e.s7 a.e.s8 a.e.fd):=
  ⟨u,a.e.fd,rfl,(bw dz (by decide)).from (by omega),a.e.gk,by simp only[lM,aY,eQ];omega,by show a.e.fs.length≤1000;omega⟩
 refine .some (k af _ (lM (aY a) e (c - a.e.a2)) _ r x' al _ _ _ _ _ _ _ _ _ ⟨ca.app le λb j=>bp b (by omega),by rw[bp _ (by omega),B.2 _ (by omega)];exact cw,by simpa using P.e3,λi R=>?_,d3.snoc dc,bw d4 (by decide),by rw[fV];exact dx,λz f dh bk=>?_,by simp[-Xm,P.rl],λbg i p cz ar=>?_,P.ct.snoc λi p=>?_,λz f=>?_,λz f=>?_⟩)
 ·rcases u9 R with R|rfl
  ·have:=P.eb i R;simp only[dL,eP,eJ];omega
  ·simp only[dL,eP,eJ];omega
 ·rcases eI.1 f with f|f
  ·exact P.ok z f dh bk
  ·simp only[gz]at f;subst f;exact Iv l A (by omega) (by omega) (by omega) bk
 ·rw[Hy]at p;split at p
  ·rename_i F;have F:e=bg:=F;subst F;injection p with p;rw[lx (by rw[P.e3];omega),← p];rfl
  ·rename_i F;have F:¬e=bg:=F;rw[jS (by omega)];exact P.lk _ _ p cz ar
 ·have:=P.lk e i p A (by omega);rw[R]at this;injection this with this;show i=a.e.a2+(c - a.e.a2)
  omega
 ·rcases eI.1 f with f|f
  ·exact P.fq z f
  ·simp only[gz]at f;subst f;show a.e.fs.length≤20;omega
 ·rcases eI.1 f with f|f
  ·exact P.dr z f
  ·simp only[gz]at f;subst f;exact⟨a,e,c - a.e.a2,l,A,by omega,by omega,by omega,rfl⟩
theorem wZ(n0:Nat)(h:J)(n:Nat)(r:Int):∀d∈cU r,cV n0 h n d=d:=by
 intro d a;simp only[cU,gz]at a;subst a;exact G0 _ _ _ _ _
theorem Ti{h:J}{o:Nat}(I:CM h o)(m:Nat)(cb:m≤40):∃(a:List It) (b:List Int) (p q:D) (h':J),R nh [.ptr o 0 0,.int .i64 m] h=some (.bZ [p,q],h')∧aR 11 aE a p∧aR 1 cU b q∧(∀i∈a,ox i)∧a.length≤m∧b.length=a.length∧(iX (a.map aY)∧(∀i∈a,i.e.fs.length≤20)∧∀i∈a,iY (aY i))∧CM h' o∧bW o h h':=by
 suffices Wp (R nh [.ptr o 0 0,.int .i64 m] h) (λP=>∃(a:List It) (b:List Int) (p q:D),P.1 = .bZ [p,q]∧aR 11 aE a p∧aR 1 cU b q∧(∀i∈a,ox i)∧a.length≤m∧b.length=a.length∧(iX (a.map aY)∧(∀i∈a,i.e.fs.length≤20)∧∀i∈a,iY (aY i))∧CM P.2 o∧bW o h P.2) by
  obtain⟨⟨f,h'⟩,aq,a,b,p,q,rfl,bk⟩:=this;exact⟨a,b,p,q,h',aq,bk⟩
 have cc:=I.lt;have L:∀v:Int,0≤v→v<4→IntKind.wrap .i64 (10*v)=10*v:=λv ap aq=>cN (by omega) (by omega)
 rw[Ns];simp only[DW,W,aU];obtain⟨y,b7,bg,ac,ay,a7,ba⟩:=gv I 4 (by omega) (by omega);simp only[bg,W,nP,L y a7 ba];obtain⟨z,b8,bh,ad,az,a8,bb⟩:=gv ac 4 (by omega) (by omega);simp only[bh,W,nP,L z a8 bb];obtain⟨A,u,an,be,a0,a9,bc⟩:=gv ad 4 (by omega) (by omega);have bl:eX tab iV [0,1,2] [.int .i64 (10*y),.int .i64 (10*z),.int .i64 (10*A)]=some (.agg (k3 [10*y,10*z,10*A])):=id rfl;simp only[an,W,nP,L A a9 bc,bl,aU];have N:u.length=h.length:=by have:=ay.1;have:=az.1;have:=a0.1;omega
 have a4:=(((Sm.refl I).next ac ay).next ad az).next be a0;have n0:(aZ u iV 3 [[.int .i64 0,.int .i64 0,.int .i64 0]])[h.length]?=some (.row iV 3 [k3 [0,0,0]]):=by rw[← N];exact hZ _ _ _ _
 have bq:∀e,e<h.length→(aZ u iV 3 [[.int .i64 0,.int .i64 0,.int .i64 0]])[e]?=u[e]?:=λe M=>gQ _ _ _ _ (by omega)
 have cf:(aZ u iV 3 [[.int .i64 0,.int .i64 0,.int .i64 0]]).length=h.length+1:=by rw[← N];exact hN _ _ _ _
 rw[N];generalize aZ u iV 3 [[.int .i64 0,.int .i64 0,.int .i64 0]]=bi at *;have a5:=a4.app (g':=bi) (by omega) λe M=>bq e M
 refine WC (kk:=0) (off:=0) (row:=k3 [0,0,0]) (v :=.agg (k3 [10*y,10*z,10*A])) n0 (by rfl) (by rfl) (by exact aX _) (by rfl) λbj Q a1=>?_
 have Q:bj[h.length]?=some (.row iV 3 [k3 [10*y,10*z,10*A]]):=Q;have ab:=a5.app (mI a1.1.symm) λe M=>a1.2 e (by omega)
 have bo:IntKind.wrap .i64 ((m:Int)+1)=(m:Int)+1:=cN (by omega) (by omega);simp only[W,cY,bo];obtain⟨n,b9,ao,bf,a2,bv,bw⟩:=gv ab.cd ((m:Int)+1) (by omega) (by omega);have a6:=ab.next bf a2;simp only[W,ao];obtain⟨l,rfl⟩:∃l:Nat,n=l:=⟨n.toNat,by omega⟩
 have ca:l≤m:=by omega
 refine Wp.loop (λj G r=>∃f g ag ah ai aj ak al am ae af,∃t k x b,G=[f,g,.int .i64 (j:Nat),ag,ah,ai,aj,ak,al,am,ae,af]∧j+k.length=l∧QP h r o t k x b f g)
  (λe=>e.1 = .ext 0∧∃f g t k x b,Z 0 e.2.1=f∧Z 1 e.2.1=g∧k.length=l∧QP h e.2.2 o t k x b f g) l ⟨.aB,.aB,_,_,_,_,_,_,_,_,_,[10*y,10*z,10*A],[],[],[],rfl,by simp,⟨a6,by rw[a2.2 _ (by omega)];exact Q,rfl,λH ar=>?_,.nil,.aB _ _ _ _,.aB _ _ _ _,λaa C=>by simp at C,rfl,λb6 H bn=>(by simp[-Xm,dX]at bn),λn f F=>(by simp at F),λaa C=>(by simp at C),λaa C=>(by simp at C)⟩⟩ ?_ ?_
 ·simp only[dW,kS,iS]at ar;simp only[eJ];rcases ar with rfl|rfl|rfl<;>omega
 ·rintro j G r ⟨f,g,ag,ah,ai,aj,ak,al,am,ae,af,t,k,x,b,rfl,ce,c⟩;by_cases ap:j=0
  ·subst ap;simp only[uR,bD,bY,W,aU,cZ,show decide (((0:Nat):Int)>0)=false by decide,aK,aP,aL];exact .some (.inr ⟨by simp,rfl,f,g,t,k,x,b,rfl,rfl,by omega,c⟩)
  ·refine TZ c (by omega) (n:=(j:Int)) (by omega) (by omega) rfl _ _ _ _ _ _ _ _ _ λg' b4 aa ch cg ci cj an bz b0 ao b1 b2 b3 ry bx a3=>?_
   have bp:(j:Int) - 1=((j - 1:Nat):Int):=by omega
   rw[bp];exact .inl ⟨rfl,j - 1,by omega,_,_,_,_,_,_,_,_,_,_,_,_,_,_,_,rfl,by simp only[dL,eP,eJ];omega,a3⟩
 ·rintro⟨b5,G,r⟩ ⟨rfl,f,g,t,k,x,b,F,ax,aw,c⟩;simp only at F ax c;simp only[dV,cL,W,bD,bY,F,ax,jK];obtain⟨a,T,X⟩:=c.q.fz (m:=h.length) (by omega);have au:aR 11 aE a (cV h.length r 3 f):=by
   rcases TU (m:=h.length) (n:=2) c.x (by omega)with⟨bt,bu⟩|w
   ·rw[bu];have:a=[]:=by rw[bt]at X;simpa using X.symm
    rw[this];exact .aB _ _
   ·rw[w,X];exact .mk _ _ _ _
  have av:=jy (n0:=h.length) (n:=2) c.y (by omega) (λE _=>wZ _ r 2 E);have bm:a.length=l:=by rw[← aw,← T];simp[-Xm]
  obtain⟨h',H,bd,br⟩:=c.s.scope (d :=.bZ [f,g]) (d' :=.bZ [cV h.length r 3 f,cV h.length r 3 g]) (by rfl) (.bZ _ λd B=>by
   simp at B;rcases B with rfl|rfl
   ·exact jA au λE _=>rZ _ E
   ·exact jA av λE _ d B=>by
      simp only[cU,gz]at B;subst B;exact .int _ _)
  rw[H];refine .some ⟨a,b,_,_,rfl,au,av,λi K=>c.ok (aY i) ?_ i rfl,by omega,by rw[c.rl,aw,bm],⟨by rw[T];exact c.ct,λi K=>c.fq (aY i) ?_,λi K=>c.dr (aY i) ?_⟩,bd,br⟩
  all_goals (rw[← T];exact e8.2 ⟨i,K,rfl⟩)
theorem Up(n:Int)(h:J):aA tab h U (.aI (cU n))=some (.int .i64 n):=id rfl
theorem jo.len:∀{l:List FM} {n:Int},jo n l→l=[]∨n+l.length≤4
 |[],n,h =>.inl rfl
 | x::r,n,h=>by
  cases h with
  | cons b h2 c d a =>
   right;rcases a.len with rfl|e
   ·simp[-Xm];omega
   ·simp only[eP];omega
def kW(g:J)(e z:Nat){b:Type}(f:b→List D)(l:List b)(d:D):Prop:=aR z f l d∨∃a,d = .aO z a 0 l.length∧g[a]?=some (.row e z (l.map f))
theorem Cb{g:J}{n0 e z:Nat}{a:Type}{f:a→List D}{l:List a}{d:D}(h:Own g n0 e z (l.map f) d):kW g e z f l d:=by
 rcases h with⟨rfl,c⟩|⟨i,_,rfl,b⟩
 ·have:l=[]:=by simpa using c
  subst this;exact .inl (.aB _ _)
 ·exact .inr ⟨i,by simp,b⟩
theorem Uh{g:J}{a:List It}{d:D}(h:kW g aF 11 aE a d){i:Nat}{x:It}(hi:a[i]?=some x):∃p,aQ tab aV d (.int .i64 i)=some p∧∀g',(∀b,b<g.length→g'[b]?=g[b]?)→aA tab g' aF p=some (.agg (aE x)):=by
 have l:=(bO.1 hi).1;rcases h with h|⟨e,rfl,c⟩
 ·exact⟨_,by rw[k8 h,bE (by omega),dY,hi];rfl,λg' _=>id rfl⟩
 ·have k:=(bO.1 c).1;refine⟨_,by rw[Hm,bE ⟨by omega,by omega⟩,dY],λg' f=>?_⟩;have j:g'[e]?=some (.row aF 11 (a.map aE)):=by rw[f e k];exact c
  rw[r2,dT j,dF,dH,hi];rfl
theorem Jp(l:List Int)(b c:D)(h:J)(g:aR 1 cU l b)(k:aR 1 cU l c)(y:l.length≤9000000000000000000):R rK [b,c] h=some (.bool true,h):=by
 apply Wp.val;rw[Nv];simp only[D1,W,dE,dC,eA,bG,aP,aL,lJ g,lJ k,aK,aU];refine Wp.loop (λj d e=>e=h∧∃q r s,∃a:Nat,d=[q,.int .i64 a,r,s]∧j+a=l.length)
  (λo=>o.1 = .ext 0∧o.2.2=h) l.length ⟨rfl,_,_,_,0,rfl,rfl⟩ ?_ ?_
 ·rintro j d e ⟨rfl,q,r,s,a,rfl,x⟩;simp only[D2,bD,bY,W,aU,lJ g,cI];refine Wp.dS ?_ ?_
  ·intro f;have f:a<l.length:=gS f;have i:l[a]?=some l[a]:=cJ f;generalize l[a]=p at i;have u:aQ tab aW b (.int .i64 a)=some (.aI (cU p)):=by rw[me g];simp[-Xm,i]
   have v:aQ tab aW c (.int .i64 a)=some (.aI (cU p)):=by rw[me k];simp[-Xm,i]
   have t:=fD a (by omega);simp only[u,v,Up,dE,dC,eA,bG,W,aK,aP,aL,cY,t];exact .some (.inl ⟨rfl,j - 1,by omega,rfl,_,_,_,a+1,rfl,by omega⟩)
  ·intro _;exact .some (.inr ⟨by simp,rfl,rfl⟩)
 ·rintro⟨w,d,e⟩ ⟨m,n⟩;simp only at m n;subst m;subst n;simp only[dV,cL,W,bR];exact .some rfl
theorem ox.nm{i:It}(h:ox i):lz i.e:=λb a=>by
 have:=(h.r.fs b a).1;omega
theorem rT{d:Type}{l:List d}{a b:Nat}{x:d}(h:x∈(l.take b).drop a):∃j,a≤j∧j<b∧l[j]?=some x:=by
 obtain⟨e,c⟩:=E3.1 h;rw[kt,fF]at c;split at c
 ·exact⟨a+e,by omega,by assumption,c⟩
 ·cases c
structure Kd where
 e:Ev
 v:aD
 ix:Int
def kc(x y:Kd):Int:=ll [LN x.v y.v,kZ x.e.a5 y.e.a5,kZ x.ix y.ix]
def fC(k:Nat):List D:=[.int .i64 (k:Nat)]
structure fp (g:J) (o r:Nat) (rks:List Int) (pl:List Nat) (dp:D):Prop where
 ob:g[o]?=some (.row ff 2 [[dp,.aO 1 r 0 rks.length]])
 rr:r≠o
 rk:∃ex,g[r]?=some (.row U 1 (rks.map inr++ex))
 pp:(dp = .aB∧pl=[])∨∃op ex,op≠o∧op≠r∧dp = .aO 1 op 0 pl.length∧g[op]?=some (.row U 1 (pl.map fC++ex))
 pb:∀k∈pl,k<rks.length
def dG(rks:List Int)(k:Nat):Int:=rks[k]?.getD 0
theorem rV{g:J}{o:Nat}{a b:D}(h:g[o]?=some (.row ff 2 [[a,b]])):aA tab g aW (.ptr o 0 (0+0))=some a∧aA tab g aW (.ptr o 0 (0+1))=some b:=by
 constructor
 ·rw[BD,dT h];rfl
 ·rw[BD,dT h];rfl
theorem qf(o:Nat):aC tab ff 0 (.ptr o 0 0)=some (.ptr o 0 (0+0))∧aC tab ff 1 (.ptr o 0 0)=some (.ptr o 0 (0+1)):=⟨id rfl,id rfl⟩
theorem Cs{g:J}{o r:Nat}{rks:List Int}{a:List Nat}{b:D}(H:fp g o r rks a b):R tD [.ptr o 0 0] g=some (.int .i64 (a.length:Nat),g):=by
 have c:aT tab aW b=some (.int .i64 (a.length:Nat)):=by
  rcases H.pp with⟨rfl,rfl⟩|⟨e,d,_,_,rfl,_⟩
  ·rfl
  ·exact HQ _ _ _ _
 rw[Gg];simp only[xU,r7,(qf o).1,(rV H.ob).1,c,W,bR]
theorem sZ{l:List Nat}{i:Nat}(hi:i<l.length):l[i]?=some (bF l i):=by
 have:=cJ hi;unfold bF;rw[this];rfl
theorem I5{l:List Int}{i:Nat}(hi:i<l.length):l[i]?=some (dG l i):=by
 have:=cJ hi;unfold dG;rw[this];rfl
theorem LJ(rks:List Int)(a b:Nat):decide (ll [kZ (dG rks b) (dG rks a),kZ (a:Int) (b:Int)]<0)=decide (eF (dG rks) a b):=by
 unfold eF kZ;rcases Int.lt_trichotomy (dG rks b) (dG rks a)with h|h|h
 ·have c:¬dG rks a<dG rks b:=by omega
  simp[-Xm,ll,h,c]
 ·have c:¬dG rks a<dG rks b:=by omega
  have d:¬dG rks b<dG rks a:=by omega
  rcases lY a b with k|k|k
  ·simp[-Xm,ll,h,k]
  ·subst k;simp[-Xm,ll,h]
  ·have e:¬a<b:=by omega
   simp[-Xm,ll,h,k,e]
 ·have c:¬dG rks b<dG rks a:=by omega
  have d:¬dG rks a=dG rks b:=by omega
  simp[-Xm,ll,h,c,d]
theorem uw{g:J}{o r:Nat}{rks:List Int}{a:List Nat}{u:D}(H:fp g o r rks a u)(C:rks.length≤1000000000){i j:Nat}(hi:i<a.length)(n:j<a.length):R zu [.ptr o 0 0,.int .i64 (i:Nat),.int .i64 (j:Nat)] g=some (.bool (decide (eF (dG rks) (bF a i) (bF a j))),g):=by
 rcases H.pp with⟨rfl,rfl⟩|⟨f,z,A,B,rfl,w⟩
 ·simp at hi
 obtain⟨er,x⟩:=H.rk;have l:=sZ hi;have m:=sZ n;have h:=H.pb _ (eS l);have k:=H.pb _ (eS m);have p:∀b:Nat,b<a.length→aQ tab aW (.aO 1 f 0 a.length) (.int .i64 (b:Int))=some (.ptr f b 0):=λb d=>by rw[oW,bE (by omega),dY,dF]
 have q:∀b:Nat,b<rks.length→aQ tab aW (.aO 1 r 0 rks.length) (.int .i64 (b:Int))=some (.ptr r b 0):=λb d=>by rw[oW,bE (by omega),dY,dF]
 have s:∀(b c:Nat),a[b]?=some c→aA tab g U (.ptr f b 0)=some (.int .i64 (c:Nat)):=λb c d=>by
  have e:=(bO.1 d).1;rw[fB,dT w,eV (by simpa using e),dH,d];rfl
 have t:∀(b:Nat) (c:Int),rks[b]?=some c→aA tab g U (.ptr r b 0)=some (.int .i64 c):=λb c d=>by
  have e:=(bO.1 d).1;rw[fB,dT x,eV (by simpa using e),dH,d];rfl
 have y:bJ tab aW 2 [0,1] [.int .i64 (kZ (dG rks (bF a j)) (dG rks (bF a i))),.int .i64 (kZ (bF a i:Int) (bF a j:Int))]=some (.sl 1 true ([kZ (dG rks (bF a j)) (dG rks (bF a i)),kZ (bF a i:Int) (bF a j:Int)].map inr)):=id rfl;have v:=Ve [kZ (dG rks (bF a j)) (dG rks (bF a i)),kZ (bF a i:Int) (bF a j:Int)] _ g (aR.mk 1 inr _ true) (by simp);rw[NC];simp only[D9,r7,(qf o).1,(qf o).2,(rV H.ob).1,(rV H.ob).2,p i hi,p j n,s _ _ l,s _ _ m,q _ h,q _ k,t _ _ (I5 h),t _ _ (I5 k),Vf,y,v,cI,W,bR,LJ]
def Fr(b:D)(g g':J):Prop:=g'.length=g.length∧∀a,(∀c,b ≠ .aO 1 a 0 c)→g'[a]?=g[a]?
theorem Fr.refl(a:D)(g:J):Fr a g g:=⟨rfl,λ_ _=>rfl⟩
theorem Fr.trans{a:D}{g g' b:J}(h:Fr a g g')(k:Fr a g' b):Fr a g b:=⟨k.1.trans h.1,λd c=>(k.2 d c).trans (h.2 d c)⟩
theorem IJ(l:List Nat)(a:List (List D)){i:Nat}(hi:i<l.length)(x:Nat):(l.map fC++a).set i (fC x)=(l.set i x).map fC++a:=by
 rw[List.set_append_left _ _ (by simpa using hi),← kQ]
theorem ux{g:J}{o r:Nat}{rks:List Int}{a:List Nat}{f:D}(H:fp g o r rks a f){i j:Nat}(hi:i<a.length)(e:j<a.length):∃g',R tE [.ptr o 0 0,.int .i64 (i:Nat),.int .i64 (j:Nat)] g=some (aH [],g')∧fp g' o r rks (kx a i j) f∧Fr f g g':=by
 suffices Wp (R tE [.ptr o 0 0,.int .i64 (i:Nat),.int .i64 (j:Nat)] g) (λu=>u.1=aH []∧fp u.2 o r rks (kx a i j) f∧Fr f g u.2) by
  obtain⟨⟨T,g'⟩,n,rfl,p⟩:=this;exact⟨g',n,p⟩
 rcases H.pp with⟨rfl,rfl⟩|⟨c,h,n,p,rfl,A⟩
 ·simp at hi
 have z:=sZ hi;have G:=sZ e;have B:∀b:Nat,b<a.length→aQ tab aW (.aO 1 c 0 a.length) (.int .i64 (b:Int))=some (.ptr c b 0):=λb l=>by rw[oW,bE (by omega),dY,dF]
 have C:∀(b q:Nat),a[b]?=some q→aA tab g U (.ptr c b 0)=some (.int .i64 (q:Nat)):=λb q l=>by
  have I:=(bO.1 l).1;rw[fB,dT A,eV (by simpa using I),dH,l];rfl
 rw[NG];simp only[Ec,r7,(qf o).1,(rV H.ob).1,B i hi,B j e,C _ _ z,C _ _ G,W,aU];have M:(a.map fC++h)[i]?=some (fC (bF a i)):=by rw[eV (by simpa using hi),dH,z];rfl
 refine kr (off:=0) (row:=fC (bF a i)) (v :=.int .i64 (bF a j:Nat)) A M (by rfl) (by simp[-Xm,fC]) (by rfl) λF w P=>?_
 have w:F[c]?=some (.row U 1 ((a.set i (bF a j)).map fC++h)):=by
  rw[w,show dQ (fC (bF a i)) 0 (cP (.int .i64 (bF a j:Nat)))=fC (bF a j)from rfl,IJ _ _ hi]
 try simp only[W]
 obtain⟨m,L⟩:∃m,(a.set i (bF a j))[j]?=some m:=⟨_,cJ (by simpa using e)⟩
 have N:((a.set i (bF a j)).map fC++h)[j]?=some (fC m):=by rw[eV (by simpa using e),dH,L];rfl
 refine kr (off:=0) (row:=fC m) (v :=.int .i64 (bF a i:Nat)) w N (by rfl) (by simp[-Xm,fC]) (by rfl) λy x Q=>?_
 have x:y[c]?=some (.row U 1 ((kx a i j).map fC++h)):=by
  rw[x,show dQ (fC m) 0 (cP (.int .i64 (bF a i:Nat)))=fC (bF a i)from rfl,IJ _ _ (by simpa using e)];rfl
 try simp only[W]
 have E:=P.trans Q;have s:∀d,d≠c→y[d]?=g[d]?:=λd t=>E.2 d t
 refine .some ⟨rfl,⟨by rw[s _ (λk=>n k.symm)];exact H.ob,H.rr,?_,.inr ⟨c,h,n,p,by rw[vj],x⟩,λb l=>H.pb b ((vk hi e).mem_iff.1 l)⟩,E.1,λd t=>s d λk=>t a.length (by rw[k])⟩;obtain⟨er,K⟩:=H.rk;exact⟨er,by rw[s _ (λk=>p k.symm)];exact K⟩
abbrev k7(o:Nat):D :=.iface kq (.ptr o 0 0)
theorem UX{g:J}{o r:Nat}{rks:List Int}{f l:List Nat}{c:D}(G:rks.length≤1000000000)(N:f.length≤1000000000){j:Nat}(H:fp g o r rks l c)(U:qZ (eF (dG rks)) f l j):
  ∃g' a,R vZ [.iface kq (.ptr o 0 0),.int .i64 (j:Nat)] g=some (aH [],g')∧fp g' o r rks a c∧Fr c g g'∧a.Perm f∧ic (eF (dG rks)) (bF a) a.length:=by
 suffices Wp (R vZ [.iface kq (.ptr o 0 0),.int .i64 (j:Nat)] g) (λq=>q.1=aH []∧∃a,fp q.2 o r rks a c∧Fr c g q.2∧a.Perm f∧ic (eF (dG rks)) (bF a) a.length) by
  obtain⟨⟨Q,g'⟩,m,rfl,a,n⟩:=this;exact⟨g',a,m,n⟩
 rw[NA];simp only[D7,W,aU];refine Wp.loop (λz k g'=>∃b:Nat,Z 0 k = .int .i64 (b:Nat)∧z=b∧∃a,fp g' o r rks a c∧Fr c g g'∧qZ (eF (dG rks)) f a b)
  (λs=>s.1 = .ext 0∧∃a,fp s.2.2 o r rks a c∧Fr c g s.2.2∧a.Perm f∧ic (eF (dG rks)) (bF a) a.length) j ⟨j,rfl,rfl,l,H,Fr.refl _ _,U⟩ ?_ ?_
 ·rintro z k g' ⟨b,x,M,a,d,e,h⟩;have y:b<a.length:=h.u.BJ;have P:=h.p.length_eq;by_cases F:b=0
  ·subst F;have t:IntKind.wrap .i64 (((0:Nat):Int) - 1) = -1:=by rw[cN (by omega) (by omega)];omega
   have v:IntKind.wrap .i64 ((-1:Int).tdiv 2)=0:=by decide
   simp only[xV,x,W,aU,eH,t,FW,show ¬((2:Int)=0) by decide,aL,v,fa,show decide ((0:Int)=((0:Nat):Int))=true by decide,bL,fS,eR,eL,nY,bI,aJ,aK];exact .some (.inr ⟨by simp,rfl,a,d,e,Fc h (.inl rfl)⟩)
  ·have t:IntKind.wrap .i64 ((b:Int) - 1)=((b - 1:Nat):Int):=by rw[cN (by omega) (by omega)];omega
   have v:IntKind.wrap .i64 (((b - 1:Nat):Int).tdiv 2)=(((b - 1) / 2:Nat):Int):=by
    have:((b - 1:Nat):Int).tdiv 2=(((b - 1) / 2:Nat):Int):=by rw[Int.tdiv_eq_ediv_of_nonneg (by omega)];omega
    rw[this,cN (by omega) (by omega)]
   have I:decide ((((b - 1) / 2:Nat):Int)=(b:Int))=false:=gR (by omega);have w:(b - 1) / 2<a.length:=by omega
   have E:=uw d G y w;simp only[xV,x,W,aU,eH,t,FW,show ¬((2:Int)=0) by decide,aL,v,fa,I,bL,fS,aJ,tO,E,fK,bI,aP,aK];by_cases i:eF (dG rks) (bF a b) (bF a ((b - 1) / 2))
   ·obtain⟨L,C,B,A⟩:=ux d w y;have p:decide (eF (dG rks) (bF a b) (bF a ((b - 1) / 2)))=true:=hh i;simp only[p,eY,aP,aL,tP,C,W];exact .some (.inl ⟨rfl,(b - 1) / 2,by omega,_,rfl,rfl,_,B,e.trans A,KM (jY _) h (by omega) i⟩)
   ·have p:decide (eF (dG rks) (bF a b) (bF a ((b - 1) / 2)))=false:=gR i;rw[p];exact .some (.inr ⟨by simp,rfl,a,d,e,Fc h (.inr i)⟩)
 ·rintro⟨K,k,g'⟩ ⟨r1,a,d,e,m,n⟩;simp only at r1 d e;subst r1;simp only[dV,rB,W];exact .some ⟨rfl,a,d,e,m,n⟩
end Go.Proofs.YtinlnkhheafjaaaGreatDoor
namespace Go.Eng
abbrev od:=@not_false_iff
abbrev qU:=@List.append_inj'
end Go.Eng
namespace Go.Proofs.YtinlnkhheafjaaaGreatDoor
open Go.Eng Go.Pi
open Option renaming bind_some → Xm
theorem UY {g:J} {o r:Nat} {rks:List Int} {f l:List Nat} {p:D} (P:rks.length≤1000000000) (av:f.length≤1000000000) {N:Nat} (H:fp g o r rks l p) (ak:ic (eF (dG rks)) (bF f) f.length) (U:oy (eF (dG rks)) f l N 0) :
  ∃g' a v,R v7 [.iface kq (.ptr o 0 0),.int .i64 0,.int .i64 (N:Nat)] g=some (v,g')∧fp g' o r rks a p∧Fr p g g'∧a.length=N+1∧bF a N=bF f 0∧f.Perm (bF f 0::a.take N)∧ic (eF (dG rks)) (bF (a.take N)) (a.take N).length∧∀y∈f,¬eF (dG rks) y (bF f 0):=by
 suffices Wp (R v7 [.iface kq (.ptr o 0 0),.int .i64 0,.int .i64 (N:Nat)] g) (λah=>∃a i,fp ah.2 o r rks a p∧Fr p g ah.2∧oy (eF (dG rks)) f a N i∧∀c,0<c→c<N→(c - 1) / 2=i→¬eF (dG rks) (bF a c) (bF a i)) by
  obtain⟨⟨ar,g'⟩,M,a,i,z,al,ab,am⟩:=this;obtain⟨an,ao,ap⟩:=Kx (jY _) ak ab am;exact⟨g',a,ar,M,z,al,ab.n,ab.x,an,ao,ap⟩
 rw[NB];simp only[D8,W,aU];refine Wp.loop (λc aa g'=>∃b:Nat,Z 0 aa = .int .i64 (b:Nat)∧c=N - b∧b≤N∧∃a,fp g' o r rks a p∧Fr p g g'∧oy (eF (dG rks)) f a N b)
  (λQ=>Q.1 = .ext 0∧(∃ag:Int,Z 0 Q.2.1 = .int .i64 ag)∧∃a i,fp Q.2.2 o r rks a p∧Fr p g Q.2.2∧oy (eF (dG rks)) f a N i∧∀c,0<c→c<N→(c - 1) / 2=i→¬eF (dG rks) (bF a c) (bF a i)) (N - 0) ⟨0,rfl,rfl,jr _,l,H,Fr.refl _ _,U⟩ ?_ ?_
 ·rintro c aa g' ⟨b,af,w,ax,a,d,m,n⟩;have ay:=n.p.length_eq;have aw:=n.n;by_cases M:2*b+1<N
  ·have A:b<a.length:=by omega
   have ac:IntKind.wrap .i64 (2*(b:Int))=((2*b:Nat):Int):=by rw[cN (by omega) (by omega)];omega
   have ad:IntKind.wrap .i64 (((2*b:Nat):Int)+1)=((2*b+1:Nat):Int):=by rw[cN (by omega) (by omega)];omega
   have aq:IntKind.wrap .i64 (((2*b+1:Nat):Int)+1)=((2*b+2:Nat):Int):=by rw[cN (by omega) (by omega)];omega
   have T:decide ((N:Int)≤((2*b+1:Nat):Int))=false:=gR (by omega);have ai:decide (((2*b+1:Nat):Int)<0)=false:=gR (by omega);simp only[xW,af,W,aU,nP,ac,cY,ad,ju,T,bL,aJ,cI,ai,bI,aP,aL,aK,aq];by_cases z:2*b+2<N
   ·have X:decide (((2*b+2:Nat):Int)<(N:Int))=true:=hh (by omega);have aj:=uw d P (i:=2*b+2) (j:=2*b+1) (by omega) (by omega);simp only[X,aJ,fS,tO,aj,W,bI];by_cases x:eF (dG rks) (bF a (2*b+2)) (bF a (2*b+1))
    ·rw [hh x];simp only[aJ,aK,W,cL,bD];obtain⟨j,s⟩:∃j:Nat,j=2*b+2:=⟨_,rfl⟩
     have L:j<N:=by omega
     have t:j<a.length:=by omega
     have u:=yr (jY (dG rks)) (l:=a) (N:=N) (i:=b) j (.inl ⟨z,x,s⟩);have I:=uw d P t A;have K:(((2*b+2:Nat)):Int)=((j:Nat):Int):=by rw[s]
     simp only[K,tO,I,fK,aK,W,cL,bD];by_cases e:eF (dG rks) (bF a j) (bF a b)
     ·obtain⟨ae,G,F,E⟩:=ux d A t;have k:decide (eF (dG rks) (bF a j) (bF a b))=true:=hh e;simp only[k,eY,aP,aL,tP,G,W];exact .some (.inl ⟨rfl,N - j,by omega,j,rfl,rfl,by omega,_,F,m.trans E,yt (jY _) n (by omega) L (by omega) u e⟩)
     ·have k:decide (eF (dG rks) (bF a j) (bF a b))=false:=gR e;rw[k];exact .some (.inr ⟨by simp,rfl,⟨_,rfl⟩,a,b,d,m,n,λc C w B q=>u c C w B (by
       rcases(jY (dG rks)).qH (bF a j) (bF a b)with h|h|h
       ·exact absurd h e
       ·rw[h];exact q
       ·exact(jY (dG rks)).tr _ _ _ q h)⟩)
    ·rw [gR x];simp only[aP,aL,aK,W,cL,bD];obtain⟨j,s⟩:∃j:Nat,j=2*b+1:=⟨_,rfl⟩
     have L:j<N:=by omega
     have t:j<a.length:=by omega
     have u:=yr (jY (dG rks)) (l:=a) (N:=N) (i:=b) j (.inr ⟨.inr x,s⟩);have I:=uw d P t A;have K:(((2*b+1:Nat)):Int)=((j:Nat):Int):=by rw[s]
     simp only[K,tO,I,fK,aK,W,cL,bD];by_cases e:eF (dG rks) (bF a j) (bF a b)
     ·obtain⟨ae,G,F,E⟩:=ux d A t;have k:decide (eF (dG rks) (bF a j) (bF a b))=true:=hh e;simp only[k,eY,aP,aL,tP,G,W];exact .some (.inl ⟨rfl,N - j,by omega,j,rfl,rfl,by omega,_,F,m.trans E,yt (jY _) n (by omega) L (by omega) u e⟩)
     ·have k:decide (eF (dG rks) (bF a j) (bF a b))=false:=gR e;rw[k];exact .some (.inr ⟨by simp,rfl,⟨_,rfl⟩,a,b,d,m,n,λc C w B q=>u c C w B (by
       rcases(jY (dG rks)).qH (bF a j) (bF a b)with h|h|h
       ·exact absurd h e
       ·rw[h];exact q
       ·exact(jY (dG rks)).tr _ _ _ q h)⟩)
   ·have X:decide (((2*b+2:Nat):Int)<(N:Int))=false:=gR (by omega);simp only[X,aP,aL,fS,nY,eL,W,bI,aK,cL,bD];obtain⟨j,s⟩:∃j:Nat,j=2*b+1:=⟨_,rfl⟩
    have L:j<N:=by omega
    have t:j<a.length:=by omega
    have u:=yr (jY (dG rks)) (l:=a) (N:=N) (i:=b) j (.inr ⟨.inl z,s⟩);have I:=uw d P t A;have K:(((2*b+1:Nat)):Int)=((j:Nat):Int):=by rw[s]
    simp only[K,tO,I,fK,aK,W,cL,bD];by_cases e:eF (dG rks) (bF a j) (bF a b)
    ·obtain⟨ae,G,F,E⟩:=ux d A t;have k:decide (eF (dG rks) (bF a j) (bF a b))=true:=hh e;simp only[k,eY,aP,aL,tP,G,W];exact .some (.inl ⟨rfl,N - j,by omega,j,rfl,rfl,by omega,_,F,m.trans E,yt (jY _) n (by omega) L (by omega) u e⟩)
    ·have k:decide (eF (dG rks) (bF a j) (bF a b))=false:=gR e;rw[k];exact .some (.inr ⟨by simp,rfl,⟨_,rfl⟩,a,b,d,m,n,λc C w B q=>u c C w B (by
      rcases(jY (dG rks)).qH (bF a j) (bF a b)with h|h|h
      ·exact absurd h e
      ·rw[h];exact q
      ·exact(jY (dG rks)).tr _ _ _ q h)⟩)
  ·have ac:IntKind.wrap .i64 (2*(b:Int))=((2*b:Nat):Int):=by rw[cN (by omega) (by omega)];omega
   have ad:IntKind.wrap .i64 (((2*b:Nat):Int)+1)=((2*b+1:Nat):Int):=by rw[cN (by omega) (by omega)];omega
   have T:decide ((N:Int)≤((2*b+1:Nat):Int))=true:=hh (by omega);simp only[xW,af,W,aU,nP,ac,cY,ad,ju,T,bL,eR,aL,eL,bI,aJ,aK];exact .some (.inr ⟨by simp,rfl,⟨_,rfl⟩,a,b,d,m,n,λc C w B=>by omega⟩)
 ·rintro⟨au,aa,g'⟩ ⟨r1,⟨ag,x⟩,a,i,d,m,M,z⟩;simp only at r1 d m x;subst r1;simp only[dV,cL,bD,x,cZ,W];exact .some ⟨a,i,d,m,M,z⟩
theorem UZ{g:J}{o r:Nat}{rks:List Int}{l:List Nat}{h:D}(H:fp g o r rks l h){N:Nat}(m:l.length=N+1)(G:l.length≤1000000000):
  ∃g' c,R v8 [.ptr o 0 0] g=some (aH [.iface U (.int .i64 (bF l N:Nat))],g')∧fp g' o r rks (l.take N) c∧g'.length=g.length∧(∀b,b≠o→g'[b]?=g[b]?)∧∃a,h = .aO 1 a 0 (N+1)∧c = .aO 1 a 0 N:=by
 suffices Wp (R v8 [.ptr o 0 0] g) (λe=>e.1=aH [.iface U (.int .i64 (bF l N:Nat))]∧∃c,fp e.2 o r rks (l.take N) c∧e.2.length=g.length∧(∀b,b≠o→e.2[b]?=g[b]?)∧∃a,h = .aO 1 a 0 (N+1)∧c = .aO 1 a 0 N) by
  obtain⟨⟨I,g'⟩,d,rfl,c,k⟩:=this;exact⟨g',c,d,k⟩
 rcases H.pp with⟨rfl,rfl⟩|⟨a,s,d,k,rfl,q⟩
 ·simp at m
 rw[m]at H ⊢;have p:l[N]?=some (bF l N):=sZ (by omega);have F:IntKind.wrap .i64 (((N+1:Nat):Int) - 1)=((N:Nat):Int):=by rw[cN (by omega) (by omega)];omega
 have A:aQ tab aW (.aO 1 a 0 (N+1)) (.int .i64 (N:Int))=some (.ptr a N 0):=by rw[oW,bE (by omega),dY,dF]
 have C:aA tab g U (.ptr a N 0)=some (.int .i64 (bF l N:Nat)):=by
  rw[fB,dT q,eV (by simp;omega),dH,p];rfl
 have E:gj tab aW false true false [.aO 1 a 0 (N+1),.int .i64 (N:Int)]=some (.aO 1 a 0 N):=Ir (T:=tab) (t:=aW) (i:=nB) (j:=gb) (id rfl) (id rfl) (id rfl) (id rfl) (by decide) (by omega);rw[ND];simp only[Ea,r7,(qf o).1,(rV H.ob).1,HQ,eH,F,A,C,E,W,aU];refine Kb (kk:=0) (off:=0) (row:=[.aO 1 a 0 (N+1),.aO 1 r 0 rks.length]) (v :=.aO 1 a 0 N) H.ob (by rfl) (by rfl) (by simp) (by rfl) λu n f=>?_
 have n:u[o]?=some (.row ff 2 [[.aO 1 a 0 N,.aO 1 r 0 rks.length]]):=n
 try simp only[W]
 have w:l=l.take N++[bF l N]:=by
  have d:l.take (N+1)=l.take N++l[N]?.toList:=gA;rw[iz (by omega),p]at d;exact d
 obtain⟨er,z⟩:=H.rk;refine .some ⟨rfl,_,⟨n,H.rr,⟨er,by rw[f.2 _ H.rr];exact z⟩,.inr ⟨a,fC (bF l N)::s,d,k,by rw[lV,m];congr 1;omega,?_⟩,λB x=>H.pb B (ja x)⟩,f.1,λb y=>f.2 b y,a,rfl,rfl⟩;rw[f.2 _ d,q];congr 2
 conv=>lhs;rw[w]
 simp[-Xm]
theorem UW{g:J}{o r:Nat}{rks:List Int}{l:List Nat}{d:D}(I:rks.length≤1000000000){N:Nat}(q:l.length=N+1)(C:l.length≤1000000000)(H:fp g o r rks l d)(p:ic (eF (dG rks)) (bF l) l.length):
  ∃g' k b,R zt [.iface kq (.ptr o 0 0)] g=some (.iface U (.int .i64 (bF l 0:Nat)),g')∧fp g' o r rks b k∧l.Perm (bF l 0::b)∧ic (eF (dG rks)) (bF b) b.length∧(∀y∈l,¬eF (dG rks) y (bF l 0))∧g'.length=g.length∧(∀a,a≠o→(∀n,d ≠ .aO 1 a 0 n)→g'[a]?=g[a]?)∧∃c,d = .aO 1 c 0 (N+1)∧k = .aO 1 c 0 N:=by
 have aa:IntKind.wrap .i64 (((N+1:Nat):Int) - 1)=((N:Nat):Int):=by rw[cN (by omega) (by omega)];omega
 have m:=Cs H;obtain⟨A,e,t,f⟩:=ux H (i:=0) (j:=N) (by omega) (by omega);obtain⟨ac,L,ad,x,u,h,M,ab,Q,T,X⟩:=UY I C t p (Kw q p);obtain⟨B,w,z,v,P,K,c,E,F⟩:=UZ u M (by omega);rw[q]at m;have e:R tE [.ptr o 0 0,.int .i64 0,.int .i64 (N:Nat)] g=some (aH [],A):=e;refine⟨B,w,L.take N,?_,v,Q,T,X,by rw[P,h.1,f.1],λa G s=>by rw[K a G,h.2 a s,f.2 a s],c,E,F⟩;rw[Nz];simp only[D6,He,m,eH,aa,tP,e,x,Ri,z,W,bR,ab]
theorem KT{g:J}{o r:Nat}{rks:List Int}{a:List Nat}{h:D}(H:fp g o r rks a h)(I:a.length≤1000000000)(k:Nat):
  ∃c g1 b,cW tab g aW aW h (.sl 1 true [fC k])=some (.aO 1 c 0 (a.length+1),g1)∧g1[c]?=some (.row U 1 ((a++[k]).map fC++b))∧c≠o∧c≠r∧g.length≤g1.length∧((∃n,h = .aO 1 c 0 n)∨g.length≤c)∧∀e,(∀n,h ≠ .aO 1 e 0 n)→e<g.length→g1[e]?=g[e]?:=by
 have s:tab aW=some nB:=id rfl;have t:nB.td = .sl U:=id rfl;have u:tab U=some gb:=id rfl;have v:gb.Y=1:=id rfl;have w:gb.gI=8:=id rfl;have q:k0 g nB gb (.sl 1 true [fC k])=some [fC k]:=id rfl;have j:Nat.blt 0 1=true:=rfl;have K:=(bO.1 H.ob).1;obtain⟨er,C⟩:=H.rk;have L:=(bO.1 C).1;have f:lim (a.length+1) 8=true:=lK (by omega) (by omega);rcases H.pp with⟨rfl,rfl⟩|⟨c,b,z,A,rfl,p⟩
 ·refine⟨g.length,aZ g U 1 [fC k],[],?_,by rw[hZ];rfl,by omega,by omega,by simp[-Xm,aZ],.inr (aX _),λe _ i=>gQ _ _ _ _ i⟩;unfold cW;have f:lim 1 8=true:=f;simp only[s,t,u,v,w,q,j,eP,eJ,dF,f,aJ]
 ·have B:=(bO.1 p).1;cases b with
  | nil =>
   refine⟨g.length,aZ (g.set c .dead) U 1 ((a++[k]).map fC),[],?_,?_,by omega,by omega,by simp[-Xm,aZ],.inr (aX _),λe m i=>?_⟩
   ·unfold cW;simp only[s,t,u,v,w,q,j,p,u2,eQ,eP,eJ,dF,f,aX,gX,aJ,fV,gO,pQ]
   ·have:=hZ (g.set c .dead) U 1 ((a++[k]).map fC);rw[List.length_set]at this;rw[this,u2]
   ·rw[gQ _ _ _ _ (by rw[List.length_set];exact i),jS (λl=>m a.length (by rw[l]))]
  | cons d b =>
   refine⟨c,g.set c (.row U 1 ((a++[k]).map fC++b)),b,?_,lx B,z,A,by simp,.inl ⟨_,rfl⟩,λe m i=>jS (λl=>m a.length (by rw[l]))⟩;unfold cW;have E:¬a.length=(a.map fC++d::b).length:=by simp
   have F:a.length+1≤(a.map fC++d::b).length:=by simp
   have G:a.length≤(a.map fC++d::b).length:=by simp
   have x:(a.map fC++d::b).take a.length=a.map fC:=vd (by simp);have y:(a.map fC++d::b).drop (a.length+1)=b:=by
    have:a.map fC++d::b=(a.map fC++[d])++b:=by simp
    rw[this];exact List.drop_left' (by simp)
   simp only[s,t,u,v,w,q,j,p,eP,eJ,dF,f,E,F,G,gX,aJ,aL,x,y,fV,gO,pQ]
theorem U0{g:J}{o r:Nat}{rks:List Int}{f:List Nat}{e:D}(H:fp g o r rks f e)(I:f.length≤1000000000){k:Nat}(G:k<rks.length):
  ∃g' h,R wa [.ptr o 0 0,.iface U (.int .i64 (k:Nat))] g=some (aH [],g')∧fp g' o r rks (f++[k]) h∧g.length≤g'.length∧(∃b,h = .aO 1 b 0 (f.length+1)∧((∃n,e = .aO 1 b 0 n)∨g.length≤b))∧∀a,a≠o→(∀n,e ≠ .aO 1 a 0 n)→a<g.length→g'[a]?=g[a]?:=by
 suffices Wp (R wa [.ptr o 0 0,.iface U (.int .i64 (k:Nat))] g) (λl=>l.1=aH []∧∃h,fp l.2 o r rks (f++[k]) h∧g.length≤l.2.length∧(∃b,h = .aO 1 b 0 (f.length+1)∧((∃n,e = .aO 1 b 0 n)∨g.length≤b))∧∀a,a≠o→(∀n,e ≠ .aO 1 a 0 n)→a<g.length→l.2[a]?=g[a]?) by
  obtain⟨⟨u,g'⟩,A,rfl,h,B⟩:=this;exact⟨g',h,A,B⟩
 obtain⟨b,ab,y,x,aa,t,T,Q,w,p⟩:=KT H I k;have M:=(bO.1 H.ob).1;obtain⟨er,s⟩:=H.rk;have P:=(bO.1 s).1;have E:∀n,e ≠ .aO 1 o 0 n:=λn i=>by
  rcases H.pp with⟨c,_⟩|⟨X,_,c,_,d,_⟩
  ·rw[i]at c;cases c
  ·rw[i]at d;injection d with _ d;exact c d.symm
 have F:∀n,e ≠ .aO 1 r 0 n:=λn i=>by
  rcases H.pp with⟨c,_⟩|⟨X,_,_,c,d,_⟩
  ·rw[i]at c;cases c
  ·rw[i]at d;injection d with _ d;exact c d.symm
 have C:oI U (.iface U (.int .i64 (k:Nat)))=some (.int .i64 (k:Nat)):=by simp[-Xm,oI]
 have lt:bJ tab aW 1 [0] [.int .i64 (k:Nat)]=some (.sl 1 true [fC k]):=id rfl;rw[NF];simp only[Eb,r7,(qf o).1,(rV H.ob).1,C,lt,x,W,aU];refine Kb (kk:=0) (off:=0) (row:=[e,.aO 1 r 0 rks.length]) (v :=.aO 1 b 0 (f.length+1)) (by rw[p o E M];exact H.ob) (by rfl) (by rfl) (by simp) (by rfl) λz q m=>?_
 have q:z[o]?=some (.row ff 2 [[.aO 1 b 0 (f.length+1),.aO 1 r 0 rks.length]]):=q
 try simp only[W]
 refine .some ⟨rfl,_,⟨q,H.rr,⟨er,by rw[m.2 _ H.rr,p r F P];exact s⟩,.inr ⟨b,y,t,T,by simp,by rw[m.2 _ t];exact aa⟩,λu j=>?_⟩,by rw[m.1];exact Q,⟨b,rfl,w⟩,λa N L K=>by rw[m.2 a N];exact p a L K⟩;rcases eI.1 j with j|j
 ·exact H.pb u j
 ·rw[gz.1 j];exact G
theorem Jr{g:J}{o r:Nat}{rks:List Int}{a:List Nat}{f:D}(G:rks.length≤1000000000)(T:a.length≤999999999){k:Nat}(B:k<rks.length)(H:fp g o r rks a f)(A:ic (eF (dG rks)) (bF a) a.length):
  ∃g' l e,R vY [.iface kq (.ptr o 0 0),.iface U (.int .i64 (k:Nat))] g=some (aH [],g')∧fp g' o r rks e l∧e.Perm (a++[k])∧ic (eF (dG rks)) (bF e) e.length∧g.length≤g'.length∧(∃c m,l = .aO 1 c 0 m∧((∃n,f = .aO 1 c 0 n)∨g.length≤c))∧∀b,b≠o→(∀n,f ≠ .aO 1 b 0 n)→b<g.length→g'[b]?=g[b]?:=by
 obtain⟨Q,w,x,j,L,⟨c,u,q⟩,I⟩:=U0 H (by omega) B;have p:=Cs j;have s:(a++[k]).length=a.length+1:=by simp
 have P:IntKind.wrap .i64 (((a.length+1:Nat):Int) - 1)=((a.length:Nat):Int):=by rw[cN (by omega) (by omega)];omega
 rw[s]at p;obtain⟨z,K,y,v,i,M,N⟩:=UX G (by rw[s];omega) j (KL k A);refine⟨z,w,K,?_,v,M,N,by rw[i.1];exact L,⟨c,_,u,q⟩,λb F t C=>?_⟩
 ·rw[Ny];simp only[D5,Rj,He,x,p,eH,P,y,W]
 ·rw[i.2 b (λn d=>by
    rw[u]at d;injection d with _ d;subst d;rcases q with⟨m,E⟩|h
    ·exact t m E
    ·omega),I b F t C]
theorem Ww(h:J)(x y:D):cW tab h aW aW x y=sn U gb nB h x y:=id rfl
theorem Wx(h:J)(x y:D):cW tab h aW U x y=sn U gb gb h x y:=id rfl
theorem wF{n:Nat}(h:n≤2000000000):lim n gb.gI=true:=lK (show n*8≤140737488355328 by omega) (by omega)
theorem Jq{rks:List Int}{d:D}(m:aR 1 inr rks d)(h:J)(o:rks.length≤900000000)(f:0<rks.length):R ni [d] h=some (.aO 1 h.length 0 rks.length,aZ h U 1 (rks.map inr)):=by
 rcases m with⟨rfl,rfl⟩|⟨a,rfl⟩
 ·simp at f
 rw[th];have j:V tab .eql aW (.sl 1 a (rks.map inr)) .aB=some (.bool false):=id rfl;have k:cW tab h aW aW (.sl 1 true []) (.sl 1 a (rks.map inr))=some (.aO 1 h.length 0 rks.length,aZ h U 1 (rks.map inr)):=by
  rw[Ww];have l:k0 h nB gb (.sl 1 a (rks.map inr))=some (rks.map inr):=by
   show(if 1=gb.Y then some (rks.map inr)else none)=_;exact bE rfl
  unfold sn;rw[l];obtain⟨b,c,rfl⟩:∃b c,rks=b::c:=by
   cases rks with
   |nil=>simp at f
   |cons g i=>exact⟨g,i,rfl⟩
  have e:lim ((b::c).length) gb.gI=true:=wF (by omega);have n:gb.Y=1:=id rfl;simp only[n,show Nat.blt 0 1=true from rfl,gO,eP,eJ,dF,jE,eQ]at e ⊢;simp only[e,gX,aJ]
 simp only[qR,j,aK,FA,k,W,bR,aP,aL]
theorem wq{x:Option Unit}(h:Wp x λ_=>True):x=some ():=by
 obtain⟨a,h,_⟩:=h;cases a;exact h
theorem qw{x:Option Unit}(h:x=some ()):Wp x λ_=>True:=⟨(),h,trivial⟩
theorem Tq{M:Mp}{b m:Nat}{f:Int→Option Int}(c:M b=some (.mp m f)){i:Int}(hi:dZ i)(a:MK):ub M (.raw (.map (some b))) (.int .i64 i) true a=a (.bZ [.int .i64 ((f i).getD 0),.bool (f i).isSome]) M:=by
 unfold ub;simp only[c,e7,hi,aJ]
theorem Tt{M:Mp}{b m:Nat}{f:Int→Option Int}(d:M b=some (.mp m f)){i c:Int}(hi:dZ i)(e:dZ c)(g:m<1000000000)(a:MK):r4 M (.raw (.map (some b))) (.int .i64 i) (.int .i64 c) a=a .bU (M.my b (.mp (m+1) λx=>if x=i then some c else f x)):=by
 unfold r4;simp only[d,e7,hi,e,g,gX,aJ]
theorem Wh(M:Mp)(b:Nat)(o:MO):M.my b o b=some o:=by
 unfold Mp.my;exact bE rfl
theorem si(M:Mp)(b:Nat)(o:MO):M.set b o b=some o:=by
 unfold Mp.set;exact bE rfl
abbrev dR(l:List It):Nat→Int:=fJ (l.map λa=>a.e.a1)
def lB(l:List It)(k:Nat):Int:=match jb l.length (dR l) (k+1) (dR l k)with
 |some a=>a
 |none => -1
def ku(l:List It)(k:Nat)(f:Int→Option Int):Prop:=∀a,f a=(jb l.length (dR l) k a).map λb=>((b:Nat):Int)
theorem vF{l:List It}{k:Nat}{i:It}(h:l[k]?=some i):dR l k=i.e.a1:=by
 simp[-Xm,dR,fJ,h]
theorem ku.step{l:List It}{k:Nat}(c:k<l.length){f:Int→Option Int}(h:ku l (k+1) f):ku l k λx=>if x=dR l k then some ((k:Nat):Int)else f x:=λx=>by
 show(if x=dR l k then _ else _)=_;split
 ·rename_i a;rw[a,KE c];rfl
 ·rename_i a;rw[h x,KG (λb=>a b.symm)]
theorem ku.end_(l:List It):ku l l.length λ_=>none:=λa=>by rw[KF];rfl
theorem ku.look{l:List It}{k:Nat}{f:Int→Option Int}(h:ku l (k+1) f):(if(f (dR l k)).isSome=true then(f (dR l k)).getD 0 else -1)=lB l k:=by
 rw[h];unfold lB;cases jb l.length (dR l) (k+1) (dR l k)<;>rfl
theorem nS(e:Ev):aC tab aG 1 (.aI (bV e))=some (.aI (.int .i64 e.a1::(bV e).drop 2)):=id rfl
theorem qo(e:Ev)(h:J):aA tab h U (.aI (.int .i64 e.a1::(bV e).drop 2))=some (.int .i64 e.a1):=id rfl
theorem H4{l:List It}{P:D}(av:aR 11 aE l P)(a8:l.length≤900000000)(aw:∀i∈l,dZ i.e.a1){a b:Nat}{g:J}{M:Mp}{y:Ex→List D→J→Mp→Option Unit}(au:g[a]?=some (.row U 1 (List.replicate l.length [.int .i64 0])))(ar:M b=some (.mp 0 λ_=>none))(I K L N:D)
  (a4:∀ds g' k rows m f,bW a g g'→g'[a]?=some (.row U 1 rows)→rows.length=l.length→(∀j,j<l.length→rows[j]?=some (inr (lB l j)))→k b=some (.mp m f)→ku l 0 f→y (.ext 0) ds g' k=some ()) :
  pa (uX P (.aO 1 a 0 l.length) (.raw (.map (some b)))) [.int .i64 ((l.length:Int) - 1),I,K,L,N] g M y=some ():=by
 refine BH (λc ds g' k=>∃q r s t rows,ds=[.int .i64 ((c:Int) - 1),q,r,s,t]∧bW a g g'∧g'[a]?=some (.row U 1 rows)∧rows.length=l.length∧(∀j,c≤j→j<l.length→rows[j]?=some (inr (lB l j)))∧(∀d∈rows,d.length=1)∧c≤l.length∧∃m f,k b=some (.mp m f)∧m+c=l.length∧ku l c f) l.length
  ⟨I,K,L,N,_,rfl,bW.refl _ _,au,by simp,(λj aq R=>by omega),(λd w=>by rw[EX w];rfl),aX _,0,_,ar,by omega,ku.end_ l⟩ ?_
 rintro c ds Q H ⟨q,r,s,t,rows,rfl,ag,w,ae,ad,ac,a7,m,f,A,a9,B⟩;cases c with
 | zero =>
  have u:¬(0:Int)≤((0:Nat):Int) - 1:=by omega
  simp only[uX,bD,ju,W,u,bG,aK,aP,aL,bY];exact a4 _ Q H rows m f ag w ae (λj ay=>ad j (jr _) ay) A B
 | succ c =>
  have ab:c<l.length:=by omega
  have ao:(((c+1:Nat):Int) - 1)=(c:Int):=by omega
  have u:(0:Int)≤(c:Int):=by omega
  have a0:(c:Int)<(l.length:Int):=by omega
  obtain⟨o,E⟩:∃i,l[c]?=some i:=⟨_,cJ ab⟩
  obtain⟨d,af⟩:∃G,rows[c]?=some G:=⟨_,cJ (by omega)⟩
  have a2:=ac d (eS af);have T:=vF E;have aa:dZ o.e.a1:=aw o (eS E);have ax:dZ (c:Int):=by unfold dZ;omega
  have a6:IntKind.wrap .i64 ((c:Int) - 1)=(c:Int) - 1:=cN (by omega) (by omega);rw[ao];refine wq ?_;simp only[uX,bD,ju,W,u,bK,aK,aJ,oW,a0,gX,dY,dF,aU];refine kr w af rfl (by omega) rfl λap C ai=>?_
  have a3:∀z:Int,dQ d 0 (cP (.int .i64 z))=inr z:=λz=>by
   obtain⟨ah,rfl⟩:∃ah,d=[ah]:=by
    match d,a2 with
    |[G],_=>exact⟨G,rfl⟩
   rfl
  rw[a3]at C;simp only[W,k8 av,u,aJ,dY,E,fW,kl,nS,qo];rw[Tq A aa];simp only[jd,iZ,j8,W];have h:=B.look;rw[T]at h
  suffices X:∀n,bW a Q n→n[a]?=some (.row U 1 (rows.set c (inr (lB l c))))→∀ak al aj am,Wp (r4 H (.raw (.map (some b))) (.int .i64 o.e.a1) (.int .i64 c) λba an=>(V tab .sub U (.int .i64 c) (.int .i64 1)).bind λa5=>uC (λc ds g' k=>∃q r s t rows,ds=[.int .i64 ((c:Int) - 1),q,r,s,t]∧bW a g g'∧g'[a]?=some (.row U 1 rows)∧rows.length=l.length∧(∀j,c≤j→j<l.length→rows[j]?=some (inr (lB l j)))∧(∀d∈rows,d.length=1)∧c≤l.length∧∃m f,k b=some (.mp m f)∧m+c=l.length∧ku l c f) (c+1) y .aS [a5,ak,al,aj,am] n an) λ_=>True by
   cases x:(f o.e.a1).isSome with
   | false =>
    rw[x]at h;simp only[aP,aL]at h;simp only[aK,x,aP,aL,W,cL,gV];exact X ap ai (by rw[C,h]) _ _ _ _
   | true =>
    rw[x]at h;simp only[aJ]at h;have a1:(rows.set c (inr (-1)))[c]?=some (inr (-1)):=by rw[lx (by omega)]
    simp only[aK,x,aJ,aU];refine kr C a1 rfl (by simp[-Xm,inr]) rfl λn v F=>?_
    rw[show dQ (inr (-1)) 0 (cP (.int .i64 ((f o.e.a1).getD 0)))=inr ((f o.e.a1).getD 0)from rfl,List.set_set,h]at v;simp only[W,cL,gV];exact X n (ai.trans F) v _ _ _ _
  intro n F v ak al aj am;rw[Tt A aa ax (by omega)];simp only[eH,a6,W];refine qw ?_;unfold uC;refine rh.2 ⟨⟨c,ve c,_,_,_,_,_,rfl,ag.trans F,v,by simpa using ae,λj aq R=>?_,λd p=>?_,by omega,m+1,_,Wh _ _ _,by omega,?_⟩,rfl⟩
  ·by_cases az:j=c
   ·subst az;rw[lx (by omega)]
   ·rw[jS (by omega)];exact ad j (by omega) R
  ·rcases u9 p with p|p
   ·exact ac d p
   ·rw[p];rfl
  ·rw[← T];exact B.step ab
theorem Ib{M:Mp}{r b n:Nat}{f:Int→Option Int}{left:Int→Bool}{g:Option (Int × Int)}(i:M r=some (.it b n f left g)){d:MK}(h:(∀x,dZ x→left x=false)→d (.bZ [.bool false]) M=some ())
  (h2:∀x c,dZ x→dZ c→left x=true→f x=some c→d (.bZ [.bool true,.int .i64 x,.int .i64 c]) (M.set r (.it b n f (λz=>left z && !(z==x)) (some (x,c))))=some ()):uc M (.raw (.pointer (some ⟨r,0,none⟩))) d=some ():=by
 unfold uc;simp only[i];rw[nj.2 h];simp only[W];exact oG.2 λe=>nj.2 λa=>h2 e.1 e.2 a.1 a.2.1 a.2.2.1 a.2.2.2
theorem Tn{M:Mp}{r b n:Nat}{f:Int→Option Int}{left:Int→Bool}{x c:Int}(d:M r=some (.it b n f left (some (x,c))))(a:MK):ua M (.raw (.pointer (some ⟨r,0,none⟩))) a=a (.bZ [.int .i64 x,.int .i64 c]) M:=by
 unfold ua;simp only[d]
theorem ku.some{l:List It}{f:Int→Option Int}(h:ku l 0 f){x c:Int}(a:f x=Option.some c):∃k:Nat,c=(k:Int)∧k<l.length∧dR l k=x∧jb l.length (dR l) 0 x=Option.some k:=by
 rw[h x]at a;cases b:jb l.length (dR l) 0 x with
 |none=>rw[b]at a;cases a
 | some k =>
  rw[b]at a;injection a with a;obtain⟨_,d,e,_⟩:=oA.1 b;exact⟨k,a.symm,d,e,rfl⟩
theorem Sr{l:List It}(bm:l.length≤900000000)(az:∀i∈l,dZ i.e.a1){o r I b n0:Nat}{g:J}{M:Mp}{rks:List Int}(a8:rks.length≤1000000000)(bp:l.length≤rks.length){P:Ex→List D→J→Mp→Option Unit}(H:fp g o r rks [] .aB){f:Int→Option Int}(au:M I=some (.it b n0 f (λx=>(f x).isSome) none))(t:ku l 0 f)(X aa:D)
  (be:∀ds g' y a k,fp g' o r rks a k→ic (eF (dG rks)) (bF a) a.length→oz l.length (dR l) [] a→g.length≤g'.length→(∀j,j≠o→j<g.length→g'[j]?=g[j]?)→(k = .aB∨∃q m,k = .aO 1 q 0 m∧g.length≤q)→P (.ext 2) ds g' y=some ()) :
  pa (sD (.ptr o 0 0) (.raw (.pointer (some ⟨I,0,none⟩)))) [X,aa] g M P=some ():=by
 refine BH (λm ds g' y=>∃Q R a k left T,ds=[Q,R]∧fp g' o r rks a k∧ic (eF (dG rks)) (bF a) a.length∧g.length≤g'.length∧(∀j,j≠o→j<g.length→g'[j]?=g[j]?)∧(k = .aB∨∃q m,k = .aO 1 q 0 m∧g.length≤q)∧y I=some (.it b n0 f left T)∧a.Nodup∧(∀h:Nat,h∈a↔∃x,dZ x∧f x=some (h:Int)∧left x=false)∧m+a.length=l.length) l.length
  ⟨X,aa,[],_,_,_,rfl,H,(λh bi s=>by simp at s),aX _,λ_ _ _=>rfl,.inl rfl,au,List.nodup_nil,λh=>⟨λs=>(by cases s),λ⟨x,_,d,c⟩=>(by rw[d]at c;cases c)⟩,by simp⟩ ?_
 rintro m ds ap am ⟨Q,R,a,k,left,T,rfl,N,ab,a1,ad,B,av,F,v,bn⟩;simp only[sD];refine Ib av (λax=>?_) λx bg ai bj a5 z=>?_
 ·simp only[jd,iZ,W,aK,aP,aL];refine be _ ap am a k N ab ⟨F,λi=>?_⟩ a1 ad B;rw[v i,Ky];constructor
  ·rintro⟨x,ai,d,c⟩;obtain⟨h,s,n,u,aq⟩:=t.some d;have:i=h:=by omega
   subst this;rw[u];exact aq
  ·intro d;have c:=oA.1 d;obtain⟨ba,ae⟩:∃p,l[i]?=some p:=⟨_,cJ c.2.1⟩
   have n:dZ (dR l i):=by rw[vF ae];exact az ba (eS ae)
   exact⟨dR l i,n,by rw[t,d];rfl,ax _ n⟩
 ·obtain⟨h,rfl,s,ac,bo⟩:=t.some z;simp only[jd,iZ,W,aK,aJ];rw[Tn (si _ _ _)];have af:h∉a:=λA=>by
   obtain⟨p,a9,d,c⟩:=(v h).1 A;obtain⟨w,n,_,u,_⟩:=t.some d;have:h=w:=by omega
   subst this;rw[u]at ac;rw[ac,a5]at c;cases c
  have a7:∀L∈h::a,L∈List.range l.length:=λL G=>by
   rcases dW.1 G with rfl|G
   ·exact lX.2 s
   ·obtain⟨p,a9,d,_⟩:=(v L).1 G;obtain⟨w,n,u,_⟩:=t.some d;exact lX.2 (by omega)
  have a3:=pX (sK.2 ⟨af,F⟩) a7;simp only[eP,u6]at a3;obtain⟨bh,an,ak,ao,al,K,ar,bk,⟨q,bc,a6,ag⟩,a0⟩:=Jr a8 (by omega) (show h<rks.length by omega) N ab;simp only[jd,iZ,j8,W,ao];unfold uC;have bl:ak.length=a.length+1:=by rw[K.length_eq];simp[-Xm]
  refine rh.2 ⟨⟨m - 1,by omega,_,_,ak,an,_,_,rfl,al,ar,by omega,λj ah a4=>?_,.inr ⟨q,bc,a6,?_⟩,si _ _ _,?_,λw=>?_,by omega⟩,rfl⟩
  ·rw[a0 j ah (λbq C=>?_) (by omega),ad j ah a4];rcases B with rfl|⟨bd,bb,rfl,a2⟩
   ·cases C
   ·injection C with _ C;omega
  ·rcases ag with⟨br,E⟩|ag
   ·rcases B with rfl|⟨bd,bb,rfl,a2⟩
    ·cases E
    ·injection E with _ E;omega
   ·omega
  ·rw[K.nodup_iff,yg];refine⟨F,by simp,λbf aw b ay=>?_⟩;rw[gz.1 ay];exact λA=>af (A▸aw)
  ·rw [K.mem_iff,eI,gz,v w];constructor
   ·rintro(⟨p,d,c,n⟩|rfl)
    ·exact⟨p,d,c,by simp[-Xm,n]⟩
    ·exact⟨x,ai,z,by simp⟩
   ·rintro⟨p,d,c,n⟩;by_cases aj:p=x
    ·right;subst aj;rw[z]at c;injection c with c;omega
    ·left;exact⟨p,d,c,by simpa[-Xm,aj]using n⟩
theorem II{a:Type}{l:List a}{ps:List Nat}{k:Nat}{x:a}(h:l[k]?=some x):pk l (ps++[k])=pk l ps++[x]:=by
 unfold pk;rw[List.filterMap_append];simp[-Xm,h]
theorem um{c:Type}{l:List c}:∀{ps:List Nat},(∀k∈ps,k<l.length)→(pk l ps).length=ps.length
 |[],_=>rfl
 | k::ps,h=>by
  have a:=h k (iy ..);have b:l[k]?=some l[k]:=cJ a;unfold pk;rw[pP,b];simp only[eP];exact gi (· + 1) (um (ps:=ps) λk a=>h k (gy _ a))
theorem TV{a b:Type}(f:a→b)(l:List a)(ps:List Nat):pk (l.map f) ps=(pk l ps).map f:=by
 unfold pk;rw[List.map_filterMap];congr 1;funext c;simp[-Xm]
theorem fp.bH{g g':J}{o r:Nat}{rks:List Int}{e:List Nat}{b:D}(H:fp g o r rks e b)(h:∀a,(a=o∨a=r∨∃n,b = .aO 1 a 0 n)→g'[a]?=g[a]?):fp g' o r rks e b:=by
 obtain⟨er,m⟩:=H.rk;refine⟨by rw[h o (.inl rfl)];exact H.ob,H.rr,⟨er,by rw[h r (.inr (.inl rfl))];exact m⟩,?_,H.pb⟩;rcases H.pp with l|⟨d,f,i,j,c,k⟩
 ·exact .inl l
 ·exact .inr ⟨d,f,i,j,c,by rw[h d (.inr (.inr ⟨_,c⟩))];exact k⟩
theorem wS{g:J}{N:Nat}{rows:List (List D)}{d:D}(h:Own g N aF 11 rows d){c T z:Nat}{i:List (List D)}(a:g[c]?=some (.row T z i))(f:T≠aF):¬d.e9 c:=by
 rintro⟨l,j,rfl⟩;rcases h with⟨b,_⟩|⟨k,_,b,e⟩
 ·cases b
 ·injection b with _ b;subst b;rw[e]at a;injection a with a;injection a with a;exact f a.symm
theorem fp.uh{g:J}{o r:Nat}{rks:List Int}{l:List Nat}{c:D}(H:fp g o r rks l c){N:Nat}{rows:List (List D)}{d:D}(h:Own g N aF 11 rows d){b:Nat}(j:b=o∨b=r∨∃n,c = .aO 1 b 0 n):¬d.e9 b:=by
 rcases j with rfl|rfl|⟨n,a⟩
 ·exact wS h H.ob (by decide)
 ·obtain⟨er,k⟩:=H.rk;exact wS h k (by decide)
 ·rcases H.pp with⟨e,_⟩|⟨q,m,e,p,f,i⟩
  ·rw[e]at a;cases a
  ·rw[f]at a;injection a with _ a;subst a;exact wS h i (by decide)
theorem Ss {l:List It} {K:D} (b5:aR 11 aE l K) (c1:l.length≤900000000) {o r a N:Nat} {g:J} {rks:List Int} (bc:rks.length≤1000000000) (c5:l.length≤rks.length) {e:List Nat} {s:D} (H:fp g o r rks e s) (bq:ic (eF (dG rks)) (bF e) e.length) (bu:oz l.length (dR l) [] e) {rows:List (List D)}
  (bw:g[a]?=some (.row U 1 rows)) (cd:∀j,j<l.length→rows[j]?=some (inr (lB l j))) (av:a≠o) (b6:s = .aB∨∃q m,s = .aO 1 q 0 m∧q≠a∧N≤q) (cq:N≤o) (cp:N≤g.length) (cr:a<g.length) (m:Int) (X aa ab:D) :
  Wp (cA (oq K (.int .i64 m) (.ptr o 0 0) (.aO 1 a 0 l.length)) [.aB,X,aa,ab] g) λx=>∃ps f,x.1 = .ext 4∧Z 0 x.2.1=f∧fw l.length (dR l) (dG rks) ps∧ps.length=min m.toNat l.length∧Own x.2.2 N aF 11 ((pk l ps).map aE) f∧(ps=[]→f = .aB)∧g.length≤x.2.2.length∧∀b,b<N→x.2.2[b]?=g[b]?:=by
 have cg:Wp ((cA (oq K (.int .i64 m) (.ptr o 0 0) (.aO 1 a 0 l.length)) [.aB,X,aa,ab] g).bind Option.some) λx=>∃ps f,x.1 = .ext 4∧Z 0 x.2.1=f∧fw l.length (dR l) (dG rks) ps∧ps.length=min m.toNat l.length∧Own x.2.2 N aF 11 ((pk l ps).map aE) f∧(ps=[]→f = .aB)∧g.length≤x.2.2.length∧∀b,b<N→x.2.2[b]?=g[b]?:=by
  refine Wp.loop (λR aq B=>∃f an ao ap ps e s,aq=[f,an,ao,ap]∧R+ps.length=l.length+1∧fw l.length (dR l) (dG rks) ps∧ps.length≤m.toNat∧fp B o r rks e s∧ic (eF (dG rks)) (bF e) e.length∧oz l.length (dR l) ps e∧B[a]?=some (.row U 1 rows)∧(s = .aB∨∃q m,s = .aO 1 q 0 m∧q≠a∧N≤q)∧Own B N aF 11 ((pk l ps).map aE) f∧(ps=[]→f = .aB)∧g.length≤B.length∧∀b,b<N→B[b]?=g[b]?) _ (l.length+1)
   ⟨_,_,_,_,[],e,s,rfl,by simp,.nil,by simp,H,bq,bu,bw,b6,Own.aB _ _ _ _,λ_=>rfl,aX _,λ_ _=>rfl⟩ ?_ (λr ak =>.some ak)
  rintro R aq co ⟨f,an,ao,ap,ps,e,s,rfl,cz,v,c3,G,br,C,bx,ay,y,a7,a1,ag⟩;have a5:(pk l ps).length=ps.length:=um v.mem;have b7:aT tab aV f=some (.int .i64 (ps.length:Nat)):=by rw[wD y];simp[-Xm,a5]
  have c4:=v.len;simp only[oq,bD,bY,b7,cI,W];by_cases a6:(ps.length:Int)<m
  ·have bv:=Cs G;simp only[a6,bK,bL,fS,aJ,bv,W,cZ,bI,aK];by_cases ba:(0:Int)<(e.length:Nat)
   ·simp only[ba,bK,aJ,W];obtain⟨n,d⟩:∃n,e.length=n+1:=⟨e.length - 1,by omega⟩
    have c2:=KB C;obtain⟨ad,ac,am,bk,A,T,au,b2,c7,al,q,k,F⟩:=UW bc d (by omega) G br;generalize cs:bF e 0=c at *;have b3:c∈e:=T.mem_iff.2 (iy ..);obtain⟨ar,bp⟩:=KA C b3 b2;have ax:c<l.length:=ar.1;obtain⟨bf,a2⟩:∃cf,l[c]?=some cf:=⟨_,cJ ax⟩
    have aw:(0:Int)≤(c:Int):=by omega
    have b4:(c:Int)<(l.length:Int):=by omega
    have b1:oI U (.iface U (.int .i64 (c:Int)))=some (.int .i64 (c:Int)):=by simp[-Xm,oI]
    have ai:q≠a:=by
     rcases ay with h|⟨bh,ci,h,M,_⟩
     ·rw[h]at k;cases k
     ·rw[h]at k;injection k with _ k;omega
    have ca:N≤q:=by
     rcases ay with h|⟨bh,ci,h,_,M⟩
     ·rw[h]at k;cases k
     ·rw[h]at k;injection k with _ k;omega
    have ae:ad[a]?=some (.row U 1 rows):=by
     rw[al a av (λn d=>by rw[k]at d;injection d with _ d;exact ai d)];exact bx
    have aj:Own ad N aF 11 ((pk l ps).map aE) f:=y.bH λb p u=>al b (λw=>G.uh y (.inl w) u) (λn d=>G.uh y (.inr (.inr ⟨n,d⟩)) u)
    have a0:∀b,b<N→ad[b]?=g[b]?:=λb p=>by
     rw[al b (by omega) (λn d=>by rw[k]at d;injection d with _ d;omega)];exact ag b p
    simp only[bk,W,b1,k8 b5,aw,aJ,dY,a2,fW,lf,Lm];refine nD (n0:=N) (by omega) aj (ys:=[aE bf]) rfl (by simp[-Xm,a5];omega) λcl L z ct az a3 cw=>?_
    have P:L[a]?=some (.row U 1 rows):=by
     rw[a3 a (bO.1 ae).1 (wS aj ae (by decide))];exact ae
    have I:fp L o r rks am ac:=A.bH λb p=>a3 b (by
     rcases p with rfl|rfl|⟨bg,i⟩
     ·exact(bO.1 A.ob).1
     ·obtain⟨er,ak⟩:=A.rk;exact(bO.1 ak).1
     ·rcases A.pp with⟨t,_⟩|⟨bh,cn,t,M,bn,bo⟩
      ·rw[t]at i;cases i
      ·rw[bn]at i;injection i with _ i;subst i;exact(bO.1 bo).1) (A.uh aj p)
    have cb:(pk l ps).map aE++[aE bf]=(pk l (ps++[c])).map aE:=by rw[II a2];simp[-Xm]
    rw[cb]at z;have bd:fw l.length (dR l) (dG rks) (ps++[c]) :=.snoc v ar bp;have b0:=cd c ax;have cx:oW a 0 l.length (c:Int)=oW a 0 l.length (c:Int):=rfl;have bb:aQ tab aW (.aO 1 a 0 l.length) (.int .i64 (c:Int))=some (.ptr a c 0):=by
     rw[oW,bE ⟨aw,b4⟩];simp[-Xm]
    have a4:aA tab L U (.ptr a c 0)=some (.int .i64 (lB l c)):=by
     rw[fB,dT P,b0];rfl
    simp only[bb,a4,W,ju,aK];have Q:=Ko (n:=l.length) (fl:=dR l) c;cases E:jb l.length (dR l) (c+1) (dR l c)with
    | none =>
     have af:lB l c = -1:=by unfold lB;rw[E]
     have b8:¬(0:Int) ≤ -1:=by omega
     rw[E]at Q;simp only[af,b8,bG,aP,aL,W,gV];refine .some (.inl ⟨rfl,R - 1,by omega,_,_,_,_,ps++[c],am,ac,rfl,by simp;omega,bd,by simp;omega,I,au,Fa v C T Q (by simp),P,.inr ⟨q,_,F,ai,ca⟩,z,(λw=>by simp at w),(show g.length≤L.length by omega),λb p=>?_⟩);rw[az b p];exact a0 b p
    | some j =>
     have af:lB l c=(j:Int):=by unfold lB;rw[E]
     have ce:(0:Int)≤(j:Int):=by omega
     have cy:=oA.1 E;have c0:am.length≤900000000:=by have:=T.length_eq;simp at this;omega
     rw[E]at Q;obtain⟨bm,bj,ch,bl,bi,ck,bt,cu,⟨cj,c6,b9,a9⟩,ah⟩:=Jr bc (by omega) (show j<rks.length by omega) I au;have a8:∀b,(cl.e9 b)→b≠o∧∀n,ac ≠ .aO 1 b 0 n:=λb u=>⟨λw=>I.uh z (.inl w) u,λn d=>I.uh z (.inr (.inr ⟨n,d⟩)) u⟩
     simp only[af,ce,bK,aJ,W,bb,a4,bl,gV];have bz:=(bO.1 P).1;refine .some (.inl ⟨rfl,R - 1,by omega,_,_,_,_,ps++[c],ch,bj,rfl,by simp;omega,bd,by simp;omega,bi,bt,Fa v C T Q (ck.trans (by simpa using yi)),?_,.inr ⟨cj,_,b9,?_,?_⟩,z.bH λb p u=>?_,(λw=>by simp at w),(show g.length≤bm.length by omega),λb p=>?_⟩)
     ·rw[ah a av (λn d=>by rw[F]at d;injection d with _ d;exact ai d) bz];exact P
     ·rcases a9 with⟨bg,i⟩|h
      ·rw[F]at i;injection i with _ i;omega
      ·omega
     ·rcases a9 with⟨bg,i⟩|h
      ·rw[F]at i;injection i with _ i;omega
      ·omega
     ·exact ah b (a8 b u).1 (a8 b u).2 (z.lt u).2
     ·rw[ah b (by omega) (λn d=>by rw[F]at d;injection d with _ d;omega) (by omega),az b p];exact a0 b p
   ·have cc:e=[]:=fQ (by omega);subst cc;simp only[ba,bG,aP,aL];have:=KC C v;exact .some (.inr ⟨by simp,ps,f,rfl,rfl,v,by omega,y,a7,a1,ag⟩)
  ·simp only[a6,bG,bL,fS,aP,aL,W,eL,bI,aK];exact .some (.inr ⟨by simp,ps,f,rfl,rfl,v,by omega,y,a7,a1,ag⟩)
 obtain⟨x,t,M⟩:=cg;cases be:cA (oq K (.int .i64 m) (.ptr o 0 0) (.aO 1 a 0 l.length)) [.aB,X,aa,ab] g with
 |none=>rw[be]at t;cases t
 | some cm =>
  rw[be]at t;injection t with t;subst t;exact⟨cm,rfl,M⟩
theorem Im(h:J)(n:Nat)(b:n≤2000000000):p4 tab h aW (.int .i64 n) (.int .i64 n)=some (.aO 1 h.length 0 n,aZ h U 1 (List.replicate n [.int .i64 0])):=by
 have a:lim ((n:Int)).toNat gb.gI=true:=by rw[dY];exact wF b
 show(if 0≤(n:Int)∧(n:Int)≤n∧lim (n:Int).toNat gb.gI=true∧0<gb.Y then some (D.aO gb.Y h.length 0 (n:Int).toNat,aZ h U gb.Y (List.replicate (n:Int).toNat gb.zero))else none)=_;rw[bE ⟨by omega,by omega,a,by decide⟩,dY];rfl
theorem KX{h:J}{o n:Nat}{rks:List Int}(d:h[o]?=some (.row U 1 (rks.map inr)))(e:rks.length=n)(i:n≤900000000)(g:0<n):cW tab h aW U (.aO 1 o 0 n) (.int .i64 n)=some (.aO 1 h.length 0 (rks++List.replicate n 0).length,aZ (h.set o .dead) U 1 ((rks++List.replicate n 0).map inr)):=by
 rw[Wx];have b:k0 h gb gb (.int .i64 n)=some (List.replicate n [.int .i64 0]):=by
  show(if 0≤(n:Int)∧lim (n:Int).toNat gb.gI=true then some (List.replicate (n:Int).toNat gb.zero)else none)=_;rw[bE ⟨by omega,by rw[dY];exact wF (by omega)⟩,dY];rfl
 unfold sn;rw[b];obtain⟨a,rfl⟩:∃a,n=a+1:=⟨n - 1,by omega⟩
 have f:gb.Y=1:=id rfl;have c:lim (a+1+(a+1)) gb.gI=true:=wF (by omega);simp only[f,show Nat.blt 0 1=true from rfl,yj,d,eQ,eP,List.length_replicate,c,e,aX,gX,aJ,dL,fV,gO,List.map_replicate];rfl
theorem Uo{rks:List Int}{n k:Nat}(a:k<rks.length):dG (rks++List.replicate n 0) k=fJ rks k:=by
 unfold dG fJ;rw[eV a]
theorem Vm{n:Nat}{fl rk e:Nat→Int}(h:∀k,k<n→rk k=e k){l:List Nat}(d:fw n fl rk l):fw n fl e l:=by
 induction d with
 |nil=>exact .nil
 | snoc d a f i =>
  refine .snoc i a λg b c=>f g b ?_
  unfold eF at c ⊢;rw[h _ b.1,h _ a.1];exact c
theorem VD{n:Nat}{h:J}{e:List It}:∀row∈e.map aE,∀d∈row,cV n h 3 d=d:=by
 intro row b d a;obtain⟨c,_,rfl⟩:=e8.1 b;exact qj n h 2 c d a
theorem TJ{i p:D}(x:aR 11 aE [] i)(af:aR 1 inr [] p)(m:Int)(h:J):sC i p (.int .i64 m) h (λd h'=>e7 (scope h h' d=some (.aB,h)) (some ()))=some ():=by
 have q:∃a,R ni [p] h=some (a,h)∧(a = .aB∨a = .sl 1 true []):=by
  rcases af with⟨rfl,_⟩|⟨e,rfl⟩
  ·refine⟨.aB,?_,.inl rfl⟩;rw[th];have j:V tab .eql aW .aB .aB=some (.bool true):=id rfl;simp only[qR,j,W,aK,aJ,bR]
  ·refine⟨.sl 1 true [],?_,.inr rfl⟩;rw[th];have j:V tab .eql aW (.sl 1 e (List.map inr [])) .aB=some (.bool false):=id rfl;have r:cW tab h aW aW (.sl 1 true []) (.sl 1 e (List.map inr []))=some (.sl 1 true [],h):=id rfl;simp only[qR,j,r,W,aK,aP,aL,FA,bR]
 obtain⟨a,q,y⟩:=q;have X:aT tab aV i=some (.int .i64 (0:Nat)):=by simpa using jh x
 have j:cW tab h aW U a (.int .i64 (0:Nat))=some (a,h):=by rcases y with rfl|rfl<;>exact id rfl
 have r:eX tab ff [1] [a]=some (.agg [.aB,a]):=Fw _ (by rcases y with rfl|rfl<;>rfl);have F:=so ff 2 h [.aB,a] rfl (by decide);have G:=Im (aZ h ff 2 [[.aB,a]]) 0 (by omega);have l:(aZ h ff 2 [[.aB,a]]).length=h.length+1:=by simp[-Xm,aZ]
 have aj:IntKind.wrap .i64 (((0:Nat):Int) - 1)=((([]:List It).length:Nat):Int) - 1:=rfl;unfold sC;simp only[q,X,j,r,F,G,W,eH,aj];unfold wK;refine oG.2 λw=>nj.2 λ_=>?_
 rw[l];have N:(aZ (aZ h ff 2 [[.aB,a]]) U 1 (List.replicate 0 [.int .i64 0]))[h.length+1]?=some (.row U 1 (List.replicate ([]:List It).length [.int .i64 0])):=by
  have:=hZ (aZ h ff 2 [[.aB,a]]) U 1 (List.replicate 0 [.int .i64 0])
  rwa [l]at this
 have ad:(aZ (aZ h ff 2 [[.aB,a]]) U 1 (List.replicate 0 [.int .i64 0]))[h.length]?=some (.row ff 2 [[.aB,a]]):=by
  rw[gQ _ _ _ _ (by rw[l];omega)];exact hZ _ _ _ _
 refine H4 x (by simp) (λak Q=>by cases Q) N (si _ _ _) _ _ _ _ λf k E al C e t _ _ _ L M=>?_
 have ae:k[h.length]?=some (.row ff 2 [[.aB,a]]):=by rw[t.2 _ (by omega)];exact ad
 have ac:∀c,e c=none:=λc=>by
  rw[M c];cases s:jb ([]:List It).length (dR []) 0 c with
  |none=>rfl
  |some B=>have:=(oA.1 s).2.1;simp at this
 simp only[dV,cL];unfold ud;simp only[L];refine oG.2 λu=>nj.2 λ_=>?_
 have aa:∀n:Ex→List D→J→Mp→Option Unit,(∀f b g,b=k→n (.ext 2) f b g=some ())→pa (sD (.ptr h.length 0 0) (.raw (.pointer (some ⟨u,0,none⟩)))) [.any,.any] k (E.set u (.it w C e (λc=>(e c).isSome) none)) n=some ():=λn H=>by
  refine BH (λB f b g=>b=k∧(∃v o,f=[v,o])∧g u=some (.it w C e (λc=>(e c).isSome) none)) 0 ⟨rfl,⟨_,_,rfl⟩,si _ _ _⟩ ?_;rintro B f b g ⟨rfl,⟨v,o,rfl⟩,K⟩;simp only[sD];refine Ib K (λ_=>?_) λc o _ _ _ A=>?_
  ·simp only[jd,iZ,W,aK,aP,aL];exact H _ _ _ rfl
  ·rw[ac]at A;cases A
 refine aa _ λf b g P=>?_
 subst P;have ah:aA tab b aW (.ptr h.length 0 (0+0))=some .aB:=by
  rw[BD,dT ae];rfl
 have I:R tD [.ptr h.length 0 0] b=some (.int .i64 (0:Nat),b):=by
  rw[Gg];simp only[xU,r7,(qf h.length).1,ah,R5,W,bR];rfl
 have T:cA (oq i (.int .i64 m) (.ptr h.length 0 0) (.aO 1 (h.length+1) 0 0)) [.aB,.any,.any,.any] b=some (.ext 4,[.aB,.any,.bool false,.any],b):=by
  rw[jJ];have:oq i (.int .i64 m) (.ptr h.length 0 0) (.aO 1 (h.length+1) 0 0) [.aB,.any,.any,.any] b=some (.ext 4,[.aB,.any,.bool false,.any],b):=by
   have ab:aT tab aV .aB=some (.int .i64 0):=id rfl;simp only[oq,bD,bY,ab,cI,W];by_cases z:(0:Int)<m
   ·simp only[z,bK,bL,fS,aJ,I,W,cZ,bI,aK]
    try rfl
   ·simp only[z,bG,bL,fS,aP,aL,W,eL,bI,aK]
    try rfl
  rw[this];rfl
 simp only[dV,cL,T,W,bD,bR];have ag:scope h b .aB=some (.aB,h):=by
  refine iu rfl .aB (by have:=t.1;simp[-Xm,aZ]at this;omega) λai s=>?_
  rw[t.2 ai (by omega),gQ _ _ _ _ (by rw[l];omega),gQ _ _ _ _ s]
 simp only[ag,e7,aJ]
theorem TH{l:List It}{rks:List Int}{x F:D}(k:aR 11 aE l x)(A:aR 1 inr rks F)(R:l.length=rks.length)(bt:l.length≤400000000)(ao:0<l.length)(L:∀i∈l,dZ i.e.a1)(m:Int)(h:J):
  sC x F (.int .i64 m) h (λd h'=>e7 (scope h h' d=some (lQ 11 ((pk l (jZ l.length (dR l) (fJ rks) m.toNat)).map aE),h)) (some ()))=some ():=by
 have G:=Jq A h (by omega) (by omega);rw[← R]at G;have a0:aT tab aV x=some (.int .i64 (l.length:Nat)):=jh k;have al:=hZ h U 1 (rks.map inr);have s:=KX al R.symm (by omega) ao;have K:(aZ h U 1 (rks.map inr)).length=h.length+1:=by simp[-Xm,aZ]
 rw[K]at s;generalize B:rks++List.replicate l.length 0=b at s;have X:l.length≤b.length:=by rw[← B];simp[-Xm]
 have bu:b.length≤1000000000:=by rw[← B];simp[-Xm];omega
 generalize y:aZ ((aZ h U 1 (rks.map inr)).set h.length .dead) U 1 (b.map inr)=f at s;have p:f.length=h.length+2:=by rw[← y];simp[-Xm,aZ]
 have bc:∀c,c<h.length→f[c]?=h[c]?:=λc q=>by
  rw[← y,gQ _ _ _ _ (by simp[-Xm,aZ];omega),jS (by omega),gQ _ _ _ _ q]
 have bg:f[h.length+1]?=some (.row U 1 (b.map inr)):=by
  have:=hZ ((aZ h U 1 (rks.map inr)).set h.length .dead) U 1 (b.map inr);rw[List.length_set,K,y]at this;exact this
 have aj:eX tab ff [1] [.aO 1 (h.length+1) 0 b.length]=some (.agg [.aB,.aO 1 (h.length+1) 0 b.length]):=Fw _ rfl;have ak:=so ff 2 f [.aB,.aO 1 (h.length+1) 0 b.length] rfl (by decide);have H:=Im (aZ f ff 2 [[.aB,.aO 1 (h.length+1) 0 b.length]]) l.length (by omega);have u:(aZ f ff 2 [[.aB,.aO 1 (h.length+1) 0 b.length]]).length=h.length+3:=by simp[-Xm,aZ,p]
 rw[u]at H;have bi:IntKind.wrap .i64 ((l.length:Int) - 1)=(l.length:Int) - 1:=cN (by omega) (by omega);unfold sC;simp only[G,a0,s,aj,ak,H,W,eH,bi];generalize t:aZ (aZ f ff 2 [[.aB,.aO 1 (h.length+1) 0 b.length]]) U 1 (List.replicate l.length [.int .i64 0])=j;have br:j.length=h.length+4:=by rw[← t];simp[-Xm,aZ,p]
 have ag:j[h.length+3]?=some (.row U 1 (List.replicate l.length [.int .i64 0])):=by
  have:=hZ (aZ f ff 2 [[.aB,.aO 1 (h.length+1) 0 b.length]]) U 1 (List.replicate l.length [.int .i64 0]);rw[u,t]at this;exact this
 have ad:∀c,c<h.length+2→j[c]?=f[c]?:=λc q=>by
  rw[← t,gQ _ _ _ _ (by rw[u];omega),gQ _ _ _ _ (by rw[p];omega)]
 have be:j[h.length+2]?=some (.row ff 2 [[.aB,.aO 1 (h.length+1) 0 b.length]]):=by
  rw[← t,gQ _ _ _ _ (by rw[u];omega)];have:=hZ f ff 2 [[.aB,.aO 1 (h.length+1) 0 b.length]]
  rwa [p]at this
 unfold wK;refine oG.2 λC=>nj.2 λ_=>?_
 rw[p];refine H4 (l:=l) k (by omega) L ag (si _ _ _) _ _ _ _ λai am bl bh bz bo v ax bv a8 ar au=>?_
 have ae:fp am (h.length+2) (h.length+1) b [] .aB:=⟨by rw[v.2 _ (by omega)];exact be,by omega,⟨[],by rw[v.2 _ (by omega),ad _ (by omega),bg];simp[-Xm]⟩,.inl ⟨rfl,rfl⟩,λbb Q=>by cases Q⟩
 simp only[dV,cL];unfold ud;simp only[ar];refine oG.2 λbx=>nj.2 λ_=>?_
 have bw:=v.1;refine Sr (l:=l) (by omega) L (rks:=b) (by omega) X ae (si _ _ _) au _ _ λai an bm b0 bn af ap aq bq M a2=>?_
 have ah:an[h.length+3]?=some (.row U 1 bh):=by rw[M _ (by omega) (by omega)];exact ax
 obtain⟨bj,ba,w,E,ab,ac,aa,a6,T,a4,ay,P⟩:=Ss (l:=l) k (by omega) (rks:=b) (o:=h.length+2) (r:=h.length+1) (a:=h.length+3) (N:=h.length) (by omega) X af ap aq ah a8 (by omega) (by
  rcases a2 with g|⟨bf,bd,g,f⟩
  ·exact .inl g
  ·exact .inr ⟨bf,bd,g,by omega,by omega⟩) (by omega) (by omega) (by omega) m .any .any .any
 obtain⟨b2,b3,I⟩:=bj;simp only at ab ac T ay P;subst ab;simp only[dV,cL,ba,W,bD,ac,bR];have a7:w=jZ l.length (dR l) (fJ rks) m.toNat:=yw (Vm (λbb Q=>by rw[← B];exact Uo (by omega)) aa) a6;have aw:cV h.length I 4 E=lQ 11 ((pk l (jZ l.length (dR l) (fJ rks) m.toNat)).map aE):=by
  rw[← a7];rcases G2 T (aX _) (n:=3) VD with⟨g,f⟩|g
  ·rw[g,f];rfl
  ·by_cases z:w=[]
   ·rw[a4 z,z];rfl
   ·rw[g];have a3:(pk l w).map aE≠[]:=λaz=>by
     have bp:=um (l:=l) aa.mem;have j:=gi List.length az;simp only[eQ,eJ]at j;exact z (fQ (by omega))
    cases av:(pk l w).map aE with
    |nil=>exact absurd av a3
    |cons a C=>rfl
 have a5:Ok h.length (lQ 11 ((pk l (jZ l.length (dR l) (fJ rks) m.toNat)).map aE)):=by
  generalize (pk l (jZ l.length (dR l) (fJ rks) m.toNat))=bk;cases bk with
  |nil=>exact .aB
  | cons a C =>
   refine .sl _ _ _ λb1 A d k=>?_
   obtain⟨i,_,rfl⟩:=e8.1 A;exact rZ _ i d k
 have a9:scope h I E=some (lQ 11 ((pk l (jZ l.length (dR l) (fJ rks) m.toNat)).map aE),h):=by
  refine iu aw a5 (by omega) λc q=>?_
  rw[P c q,M c (by omega) (by omega),v.2 c (by omega),ad c (by omega),bc c q]
 simp only[a9,e7,aJ]
theorem Vs{a:List (Int × Int × aD)}{d:D}(h:aR 3 BG a d):aR 3 bC (a.map λp=>dJ.mk p.1 p.2.1 p.2.2) d:=by
 rcases h with⟨rfl,rfl⟩|⟨b,rfl⟩
 ·exact .inl ⟨rfl,rfl⟩
 ·exact .inr ⟨b,by rw[sI];rfl⟩
theorem Sc{a:List dJ}{d:D}(h:aR 3 bC a d):aR 3 BG (a.map λp=>(p.off,p.len,p.eD)) d:=by
 rcases h with⟨rfl,rfl⟩|⟨b,rfl⟩
 ·exact .inl ⟨rfl,rfl⟩
 ·exact .inr ⟨b,by rw[sI];rfl⟩
theorem Rm{row:List D}(h:uY row):∃i:It,aE i=row∧dZ i.e.a1:=by
 obtain⟨r,s,t,a,b,c,d,f,g,q,j,u,k,rfl,l,m,n,o,p⟩:=h;exact⟨⟨r,⟨a,b,c,d,_,q,f,g,s,t,k,j,n,o,Vs l,by simpa using m⟩⟩,rfl,p⟩
theorem TN{i:It}(h:dZ i.e.a1):uY (aE i):=⟨i.r,i.e.s7,i.e.s8,i.e.a0,i.e.a1,i.e.a2,i.e.a3,i.e.a5,i.e.a6,i.e.ld,i.e.fd,_,i.e.fs,rfl,Sc i.e.fZ,by simpa using i.e.rW,i.e.gk,i.e.hl,h⟩
theorem Hh:∀{b:List (List D)},(∀row∈b,uY row)→∃l:List It,b=l.map aE∧∀i∈l,dZ i.e.a1
 |[],_=>⟨[],rfl,λi hi=>by cases hi⟩
 | row::b,h=>by
  obtain⟨i,c,h2⟩:=Rm (h row (iy ..));obtain⟨l,d,f⟩:=Hh λk g=>h k (gy _ g)
  refine⟨i::l,by rw[gO,c,d],λj a=>?_⟩;rcases dW.1 a with rfl|a
  ·exact h2
  ·exact f j a
theorem I6:∀{a:List (List D)},(∀row∈a,∃r,row=[.int .i64 r])→∃rks:List Int,a=rks.map inr
 |[],_=>⟨[],rfl⟩
 | row::a,h=>by
  obtain⟨r,rfl⟩:=h row (iy ..);obtain⟨d,b⟩:=I6 λr c=>h r (gy _ c)
  exact⟨r::d,by rw[gO,← b];rfl⟩
theorem I8{a:Type}{z:Nat}{f:a→List D}{l:List a}{d:D}(h:lp z d=some (l.map f)):aR z f l d:=by
 unfold lp at h;split at h
 ·injection h with h;exact .inl ⟨rfl,List.map_eq_nil_iff.1 h.symm⟩
 ·split at h
  ·rename_i b;injection h with h;subst b;exact .inr ⟨_,by rw[h]⟩
  ·cases h
 ·cases h
theorem JH{a:Type}{z:Nat}{f:a→List D}{l:List a}{d:D}(h:aR z f l d):lp z d=some (l.map f):=by
 rcases h with⟨rfl,rfl⟩|⟨b,rfl⟩
 ·rfl
 ·unfold lp;simp[-Xm]
theorem Iy(l:List It)(rks:List Int)(m:Int):BT (l.map aE) (rks.map inr) m=(pk l (jZ l.length (dR l) (fJ rks) m.toNat)).map aE:=by
 unfold BT;rw[TV,eQ,sI,sI];have a:(tN 2 ∘ aE)=λc=>c.e.a1:=rfl
 have b:(rks.map (tN 0 ∘ inr))=rks:=by
  have:(tN 0 ∘ inr)=id:=rfl;rw[this];simp[-Xm]
 rw[a,b]
theorem F1{l:List It}{rks:List Int}{b c:D}(f:aR 11 aE l b)(n:aR 1 inr rks c)(k:l.length=rks.length)(j:l.length≤400000000)(g:∀i∈l,dZ i.e.a1)(m:Int)(h:J):
  rq [b,c,.int .i64 m] h=some (lQ 11 ((pk l (jZ l.length (dR l) (fJ rks) m.toNat)).map aE),h):=by
 unfold rq;simp only[JH f,JH n];rw[bE,Iy];refine⟨by simpa using k,by simpa using j,λo a=>?_,λo a=>?_⟩
 ·obtain⟨i,d,rfl⟩:=e8.1 a;exact TN (g i d)
 ·obtain⟨i,d,rfl⟩:=e8.1 a;exact⟨i,rfl⟩
theorem Wd{args:List D}{h:J}{r:D × J}(a:rq args h=some r):mF X R cA JS Ha args h (λd h'=>e7 (scope h h' d=some r) (some ()))=some ():=by
 unfold rq at a;split at a
 case h_2=>cases a
 rename_i w y c;split at a
 case h_2=>cases a
 rename_i x z s t;split at a
 case isFalse=>cases a
 rename_i q;injection a with a;subst a;obtain⟨e,f,k,l⟩:=q;obtain⟨j,rfl,n⟩:=Hh k;obtain⟨u,rfl⟩:=I6 l;rw[Qj,Iy];simp only[eQ]at e f;have g:=I8 s;have i:=I8 t;rcases pU j.length with b|b
 ·have p:j=[]:=fQ b;have o:u=[]:=fQ (by omega);subst p;subst o;have:pk ([]:List It) (jZ ([]:List It).length (dR []) (fJ []) c.toNat)=[]:=by
   unfold pk;exact List.filterMap_eq_nil_iff.2 λv _=>rfl
  rw[this];exact TJ g i c h
 ·exact TH g i e f b n c h
def eG(f x:Int):It:=⟨[114],⟨0,f,x,x+1,[⟨x,1,[]⟩],.sl 3 true [[.int .i64 x,.int .i64 1,.str []]],0,0,[],[],[],.aB,.aB _ _,by simp,.mk _ _ _ _,by simp⟩⟩
theorem Cr(f x:Int)(q:0≤x)(r:x≤10)(h:J):R qd [.int .i64 f,.int .i64 x] h=some (.agg (aE (eG f x)),h):=by
 have p:IntKind.wrap .i64 (x+1)=x+1:=cN (by omega) (by omega);have d:eX tab bS [0,1] [.int .i64 x,.int .i64 1]=some (.agg [.int .i64 x,.int .i64 1,.str []]):=id rfl;have g:bJ tab bA 1 [0] [.agg [.int .i64 x,.int .i64 1,.str []]]=some (.sl 3 true [[.int .i64 x,.int .i64 1,.str []]]):=id rfl;have i:eX tab aG [1,2,3,4] [.int .i64 f,.int .i64 x,.int .i64 (x+1),.sl 3 true [[.int .i64 x,.int .i64 1,.str []]]]=some (.agg (bV (eG f x).e)):=id rfl;have j:eX tab aF [0,1] [.str [114],.agg (bV (eG f x).e)]=some (.agg (aE (eG f x))):=id rfl;apply Wp.val;rw[Nx];simp only[D4,W,cY,p,d,g,i,j];have k:=hZ h aF 11 [[.str [],.int .i64 0,.int .i64 0,.int .i64 0,.int .i64 0,.aB,.int .i64 0,.int .i64 0,.str [],.str [],.aB]];simp only[aU];refine jP k (by rfl) (by rfl) (by exact aX _) (by rfl) λa b c=>?_
 have b:a[h.length]?=some (.row aF 11 [aE (eG f x)]):=b;have l:aA tab a aF (.ptr h.length 0 0)=some (.agg (aE (eG f x))):=by
  rw[r2,dT b];rfl
 simp only[W,l,bR];have n:scope h a (.agg (aE (eG f x)))=some (.agg (aE (eG f x)),h):=by
  refine iu (by rfl) (qk _ _) (by have:=c.1;simp[-Xm,aZ]at this;omega) λo m=>?_
  rw[c.2 o (by omega),gQ _ _ _ _ m]
 rw[n];exact .some rfl
theorem Lw(f:FuncId)(xs:List D)(h:J):gu R1 (.fn (.func f) [] []) xs h=R1 f xs h:=by
 rw[FI];simp[-Xm]
theorem Cq(h:J):R1 zr [] h=some (.bool true,h):=by
 have p:=Cr 1 0 (by omega) (by omega) h;have q:=Cr 2 0 (by omega) (by omega) h;have r:=Cr 1 1 (by omega) (by omega) h;have s:bJ tab aV 3 [0,1,2] [.agg (aE (eG 1 0)),.agg (aE (eG 2 0)),.agg (aE (eG 1 1))]=some (.sl 11 true ([eG 1 0,eG 2 0,eG 1 1].map aE)):=id rfl;have t:bJ tab aW 3 [0,1,2] [.int .i64 0,.int .i64 5,.int .i64 9]=some (.sl 1 true ([0,5,9].map inr)):=id rfl;have C:[1,0]=jZ 3 (dR [eG 1 0,eG 2 0,eG 1 1]) (fJ [0,5,9]) 2:=by
  have d:dR [eG 1 0,eG 2 0,eG 1 1] 0=1:=rfl;have v:dR [eG 1 0,eG 2 0,eG 1 1] 1=2:=rfl;have g:dR [eG 1 0,eG 2 0,eG 1 1] 2=1:=rfl;have L:fJ [0,5,9] 0=0:=rfl;have r1:fJ [0,5,9] 1=5:=rfl;have w:fI 3 (dR [eG 1 0,eG 2 0,eG 1 1]) [] 1:=⟨by omega,by simp,λi A B=>by
   obtain rfl:i=0:=by omega
   rw[d,v]at B;omega⟩
  have x:fI 3 (dR [eG 1 0,eG 2 0,eG 1 1]) ([]++[1]) 0:=⟨by omega,by simp,λi A=>by omega⟩
  refine yw (m:=2) (.snoc (ps:=[1]) (.snoc (ps:=[]) .nil w λa b=>?_) x λa b=>?_) rfl
  ·obtain⟨y,_,f⟩:=b;have:a=0∨a=1∨a=2:=by omega
   unfold eF;rcases this with rfl|rfl|rfl
   ·rw[L,r1];omega
   ·omega
   ·have:=f 0 (by omega) (by rw[d,g]);simp at this
  ·obtain⟨y,z,f⟩:=b;have:a=0∨a=1∨a=2:=by omega
   unfold eF;rcases this with rfl|rfl|rfl
   ·omega
   ·simp at z
   ·have:=f 0 (by omega) (by rw[d,g]);simp at this
 have c:=F1 (l:=[eG 1 0,eG 2 0,eG 1 1]) (rks:=[0,5,9]) (.inr ⟨true,rfl⟩) (.inr ⟨true,rfl⟩) rfl (by simp) (λa b=>by
  simp only[dW,kS,iS]at b;unfold dZ;rcases b with rfl|rfl|rfl<;>simp[-Xm,eG]) 2 h
 rw[show([eG 1 0,eG 2 0,eG 1 1]:List It).length=3 from rfl,show(2:Int).toNat=2 from rfl,← C]at c;have u:lQ 11 ((pk [eG 1 0,eG 2 0,eG 1 1] [1,0]).map aE) = .sl 11 false [aE (eG 2 0),aE (eG 1 0)]:=rfl;rw[u]at c;have E:aQ tab aV (.sl 11 false [aE (eG 2 0),aE (eG 1 0)]) (.int .i64 0)=some (.aI (aE (eG 2 0))):=id rfl;have F:aQ tab aV (.sl 11 false [aE (eG 2 0),aE (eG 1 0)]) (.int .i64 1)=some (.aI (aE (eG 1 0))):=id rfl;have G:aT tab aV (.sl 11 false [aE (eG 2 0),aE (eG 1 0)])=some (.int .i64 2):=id rfl;have M:aC tab aG 2 (.aI (bV (eG 1 0).e))=some (.aI (.int .i64 0::(bV (eG 1 0).e).drop 3)):=id rfl;have N:∀(j:Int) (o:List D),aA tab h U (.aI (.int .i64 j::o))=some (.int .i64 j):=λ_ _=>id rfl
 have k:(eG 2 0).e.a1=2:=rfl;have n:(eG 1 0).e.a1=1:=rfl;have H:V tab .eql U (.int .i64 2) (.int .i64 2)=some (.bool true):=id rfl;have I:V tab .eql U (.int .i64 1) (.int .i64 1)=some (.bool true):=id rfl;have K:V tab .eql U (.int .i64 0) (.int .i64 0)=some (.bool true):=id rfl;rw[Nw];simp only[D3,Lw,T6,p,q,r,s,t,Kc,c,W,G,H,bL,aJ,E,F,kl,nS,k,n,I,M,N,K,bI,bR]
theorem Cf(i:It):fj 2 (aE i)=some i.e.a1:=rfl
theorem Cg(i:It):fj 4 (aE i)=some i.e.a3:=rfl
theorem HA(f:Int):∀(c:List It) (a:Int × Bool) (b:Option Int),a=(b.getD 0,b.isSome) →
  (c.map aE).foldl (λa r=>if fj 2 r=some f then((fj 4 r).getD 0,true)else a) a=(((c.map aY).foldl (λa x=>if x.a1=f then some x.a3 else a) b).getD 0,((c.map aY).foldl (λa x=>if x.a1=f then some x.a3 else a) b).isSome)
 |[],a,b,h=>h
 | i::c,a,b,h=>by
  simp only[gO,qV];refine HA f c _ _ ?_;rw[Cf,Cg];show _=((if i.e.a1=f then some i.e.a3 else b).getD 0,(if i.e.a1=f then some i.e.a3 else b).isSome)
  by_cases d:i.e.a1=f
  ·simp[-Xm,d]
  ·simp[-Xm,d,h]
theorem Js{a:List It}{b:D}(e:aR 11 aE a b)(j:a.length≤1000000)(f:Int)(h:J):R rO [b,.int .i64 f] h=some (.bZ [.int .i64 ((dX f (a.map aY)).getD 0),.bool (dX f (a.map aY)).isSome],h):=by
 rw[WH];rcases e with⟨rfl,rfl⟩|⟨i,rfl⟩
 ·rfl
 ·have c:(a.map aE).all (pt 2 4)=true:=by
    rw[gg];intro l g;obtain⟨k,_,rfl⟩:=e8.1 g;rfl
  have d:qn 2 4 f (a.map aE)=((dX f (a.map aY)).getD 0,(dX f (a.map aY)).isSome):=HA f a _ _ rfl;unfold tc;simp only[c,d,eQ,true_and];rw[bE (by omega)]
theorem Wv(h:J)(x y:D):cW tab h aV aV x y=sn aF mu qE h x y:=id rfl
theorem R9{n:Nat}(h:n≤900000000):lim n mu.gI=true:=lK (show n*144≤140737488355328 by omega) (by omega)
theorem U5{a:List It}{e:D}(o:aR 11 aE a e)(h:J)(q:a.length≤900000000)(g:0<a.length):R oT [e] h=some (.aO 11 h.length 0 a.length,aZ h aF 11 (a.map aE)):=by
 rcases o with⟨rfl,rfl⟩|⟨b,rfl⟩
 ·simp at g
 rw[yX];have k:V tab .eql aV (.sl 11 b (a.map aE)) .aB=some (.bool false):=id rfl;have m:bJ tab aV 0 [] []=some (.sl 11 true []):=id rfl;have l:cW tab h aV aV (.sl 11 true []) (.sl 11 b (a.map aE))=some (.aO 11 h.length 0 a.length,aZ h aF 11 (a.map aE)):=by
  rw[Wv];have n:k0 h qE mu (.sl 11 b (a.map aE))=some (a.map aE):=by
   show(if 11=mu.Y then some (a.map aE)else none)=_;exact bE rfl
  unfold sn;rw[n];obtain⟨c,d,rfl⟩:∃c d,a=c::d:=by
   cases a with
   |nil=>simp at g
   |cons i j=>exact⟨i,j,rfl⟩
  have f:lim ((c::d).length) mu.gI=true:=R9 (by omega);have p:mu.Y=11:=id rfl;simp only[p,show Nat.blt 0 11=true from rfl,gO,eP,eJ,dF,jE,eQ]at f ⊢;simp only[f,gX,aJ]
 simp only[uT,k,aK,m,l,W,bR,aP,aL]
theorem iX.take{xs:List RI}(h:iX xs)(n:Nat):iX (xs.take n):=λd e a c b=>by
 rw[fF]at a;split at a
 ·rename_i f;rw[List.take_take,ym (by omega)]at b;exact h d e a c b
 ·cases a
theorem iX.at{a:List It}(h:iX (a.map aY)){j:Nat}{i:It}(c:a[j]?=some i):∀e,dX i.e.a1 ((a.take j).map aY)=some e→e=i.e.a2:=λe b=>by
 refine h j (aY i) (by rw[dH,c];rfl) e ?_;rw[← u7];exact b
def eK:List (Int × Int)→Int→Option Int
 |[],_=>none
 |p::r,f=>if p.1=f then some p.2 else eK r f
theorem y4{f:Int}:∀{ms:List (Int × Int)} {k:Nat} {p:Int × Int},ms[k]?=some p→p.1=f→(∀(i:Nat) (q:Int × Int),i<k→ms[i]?=some q→q.1≠f)→eK ms f=some p.2
 |[],k,p,h,_,_=>by cases h
 | q::r,0,p,h,e,_=>by
  injection h with h;subst h;unfold eK;rw[bE e]
 | q::r,k+1,p,h,e,a=>by
  unfold eK;rw[cH (a 0 q (by omega) rfl)];exact y4 (k:=k) h e λi c d b=>a (i+1) c (by omega) b
theorem y5{f:Int}:∀{ms:List (Int × Int)},(∀(i:Nat) (q:Int × Int),ms[i]?=some q→q.1≠f)→eK ms f=none
 |[],_=>rfl
 | q::r,a=>by
  unfold eK;rw[cH (a 0 q rfl)];exact y5 λi c b=>a (i+1) c b
theorem Ca{g:J}{ms:List (Int × Int)}{d:D}(h:kW g dU 2 cX ms d):aT tab eT d=some (.int .i64 (ms.length:Nat)):=by
 rcases h with h|⟨a,rfl,_⟩
 ·exact tW h
 ·exact R4 _ _ _ _
theorem I1{g:J}{ms:List (Int × Int)}{d:D}(h:kW g dU 2 cX ms d){i:Nat}{m:Int × Int}(hi:ms[i]?=some m):∃p b,aQ tab eT d (.int .i64 (i:Nat))=some p∧aC tab dU 1 p=some b∧aA tab g dU p=some (.agg (cX m))∧aA tab g U b=some (.int .i64 m.2):=by
 have c:=(bO.1 hi).1;rcases h with h|⟨e,rfl,a⟩
 ·exact⟨_,.aI [.int .i64 m.2],by rw[tS h,bE (by omega),dY,hi];rfl,id rfl,id rfl,id rfl⟩
 ·refine⟨_,_,by rw[tR,bE ⟨by omega,by omega⟩,dY],GF _ _ _,?_,?_⟩
  ·rw[Bz,dT a,dF,dH,hi];rfl
  ·rw[fB,dT a,dF,dH,hi];rfl
theorem kW.mono{g g':J}{ms:List (Int × Int)}{d:D}(h:kW g dU 2 cX ms d)(k:∀p,p<g.length→g'[p]?=g[p]?):kW g' dU 2 cX ms d:=by
 rcases h with h|⟨b,rfl,a⟩
 ·exact .inl h
 ·exact .inr ⟨b,rfl,by rw[k b (bO.1 a).1];exact a⟩
theorem U8(p:Int × Int)(f:Int)(h:J):R nW [.agg (cX p),.aI [.int .i64 f]] h=some (.bool (decide (p.1=f)),h):=by
 have c:ga (.agg [.int .i64 p.1,.int .i64 p.2])=some (.aI [.int .i64 p.1,.int .i64 p.2]):=jj _;have d:aC tab dU 0 (.aI [.int .i64 p.1,.int .i64 p.2])=some (.aI [.int .i64 p.1,.int .i64 p.2]):=id rfl;have e:∀(a:Int) (b:List D),aA tab h U (.aI (.int .i64 a::b))=some (.int .i64 a):=λ_ _=>id rfl
 show R nW [.agg [.int .i64 p.1,.int .i64 p.2],.aI [.int .i64 f]] h=_;rw[NM];simp only[Ej,c,W,d,e,fa,bR]
theorem U7{ms:List (Int × Int)}{l:D}(T:ms.length≤1000000)(f:Int)(h:J)(x:kW h dU 2 cX ms l):
  (∃(k:Nat) (p:Int × Int),ms[k]?=some p∧p.1=f∧(∀(i:Nat) (a:Int × Int),i<k→ms[i]?=some a→a.1≠f)∧R tG [l,.fn (.func nW) [] [.aI [.int .i64 f]]] h=some (.int .i64 (k:Nat),h)) ∨
  ((∀(i:Nat) (a:Int × Int),ms[i]?=some a→a.1≠f)∧R tG [l,.fn (.func nW) [] [.aI [.int .i64 f]]] h=some (.int .i64 (-1),h)):=by
 suffices Wp (R tG [l,.fn (.func nW) [] [.aI [.int .i64 f]]] h) (λc=>(∃(k:Nat) (p:Int × Int),ms[k]?=some p∧p.1=f∧(∀(i:Nat) (a:Int × Int),i<k→ms[i]?=some a→a.1≠f)∧c=(.int .i64 (k:Nat),h))∨((∀(i:Nat) (a:Int × Int),ms[i]?=some a→a.1≠f)∧c=(.int .i64 (-1),h))) by
  obtain⟨c,d,j⟩:=this;rcases j with⟨k,p,o,A,B,rfl⟩|⟨o,rfl⟩
  ·exact .inl ⟨k,p,o,A,B,d⟩
  ·exact .inr ⟨o,d⟩
 have K:aT tab eT l=some (.int .i64 (ms.length:Nat)):=Ca x;rw[NL];simp only[Eh,K,W,aU];refine Wp.loop (λc q m=>m=h∧∃(b:Nat) (t u v w:D),q=[t,u,.int .i64 (b:Nat),v,w]∧c+b=ms.length∧∀(i:Nat) (a:Int × Int),i<b→ms[i]?=some a→a.1≠f)
  (λc=>c.2.2=h∧((c.1 = .ext 0∧∀(i:Nat) (a:Int × Int),ms[i]?=some a→a.1≠f)∨(c.1 = .ret∧∃(k:Nat) (p:Int × Int),Z 0 c.2.1 = .int .i64 (k:Nat)∧ms[k]?=some p∧p.1=f∧∀(i:Nat) (a:Int × Int),i<k→ms[i]?=some a→a.1≠f))) ms.length ⟨rfl,0,_,_,_,_,rfl,by omega,λi a I=>by omega⟩ ?_ ?_
 ·rintro c q m ⟨rfl,b,t,u,v,w,rfl,X,r⟩;simp only[Ei,bD,bY,W,cI,aU];refine Wp.dS ?_ ?_
  ·intro g;have g:b<ms.length:=gS g;have Q:(0:Int)≤(b:Int):=by omega
   obtain⟨p,s⟩:=iR g;have L:=fD b (by omega);obtain⟨ab,aa,M,ac,N,ad⟩:=I1 x s;have H:gu R (.fn (.func nW) [] [.aI [.int .i64 f]]) [.agg (cX p)] m=R nW [.agg (cX p),.aI [.int .i64 f]] m:=by rw[FI];simp[-Xm]
   simp only[M,N,W,H,U8,aK];by_cases n:p.1=f
   ·simp only[n,bK,aJ];exact .some (.inr ⟨by simp,rfl,.inr ⟨rfl,b,p,rfl,s,n,r⟩⟩)
   ·simp only[n,bG,aP,aL,cY,L,W];refine .some (.inl ⟨rfl,c - 1,by omega,rfl,b+1,_,_,_,_,rfl,by omega,λi a I e=>?_⟩);rcases fm i b with z|z
    ·exact r i a z e
    ·have:i=b:=by omega
     subst this;rw[s]at e;injection e with e;subst e;exact n
  ·intro g;have g:b=ms.length:=by
    have:¬(b:Int)<ms.length:=by simpa using g
    omega
   exact .some (.inr ⟨by simp,rfl,.inl ⟨rfl,λi a e=>r i a (by rw[g];exact(bO.1 e).1) e⟩⟩)
 ·rintro⟨P,q,m⟩ ⟨y,G⟩;simp only at y;subst y;rcases G with⟨d,j⟩|⟨d,k,p,j,C,E,F⟩
  ·simp only at d;subst d;simp only[dV,cL,W,bR];exact .some (.inr ⟨j,rfl⟩)
  ·simp only at d j;subst d;simp only[W,bQ,toEnd,dD,bD,j,bR];exact .some (.inl ⟨k,p,C,E,F,rfl⟩)
theorem U6{ms:List (Int × Int)}{c:D}(k:ms.length≤1000000)(f:Int)(h:J)(d:kW h dU 2 cX ms c):R zv [c,.int .i64 f] h=some (.bZ [.int .i64 ((eK ms f).getD 0),.bool (eK ms f).isSome],h):=by
 rw[NK];simp only[Eg,IF,W];rcases U7 k f h d with⟨e,q,a,b,g,i⟩|⟨a,b⟩
 ·have j:¬((e:Nat):Int)<0:=by omega
  have p:(0:Int)≤(e:Nat):=by omega
  obtain⟨s,r,m,n,t,o⟩:=I1 d a;simp only[i,W,cI,j,bG,aK,aP,aL,m,n,o,y4 a b g,gP,mJ,jK]
 ·have l:V tab .lss U (.int .i64 (-1)) (.int .i64 0)=some (.bool true):=id rfl;simp only[b,W,l,aK,aJ,y5 a,sN,lZ,jK]
inductive fk (ms:List (Int × Int)):List It→List Int→List It→List Int→Prop
 |nil:fk ms [] [] [] []
 |bH {q q':List It} {rs rs':List Int} {i:It} (r:Int):fk ms q rs q' rs'→eK ms i.e.a1=none→fk ms (q++[i]) (rs++[r]) (q'++[i]) (rs'++[r])
 |kz {q q':List It} {rs rs':List Int} {i j:It} {m:Int} (r:Int):fk ms q rs q' rs'→eK ms i.e.a1=some m→gN i m true j→fk ms (q++[i]) (rs++[r]) (q'++[j]) (rs'++[r])
 |drop {q q':List It} {rs rs':List Int} {i j:It} {m:Int} (r:Int):fk ms q rs q' rs'→eK ms i.e.a1=some m→gN i m false j→fk ms (q++[i]) (rs++[r]) q' rs'
theorem Fk{h g:J}{x y e:D}{l:List It}{t m:List Int}{j n:Nat}{jt:It}{rk:Int}(v:aR 1 cU t e)(L:t.length=n)(aj:j<n)(ak:n≤1000)(K:t[j]?=some rk)(aa:h.length≤g.length)(T:∀p,p<h.length→g[p]?=h[p]?)
  (z:Own g h.length aF 11 (l.map aE) x) (s:Own g h.length U 1 (m.map cU) y) (an:l.length≤j) (ao:m.length≤j) {C:Type} {F:D × J→D→bN→Option C} {Q:C→Prop}
  (k:∀x' f o b,h.length≤b.length→(∀p,p<h.length→b[p]?=h[p]?)→Own b h.length aF 11 ((l++[jt]).map aE) x'→Own b h.length U 1 ((m++[rk]).map cU) o→Wp (F (x',f) (.bool true) (.aS,[o],b)) Q) :
  Wp ((bJ tab aV 1 [0] [.agg (aE jt)]).bind λae=>(cW tab g aV aV x ae).bind λi=>(aT tab aW e).bind λaf=>(V tab .lss U (.int .i64 (j:Nat)) af).bind λB =>
   (S B ((aQ tab aW e (.int .i64 (j:Nat))).bind λag=>(aA tab i.2 U ag).bind λah=>(bJ tab aW 1 [0] [ah]).bind λai=>(cW tab i.2 aW aW y ai).bind λA=>some (.aS,[A.1],A.2)) (some (.aS,[y],i.2))).bind λad=>F i B ad) Q:=by
 have H:bJ tab aV 1 [0] [.agg (aE jt)]=some (.sl 11 true [aE jt]):=id rfl;have G:aT tab aW e=some (.int .i64 (n:Nat)):=by rw[← L];exact lJ v
 have E:(0:Int)≤(j:Int):=by omega
 have I:((j:Nat):Int)<(n:Nat):=by omega
 have X:∀u,aA tab u U (.aI (cU rk))=some (.int .i64 rk):=λu=>id rfl
 simp only[H,W];refine nD (ys:=[aE jt]) (n0:=h.length) aa z (iq _ _ _ _) (by simp;omega) λx' f r al M N _=>?_
 have w:Own f h.length U 1 (m.map cU) y:=s.bH λp d c=>N p (s.lt c).2 λq=>by
  have a:=kp s c;rw[kp z q]at a;injection a with a;injection a with a;exact absurd a (by decide)
 simp only[G,W,cI,I,bK,aK,aJ,me v,E,dY,K,fW,X,FB,aU];refine sr (ys:=[cU rk]) (n0:=h.length) (by omega) w (iq _ _ _ _) (by simp;omega) λo b ab am P R _=>?_
 have ac:Own b h.length aF 11 (l.map aE++[aE jt]) x':=r.bH λp d c=>R p (r.lt c).2 λq=>by
  have a:=kp r c;rw[kp w q]at a;injection a with a;injection a with a;exact absurd a (by decide)
 simp only[W];refine k x' f o b (by omega) (λp d=>by rw[P p d,M p d,T p d]) ?_ ?_
 ·rw[fV];exact ac
 ·rw[fV];exact ab
theorem U4{g:List It}{r:List Int}{ms:List (Int × Int)}{G H P:D}(t:aR 11 aE g G)(X:aR 1 cU r H)(ay:g.length≤1000)(M:r.length=g.length)(bh:ms.length≤1000000)(bf:∀i∈g,i.e.ls.length≤1000000)(h:J)(bg:kW h dU 2 cX ms P):
  ∃d f y z,R rN [G,H,P] h=some (.bZ [y,z],h)∧aR 11 aE d y∧aR 1 cU f z∧fk ms g r d f:=by
 suffices Wp (R rN [G,H,P] h) (λj=>∃d f y z,j=(.bZ [y,z],h)∧aR 11 aE d y∧aR 1 cU f z∧fk ms g r d f) by
  obtain⟨j,K,d,f,y,z,rfl,L⟩:=this;exact⟨d,f,y,z,K,L⟩
 have be:aT tab aV G=some (.int .i64 (g.length:Nat)):=jh t;have bz:aT tab aW H=some (.int .i64 (g.length:Nat)):=by rw[← M];exact lJ X
 rw[NJ];simp only[Ee,be,W,aU];refine Wp.loop (λj Q b=>∃(c:Nat) (l m am an ao ap aq ar au al:D) (d:List It) (f:List Int),Q=[l,m,am,an,ao,ap,.int .i64 (c:Nat),aq,ar,au,al]∧j+c=g.length∧h.length≤b.length∧(∀a,a<h.length→b[a]?=h[a]?) ∧
   Own b h.length aF 11 (d.map aE) l∧Own b h.length U 1 (f.map cU) m∧d.length≤c∧f.length≤c∧fk ms (g.take c) (r.take c) d f)
  (λj=>j.1 = .ext 0∧∃(l m:D) (d:List It) (f:List Int),Z 0 j.2.1=l∧Z 1 j.2.1=m∧h.length≤j.2.2.length∧(∀a,a<h.length→j.2.2[a]?=h[a]?) ∧
   Own j.2.2 h.length aF 11 (d.map aE) l∧Own j.2.2 h.length U 1 (f.map cU) m∧fk ms g r d f) g.length
  ⟨0,.aB,.aB,_,_,_,_,_,_,_,_,[],[],rfl,rfl,aX _,λ_ _=>rfl,.aB _ _ _ _,.aB _ _ _ _,aX _,aX _,.nil⟩ ?_ ?_
 ·rintro j Q b ⟨c,l,m,am,an,ao,ap,aq,ar,au,al,d,f,rfl,b1,N,B,u,w,a0,a2,A⟩;simp only[Ef,bD,bY,W,cI,aU];refine Wp.dS ?_ ?_
  ·intro q;have q:c<g.length:=gS q;have bd:(0:Int)≤(c:Int):=by omega
   obtain⟨i,o⟩:=iR q;obtain⟨x,aa⟩:∃x,r[c]?=some x:=⟨_,cJ (by omega)⟩
   have ab:g.take (c+1)=g.take c++[i]:=by rw[gA,o];rfl
   have ac:r.take (c+1)=r.take c++[x]:=by rw[gA,aa];rfl
   have ah:=fD c (by omega);have b0:((c:Nat):Int)<(g.length:Nat):=by omega
   simp only[k8 t,bd,aJ,dY,o,fW,W,lf];have n0:(aZ b aF 11 [[.str [],.int .i64 0,.int .i64 0,.int .i64 0,.int .i64 0,.aB,.int .i64 0,.int .i64 0,.str [],.str [],.aB]])[b.length]?=some (.row aF 11 [aE jC]):=hZ _ _ _ _;have bp:∀a,a<b.length→(aZ b aF 11 [[.str [],.int .i64 0,.int .i64 0,.int .i64 0,.int .i64 0,.aB,.int .i64 0,.int .i64 0,.str [],.str [],.aB]])[a]?=b[a]?:=λa k=>gQ _ _ _ _ k
   have b5:(aZ b aF 11 [[.str [],.int .i64 0,.int .i64 0,.int .i64 0,.int .i64 0,.aB,.int .i64 0,.int .i64 0,.str [],.str [],.aB]]).length=b.length+1:=hN _ _ _ _;generalize aZ b aF 11 [[.str [],.int .i64 0,.int .i64 0,.int .i64 0,.int .i64 0,.aB,.int .i64 0,.int .i64 0,.str [],.str [],.aB]]=bw at *;refine jP (kk:=0) (off:=0) (row:=aE jC) (v :=.agg (aE i)) n0 (by rfl) (by rfl) (by exact aX _) (ql _) λp E a5=>?_
   have E:p[b.length]?=some (.row aF 11 [aE i]):=E;have I:aA tab p U (.ptr b.length 0 (0+1+1))=some (.int .i64 i.e.a1):=by rw[fB,dT E];rfl
   have b2:p.length=b.length+1:=by have:=a5.1;omega
   have F:∀a,a<b.length→p[a]?=b[a]?:=λa k=>by rw[a5.2 a (by omega),bp a k]
   have ba:=U6 bh i.e.a1 p (bg.mono λa k=>by rw[F a (by omega),B a k]);have b4:∀aw,aA tab aw U (.aI (cU x))=some (.int .i64 x):=λaw=>id rfl
   simp only[W,kh,tm,I,ba,jd,iZ,j8];have br:Own p h.length aF 11 (d.map aE) l:=u.bH λa k o=>F a (u.lt o).2
   have bt:Own p h.length U 1 (f.map cU) m:=w.bH λa k o=>F a (w.lt o).2
   have bk:∀a,a<h.length→p[a]?=h[a]?:=λa k=>by rw[F a (by omega),B a k]
   cases T:eK ms i.e.a1 with
   | none =>
    simp only[lZ,aK,aP,aL,W,cL,kC E,aU];refine Fk (jt:=i) X M q ay aa (by omega) bk br bt a0 a2 λai s aj bc bl bi ae af=>?_
    simp only[W,bQ,cL,bD,bY,cY,ah];exact .some (.inl ⟨rfl,j - 1,by omega,c+1,ai,aj,_,_,_,_,_,_,_,_,_,_,rfl,by omega,bl,bi,ae,af,by simp;omega,by simp;omega,by rw[ab,ac];exact .bH x A T⟩)
   | some bo =>
    obtain⟨jt,bq,bb,ax⟩:=UA i bo p (bf i (eS o));simp only[mJ,gP,aK,aJ,W,kC E,bb,jd,iZ,j8,aU];refine jP (kk:=0) (off:=0) (row:=aE i) (v :=.agg (aE jt)) E (by rfl) (by rfl) (by exact aX _) (ql _) λs ag a6=>?_
    have ag:s[b.length]?=some (.row aF 11 [aE jt]):=ag;have b3:s.length=b.length+1:=by have:=a6.1;omega
    have ad:∀a,a<b.length→s[a]?=b[a]?:=λa k=>by rw[a6.2 a (by omega),F a k]
    have a3:Own s h.length aF 11 (d.map aE) l:=u.bH λa k o=>ad a (u.lt o).2
    have a4:Own s h.length U 1 (f.map cU) m:=w.bH λa k o=>ad a (w.lt o).2
    have az:∀a,a<h.length→s[a]?=h[a]?:=λa k=>by rw[ad a (by omega),B a k]
    cases bq with
    | true =>
     simp only[W,fK,eY,aK,aP,aL,cL,kC ag,aU];refine Fk (jt:=jt) X M q ay aa (by omega) az a3 a4 a0 a2 λai bc aj bx bm bj ae af=>?_
     simp only[W,bQ,cL,bD,bY,cY,ah];exact .some (.inl ⟨rfl,j - 1,by omega,c+1,ai,aj,_,_,_,_,_,_,_,_,_,_,rfl,by omega,bm,bj,ae,af,by simp;omega,by simp;omega,by rw[ab,ac];exact .kz x A T ax⟩)
    | false =>
     have bu:∀{a7:Type} (a8:Option a7) (ak:Ex→Option a7),toEnd (.ext 1) a8 ak=ak (.ext 1):=λ_ _=>rfl
     simp only[W,fK,fO,aK,aJ,bu,dV,cL,bD,bY,cY,ah];have bn:h.length≤s.length:=by omega
     exact .some (.inl ⟨rfl,j - 1,by omega,c+1,l,m,_,_,_,_,_,_,_,_,d,f,rfl,by omega,bn,az,a3,a4,by omega,by omega,by rw[ab,ac];exact .drop x A T ax⟩)
  ·intro q;have q:c=g.length:=by
    have:¬(c:Int)<g.length:=by simpa using q
    omega
   subst q;rw[j9,← M,j9]at A;exact .some (.inr ⟨by simp,rfl,l,m,d,f,rfl,rfl,N,B,u,w,A⟩)
 ·rintro⟨bv,Q,b⟩ ⟨rfl,l,m,d,f,K,L,N,B,u,w,A⟩;simp only at K L N B u w;have I:=jy (n0:=h.length) (n:=2) u (aX _) λC _=>qj _ b 1 C
  have av:=jy (n0:=h.length) (n:=2) w (aX _) λC _=>wZ _ b 2 C
  simp only[dV,cL,W,bD,bY,K,L,aH];rw[iu (d' :=.bZ [cV h.length b 3 l,cV h.length b 3 m]) (by rfl) (.bZ _ λa9 t=>by
   simp at t;rcases t with rfl|rfl
   ·exact jA I λC _=>rZ _ C
   ·exact jA av λC _ a9 t=>by
      simp only[cU,gz]at t;subst t;exact .int _ _) N B]
  exact .some ⟨d,f,_,_,rfl,I,av,A⟩
structure l4 (q:List It):Prop where
 ok:∀i∈q,ox i
 fs:∀i∈q,i.e.fs.length≤20
 dr:∀i∈q,iY (aY i)
 ct:iX (q.map aY)
theorem gN.again{i j k:It}{m:Int}{c:Bool}(b:m≤j.e.a2)(h:gN j m c k):c=true∧k=j:=by
 rcases h with⟨_,a,d⟩|⟨a,_⟩|⟨a,_⟩
 ·exact⟨a,d⟩
 ·exact absurd b a
 ·exact absurd b a
theorem gN.kept{i j:It}{m:Int}(h:gN i m true j):m≤j.e.a2∧j.e.a1=i.e.a1∧j.e.a3=i.e.a3∧j.e.fs=i.e.fs:=by
 rcases h with⟨c,_,rfl⟩|⟨_,_,d,_⟩|⟨_,_,_,_,a⟩
 ·exact⟨c,rfl,rfl,rfl⟩
 ·cases d
 ·obtain⟨k,f,b⟩:=a.a2;have e:k∈i.e.ls.filter λg=>decide (m≤g.off):=List.mem_of_mem_head? f
  have:=(gh.1 e).2;exact⟨by rw[b];simpa using this,a.a1,a.a3,a.fs⟩
theorem fk.inv{ms:List (Int × Int)}{Q o:List It}{t p:List Int}(h:fk ms Q t o p):∀{c:List It} {k:List Int} {i:It} {r:Int},Q=c++[i]→t=k++[r] →
  (eK ms i.e.a1=none∧∃g l,fk ms c k g l∧o=g++[i]∧p=l++[r]) ∨
  (∃m j,eK ms i.e.a1=some m∧gN i m true j∧∃g l,fk ms c k g l∧o=g++[j]∧p=l++[r]) ∨
  (∃m j,eK ms i.e.a1=some m∧gN i m false j∧fk ms c k o p):=by
 intro c k i r n q;cases h with
 |nil=>cases c<;>cases n
 | bH u d f =>
  obtain⟨rfl,a⟩:=qU n rfl;obtain⟨rfl,b⟩:=qU q rfl;injection a with a;injection b with b;subst a;subst b;exact .inl ⟨f,_,_,d,rfl,rfl⟩
 | kz u d f s =>
  obtain⟨rfl,a⟩:=qU n rfl;obtain⟨rfl,b⟩:=qU q rfl;injection a with a;injection b with b;subst a;subst b;exact .inr (.inl ⟨_,_,f,s,_,_,d,rfl,rfl⟩)
 | drop u d f s =>
  obtain⟨rfl,a⟩:=qU n rfl;obtain⟨rfl,b⟩:=qU q rfl;injection a with a;injection b with b;subst a;subst b;exact .inr (.inr ⟨_,_,f,s,d⟩)
theorem fk.again{ms:List (Int × Int)}{w o:List It}{x p:List Int}(h:fk ms w x o p):∀{f:List It} {g:List Int},fk ms o p f g→f=o∧g=p:=by
 induction h with
 | nil =>
  intro f g b;generalize l:([]:List It)=y at b;generalize A:([]:List Int)=z at b;cases b with
  |nil=>exact⟨rfl,rfl⟩
  |bH=>simp at l
  |kz=>simp at l
  |drop=>simp at l
 | bH t q c d =>
  intro f g b;rcases b.inv rfl rfl with⟨_,u,v,j,rfl,rfl⟩|⟨n,e,a,_⟩|⟨n,e,a,_⟩
  ·obtain⟨rfl,rfl⟩:=d j;exact⟨rfl,rfl⟩
  ·rw[c]at a;cases a
  ·rw[c]at a;cases a
 | kz t q c r d =>
  intro f g b;obtain⟨s,m,_⟩:=r.kept;rcases b.inv rfl rfl with⟨a,_⟩|⟨n,e,a,k,u,v,j,rfl,rfl⟩|⟨n,e,a,k,_⟩
  ·rw[m,c]at a;cases a
  ·rw[m,c]at a;injection a with a;subst a;obtain⟨_,rfl⟩:=gN.again (i:=e) s k;obtain⟨rfl,rfl⟩:=d j;exact⟨rfl,rfl⟩
  ·rw[m,c]at a;injection a with a;subst a;have:=(gN.again (i:=e) s k).1;cases this
 |drop t q c r d=>exact λb=>d b
theorem fk.all{d e:List It}{g i:List Int}(h:fk [] d g e i):e=d∧i=g:=by
 induction h with
 |nil=>exact⟨rfl,rfl⟩
 |bH f c a b=>obtain⟨rfl,rfl⟩:=b;exact⟨rfl,rfl⟩
 |kz f c a j b=>cases a
 |drop f c a j b=>cases a
theorem fk.gone{ms:List (Int × Int)}{c n:List It}{f q:List Int}(h:fk ms c f n q):(∀i∈c,i.e.a2<i.e.a3∧∃m,eK ms i.e.a1=some m∧i.e.a3≤m)→n=[]∧q=[]:=by
 induction h with
 |nil=>exact λ_=>⟨rfl,rfl⟩
 | @bH c l f p i o j d g =>
  intro b;obtain⟨_,m,a,_⟩:=b i (by simp);rw[d]at a;cases a
 | @kz c l f p i u m o j d k g =>
  intro b;obtain⟨w,y,a,x⟩:=b i (by simp);rw[d]at a;injection a with a;subst a;rcases k with⟨r,_⟩|⟨_,_,s,_⟩|⟨_,r,_⟩
  ·omega
  ·cases s
  ·omega
 |@drop c l f p i u m o j d k g=>exact λb=>g λv t=>b v (eI.2 (.inl t))
theorem fk.len{ms:List (Int × Int)}{e a:List It}{j g:List Int}(h:fk ms e j a g):a.length≤e.length∧g.length=a.length:=by
 induction h with
 |nil=>exact⟨aX _,rfl⟩
 |bH f b c d=>simp only[dL,eP,eJ];omega
 |kz f b c i d=>simp only[dL,eP,eJ];omega
 |drop f b c i d=>simp only[dL,eP,eJ];omega
theorem iX.pre{a:List It}{i:It}(h:iX ((a++[i]).map aY)):iX (a.map aY)∧∀e,dX i.e.a1 (a.map aY)=some e→e=i.e.a2:=by
 have b:=h.take a.length;rw[← u7,vd]at b
 ·refine⟨b,λe d=>?_⟩;have c:=iX.at h (j:=a.length) (i:=i) (by simp) e;rw[vd]at c
  ·exact c d
  ·rfl
 ·rfl
theorem tT(f:Int)(a:List It)(i:It):dX f ((a++[i]).map aY)=if i.e.a1=f then some i.e.a3 else dX f (a.map aY):=by
 rw[fV];exact Hy f (a.map aY) (aY i)
theorem fk.ct{ms:List (Int × Int)}{d B:List It}{x K:List Int}(h:fk ms d x B K):iX (d.map aY)→(∀i∈d,i.e.a2<i.e.a3) →
  (∀f e,dX f (B.map aY)=some e→dX f (d.map aY)=some e∧∀m,eK ms f=some m→m<e)∧iX (B.map aY):=by
 induction h with
 |nil=>exact λ_ _=>⟨λf e h=>(by simp[-Xm,dX]at h),λQ R H=>(by simp at H)⟩
 | @bH d A x E i D C g t =>
  intro q k;obtain⟨l,n⟩:=q.pre;obtain⟨c,s⟩:=t l λu r=>k u (eI.2 (.inl r))
  refine⟨λf e a=>?_,?_⟩
  ·rw[tT]at a ⊢;by_cases k7:i.e.a1=f
   ·rw[bE k7]at a ⊢;exact⟨a,λm j=>by rw[← k7,g]at j;cases j⟩
   ·rw[cH k7]at a ⊢;exact c f e a
  ·rw[fV];exact s.snoc λe a=>n e (c _ _ a).1
 | @kz d A x E i y m D C g p t =>
  intro q k;obtain⟨l,n⟩:=q.pre;obtain⟨c,s⟩:=t l λu r=>k u (eI.2 (.inl r))
  have M:=k i (by simp);obtain⟨N,z,I,_⟩:=p.kept;have L:m<i.e.a3:=by
   rcases p with⟨o,_⟩|⟨_,_,b,_⟩|⟨_,w,_⟩
   ·omega
   ·cases b
   ·exact w
  refine⟨λf e a=>?_,?_⟩
  ·rw[tT]at a ⊢;by_cases k7:i.e.a1=f
   ·rw[bE (z.trans k7),I]at a;rw[bE k7];injection a with a;subst a;exact⟨rfl,λP j=>by rw[← k7,g]at j;injection j with j;omega⟩
   ·rw[cH (λb=>k7 (z.symm.trans b))]at a;rw[cH k7];exact c f e a
  ·rw[fV];refine s.snoc λe a=>?_
   have a:dX y.e.a1 (A.map aY)=some e:=a;rw[z]at a;obtain⟨o,v⟩:=c _ _ a;have w:=n e o;have F:=v m g;show e=y.e.a2;rcases p with⟨_,_,rfl⟩|⟨_,_,b,_⟩|⟨G,_⟩
   ·exact w
   ·cases b
   ·omega
 | @drop d A x E i y m D C g p t =>
  intro q k;obtain⟨l,n⟩:=q.pre;obtain⟨c,s⟩:=t l λu r=>k u (eI.2 (.inl r))
  refine⟨λf e a=>?_,s⟩;obtain⟨o,v⟩:=c f e a;rw[tT];by_cases k7:i.e.a1=f
  ·subst k7;have w:=n e o;have F:=v m g;rcases p with⟨_,b,_⟩|⟨G,_⟩|⟨_,_,_,b,_⟩
   ·cases b
   ·omega
   ·cases b
  ·rw[cH k7];exact⟨o,v⟩
theorem GM:∀{l:List (Int × Int)} {x e:Int},l.Pairwise (λa b=>a.1<b.1)→(x,e)∈l→eK l x=some e
 |[],x,e,_,h=>by simp at h
 | p::l,x,e,f,h=>by
  obtain⟨c,h2⟩:=jn.1 f;unfold eK;rcases dW.1 h with rfl|h
  ·rw[bE rfl]
  ·have:=c _ h;have d:¬p.1=x:=by
    have:p.1<x:=this;omega
   rw[cH d];exact GM h2 h
theorem Ou{f:Int→Option Int}{b:List (Int × Int)}(a:lA f b){x e:Int}(d:dZ x)(c:f x=some e):eK b x=some e:=GM a.up ((a.mem (x,e)).2 ⟨d,c⟩)
theorem Gn:∀(b:List It) (g:Int→Option Int),(b.map aE).foldl (uF 2 4) g=λx=>(b.map aY).foldl (λa z=>if z.a1=x then some z.a3 else a) (g x)
 |[],g=>rfl
 | i::b,g=>by
  simp only[gO,qV];rw[Gn b];funext x;congr 1;show(if x=(fj 2 (aE i)).getD 0 then some ((fj 4 (aE i)).getD 0)else g x)=if i.e.a1=x then some i.e.a3 else g x
  rw[Cf,Cg,gP,gP];by_cases h:x=i.e.a1
  ·rw[bE h,bE h.symm]
  ·rw[cH h,cH λc=>h c.symm]
theorem Hx(x e:Int):∀(xs:List RI) (a:Option Int),xs.foldl (λa z=>if z.a1=x then some z.a3 else a) a=some e→a=some e∨∃z∈xs,z.a1=x∧z.a3=e
 |[],a,h =>.inl h
 | z::xs,a,h=>by
  rcases Hx x e xs _ h with b|⟨y,b,h2⟩
  ·have b:(if z.a1=x then some z.a3 else a)=some e:=b;by_cases c:z.a1=x
   ·rw[bE c]at b;injection b with b;exact .inr ⟨z,by simp,c,b⟩
   ·rw[cH c]at b;exact .inl b
  ·exact .inr ⟨y,gy _ b,h2⟩
theorem Hz{x e:Int}{xs:List RI}(h:dX x xs=some e):∃z∈xs,z.a1=x∧z.a3=e:=by
 rcases Hx x e xs none h with a|a
 ·cases a
 ·exact a
theorem iY.ok{i:It}(h:iY (aY i)):ox i:=by
 obtain⟨j,g,k,a,b,c,d,e,f⟩:=h;exact Iv a b c d e f
theorem Tv(i:It)(h:jD i)(l:dJ)(g:l∈i.e.ls):i.e.a2≤l.off:=by
 have k:∀(d:List dJ) (b c:Int),gw b d c→∀f∈d,b≤f.off:=by
  intro d
  induction d with
  |nil=>intro b c _ f a;simp at a
  | cons n m j =>
   intro b c h f a;rcases dW.1 a with rfl|a
   ·have:=h.1;omega
   ·have:=j _ c h.2.2.2.2 f a;have:=h.2.1;omega
 exact k _ _ _ h.ch.1 l g
theorem iY.kz{i j:It}{m:Int}(h:iY (aY i))(u:gN i m true j):iY (aY j):=by
 rcases u with⟨_,_,rfl⟩|⟨_,_,v,_⟩|⟨_,_,_,_,c⟩
 ·exact h
 ·cases v
 ·obtain⟨a,p,d,g,q,s,K,t,k⟩:=h;simp only[aY,lM,RI.mk.injEq]at k;obtain⟨z,A,C,M,D,E,F,G,H,I,B⟩:=k;obtain⟨N,n,y⟩:=c.a2;have l:i.e.ls.filter (λb=>decide (m≤b.off))=(a.e.ls.filter λb=>decide (m - d≤b.off)).map λb=>⟨b.off+d,b.len,b.eD⟩:=by
   rw[E,List.filter_map];congr 1;apply u4;intro b _;simp only[Function.comp,decide_eq_decide];omega
  rw[l,List.head?_map,Option.map_eq_some_iff]at n;obtain⟨f,o,rfl⟩:=n;have w:(a.e.ls.filter λb=>decide (m - d≤b.off)).length≤9223372036854775807:=hX (sH _ _) a.e.rW;refine⟨⟨a.r,⟨a.e.a0,a.e.a1,f.off,a.e.a3,a.e.ls.filter λb=>decide (m - d≤b.off),.sl 3 true ((a.e.ls.filter λb=>decide (m - d≤b.off)).map bC),a.e.a5,a.e.a6,a.e.s7,a.e.s8,a.e.fs,a.e.fd,a.e.gk,a.e.hl,.mk _ _ _ _,w⟩⟩,p,d,qS.k (m:=m - d) g ⟨rfl,rfl,rfl,rfl,rfl,rfl,rfl,rfl,rfl,rfl,f,o,rfl⟩,q,s,?_,t,?_⟩
  ·have x:f∈a.e.ls:=(gh.1 (List.mem_of_mem_head? o)).1;have L:=(Tv a g f x)
   show 0≤f.off+d;omega
  ·simp only[aY,lM,RI.mk.injEq];exact⟨c.r.trans z,c.a0.trans A,c.a1.trans C,y,c.a3.trans D,c.ls.trans l,c.a5.trans F,c.a6.trans G,c.s7.trans H,c.s8.trans I,c.fs.trans B⟩
theorem iY.pos{i:It}(h:iY (aY i)):i.e.a2<i.e.a3∧0≤i.e.a1∧i.e.a1≤2:=by
 obtain⟨g,l,q,f,m,n,o,p,c⟩:=h;simp only[aY,lM,RI.mk.injEq]at c;obtain⟨s,t,u,v,w,_⟩:=c;obtain⟨a,j,k,b⟩:=f.ch;refine⟨?_,by omega,by omega⟩;cases d:g.e.ls with
 |nil=>rw[d]at b;simp at b
 | cons r x =>
  rw[d]at a;have:=mi _ _ _ a.2.2.2.2;have:=a.2.1;omega
theorem fk.TY{ms:List (Int × Int)}{f o:List It}{l A:List Int}(h:fk ms f l o A)(g:l4 f):l4 o:=by
 have w:(∀a∈f,iY (aY a)∧a.e.fs.length≤20)→∀a∈o,iY (aY a)∧a.e.fs.length≤20:=by
  clear g
  induction h with
  |nil=>exact λ_ a b=>by simp at b
  | @bH f s l u a t q r j =>
   intro d p c;rcases eI.1 c with c|c
   ·exact j (λk i=>d k (eI.2 (.inl i))) p c
   ·rw[gz.1 c];exact d a (by simp)
  | @kz f s l u a v x t q r m j =>
   intro d p c;rcases eI.1 c with c|c
   ·exact j (λk i=>d k (eI.2 (.inl i))) p c
   ·rw[gz.1 c];obtain⟨y,z⟩:=d a (by simp);exact⟨y.kz m,by rw[m.kept.2.2.2];exact z⟩
  |@drop f s l u a v x t q r m j=>exact λd=>j λk i=>d k (eI.2 (.inl i))
 have n:=w λa b=>⟨g.dr a b,g.fs a b⟩
 exact⟨λa b=>(n a b).1.ok,λa b=>(n a b).2,λa b=>(n a b).1,(h.ct g.ct λa b=>(g.dr a b).pos.1).2⟩
theorem HC:∀(n:Nat) (a:List It),a.length=n→iX (a.map aY)→(∀i∈a,i.e.a2<i.e.a3)→∀i∈a,∃e,dX i.e.a1 (a.map aY)=some e∧i.e.a3≤e
 | 0,a,b,_,_,i,hi=>by
  have:=fQ b;subst this;simp at hi
 | n+1,a,b,m,h,i,hi=>by
  obtain⟨g,c,rfl⟩:∃g c,a=g++[c]:=⟨a.dropLast,a.getLast (λo=>by rw[o]at b;simp at b),(List.dropLast_concat_getLast _).symm⟩
  obtain⟨j,k⟩:=m.pre;rw[tT];rcases eI.1 hi with hi|hi
  ·obtain⟨e,d,l⟩:=HC n g (by simpa using b) j (λq p=>h q (eI.2 (.inl p))) i hi;by_cases f:c.e.a1=i.e.a1
   ·rw[bE f];rw[← f]at d;have r:=k e d;have s:=h c (by simp);exact⟨_,rfl,by omega⟩
   ·rw[cH f];exact⟨e,d,l⟩
  ·rw[gz.1 hi,bE rfl];exact⟨_,rfl,Int.le_refl _⟩
theorem l4.last{a:List It}(h:l4 a){i:It}(hi:i∈a):∃e,dX i.e.a1 (a.map aY)=some e∧i.e.a3≤e:=HC _ a rfl h.ct (λc b=>(h.dr c b).pos.1) i hi
theorem fk.clear{b f g:List It}{t i j:List Int}{ms e:List (Int × Int)}(h:fk ms b t f i)(a:l4 b)(q:lA (λx=>dX x (b.map aY)) e)(h2:fk e f i g j):g=[]∧j=[]:=by
 have d:=h.TY a;refine h2.gone λr c=>?_
 obtain⟨l,u,v⟩:=(d.dr r c).pos;refine⟨l,?_⟩;obtain⟨k,m,n⟩:=d.last c;have o:=((h.ct a.ct λs p=>(a.dr s p).pos.1).1 _ _ m).1;exact⟨k,Ou q ⟨by omega,by omega⟩ o,n⟩
theorem iY.l3{i:It}(h:iY (aY i)):i.e.ls.length≤3:=by
 obtain⟨l,d,m,b,f,g,j,k,a⟩:=h;simp only[aY,lM,RI.mk.injEq]at a;obtain⟨n,o,p,q,r,c,_⟩:=a;rw[c,eQ];exact b.l3
theorem iY.pj{i:It}(h:iY (aY i)):pj 2 4 (aE i):=by
 have c:=h.pos;obtain⟨k,b,l,d,e,f,g,j,a⟩:=h;simp only[aY,lM,RI.mk.injEq]at a;obtain⟨m,n,o,p,q,r,_⟩:=a;exact⟨_,_,Cf i,⟨by omega,by omega⟩,Cg i,⟨by omega,by omega⟩⟩
theorem JJ{z:Nat}{a:Type}{f:a→List D}{l:List a}{d:D}(h:aR z f l d):lp z d=some (l.map f):=by
 rcases h with⟨rfl,rfl⟩|⟨b,rfl⟩
 ·rfl
 ·exact bE rfl
theorem Vq(a:List (Int × Int)):aR 2 cX a (lQ 2 (a.map cX)):=by
 cases a with
 |nil=>exact .aB _ _
 |cons b c=>exact .mk _ _ _ _
theorem vD(e:Ev):aC tab aG 2 (.aI (bV e))=some (.aI (.int .i64 e.a2::(bV e).drop 3)):=id rfl
theorem Gt(e:Ev):aC tab aG 3 (.aI (bV e))=some (.aI (.int .i64 e.a3::(bV e).drop 4)):=id rfl
theorem r0(z:Int)(cs:List D)(h:J):aA tab h U (.aI (.int .i64 z::cs))=some (.int .i64 z):=id rfl
theorem Ju{a:List It}{l:D}(u:aR 11 aE a l)(H:a.length≤1000000)(f:Int)(h:J):R wb [l,.int .i64 f] h=some (.bZ [.int .i64 ((dX f (a.map aY)).getD 0),.bool (dX f (a.map aY)).isSome],h):=by
 apply Wp.val;have y:aT tab aV l=some (.int .i64 (a.length:Nat)):=jh u;have C:IntKind.wrap .i64 ((a.length:Int) - 1)=(a.length:Int) - 1:=cN (by omega) (by omega);rw[NT];simp only[Eu,y,W,eH,C,aU];refine Wp.loop (λb m o=>o=h∧∃(i:Nat) (q r:D),m=[.int .i64 0,.bool false,.int .i64 ((i:Int) - 1),q,r]∧b=i∧i≤a.length∧dX f (a.map aY)=dX f ((a.take i).map aY))
  (λb=>b.2.2=h∧((b.1 = .ext 0∧dX f (a.map aY)=none)∨(b.1 = .ret∧∃n,dX f (a.map aY)=some n∧Z 0 b.2.1 = .int .i64 n∧Z 1 b.2.1 = .bool true))) a.length
  ⟨rfl,a.length,_,_,rfl,rfl,aX _,by rw[j9]⟩ ?_ ?_
 ·rintro b m o ⟨rfl,i,q,r,rfl,rfl,G,e⟩;simp only[Ew,bD,bY,W,ju,aU];refine Wp.dS ?_ ?_
  ·intro d;have d:0<b:=by
    have:(b:Int) - 1≥0:=by simpa using d
    omega
   obtain⟨c,rfl⟩:∃c,b=c+1:=⟨b - 1,by omega⟩
   obtain⟨k,w⟩:∃k,a[c]?=some k:=⟨_,cJ (by omega)⟩
   have z:(((c+1:Nat):Int) - 1)=((c:Nat):Int):=by omega
   have A:(0:Int)≤(c:Nat):=by omega
   have E:IntKind.wrap .i64 ((c:Int) - 1)=(c:Int) - 1:=cN (by omega) (by omega);have B:a.take (c+1)=a.take c++[k]:=by rw[gA,w];rfl
   rw[B,tT]at e;simp only[z,k8 u,A,aJ,dY,w,fW,W,kl,nS,Gt,r0,qo,fa];by_cases j:k.e.a1=f
   ·simp only[j,bK,aK,aJ,W];rw[bE j]at e;exact .some (.inr ⟨by simp,rfl,.inr ⟨rfl,_,e,rfl,rfl⟩⟩)
   ·simp only[j,bG,aK,aP,aL,W,eH,E];rw[cH j]at e;exact .some (.inl ⟨rfl,c,by omega,rfl,c,_,_,rfl,rfl,by omega,e⟩)
  ·intro d;have d:b=0:=by
    have:¬(b:Int) - 1≥0:=by simpa using d
    omega
   subst d;exact .some (.inr ⟨by simp,rfl,.inl ⟨rfl,e⟩⟩)
 ·rintro⟨F,m,o⟩ ⟨v,x⟩;simp only at v;subst v;rcases x with⟨g,p⟩|⟨g,n,p,s,t⟩
  ·simp only at g;subst g;simp only[dV,cL,W,aH,p,sN,lZ];exact .some rfl
  ·simp only at g s t;subst g;simp only[W,bQ,toEnd,dD,bD,bY,s,t,p,gP,mJ,aH];exact .some rfl
def iO(b:List It)(i:It):Bool:=match dX i.e.a1 (b.map aY)with
 |some a=>decide (a=i.e.a2)
 |none=>true
def pJ(a:List It)(d:List Int)(k:Int):Prop:=((a.length:Nat):Int)≤k∧d.length=a.length∧∀(c:Nat) (b:It),a[c]?=some b→gT b=0∧iO (a.take c) b=true
open Classical in
noncomputable def q9(a:List It)(b:List Int)(k:Int):Bool:=decide (pJ a b k)
theorem FL{a:List It}{b:List Int}{k:Int}(h:pJ a b k):q9 a b k=true:=by
 unfold q9;simp only[h,bK]
theorem ra{a:List It}{b:List Int}{k:Int}(h:¬pJ a b k):q9 a b k=false:=by
 unfold q9;simp only[h,bG]
theorem Cu {a:List It} {g:List Int} {w x:D} (s:aR 11 aE a w) (ak:aR 1 cU g x) (ao:a.length≤1000) (aj:∀i∈a,lz i.e) (k:Int) (h:J):R oU [w,x,.int .i64 k] h=some (.bool (q9 a g k),h):=by
 apply Wp.val;have v:aT tab aV w=some (.int .i64 (a.length:Nat)):=jh s;have M:aT tab aW x=some (.int .i64 (g.length:Nat)):=lJ ak;rw[NO];by_cases z:((a.length:Nat):Int)>k
 ·simp only[uV,v,W,cZ,z,bK,bL,bI,aK,eR,aL,aJ,bR];rw[ra λf=>by have:=f.1;omega];exact .some rfl
 by_cases P:((g.length:Nat):Int)=(a.length:Nat)
 case neg =>
  simp only[uV,v,M,W,cZ,z,bG,bL,dE,dC,P,od,bK,bI,aK,aP,aL,aJ,bR];rw[ra λf=>by have:=f.2.1;omega];exact .some rfl
 simp only[uV,v,M,W,cZ,z,bG,bL,dE,dC,P,eA,bI,aK,aP,aL,aJ,aU];refine Wp.loop (λc y l=>l=h∧∃(j:Nat) (C E F G H:D),y=[.bool false,.int .i64 (j:Nat),C,E,F,G,H]∧c+j=a.length∧∀(n:Nat) (i:It),n<j→a[n]?=some i→gT i=0∧iO (a.take n) i=true)
  (λc=>c.2.2=h∧((c.1 = .ext 0∧pJ a g k)∨(c.1 = .ret∧Z 0 c.2.1 = .bool false∧¬pJ a g k))) a.length ⟨rfl,0,_,_,_,_,_,rfl,by omega,λn i ai=>by omega⟩ ?_ ?_
 ·rintro c y l ⟨rfl,j,C,E,F,G,H,rfl,ap,I⟩;simp only[Ek,bD,bY,v,W,cI,aU];refine Wp.dS ?_ ?_
  ·intro d;have d:j<a.length:=gS d;have L:(0:Int)≤(j:Int):=by omega
   obtain⟨i,b⟩:=iR d;have aa:=fD j (by omega);obtain⟨am,ae,X⟩:=JI (T:=tab) (t:=aV) (i:=qE) (e:=aF) (j:=mu) (id rfl) (id rfl) (id rfl) (id rfl) s (k :=.i64) (n:=(j:Nat)) (by omega) (by omega);rw[dY]at X;have ac:=Ji i l (aj i (eS b));have ad:=Ju X (by rw[lV];omega) i.e.a1 l;have ab:∀B:Int,V tab .neq iH (.int .i64 B) (.int .i64 0)=some (.bool (decide (B≠0))):=λB=>dE ..
   simp only[k8 s,L,aJ,dY,b,fW,W,lf,ac,ab];by_cases r:gT i=0
   case neg =>
    simp only[dC,r,od,bK,aK,aJ];exact .some (.inr ⟨by simp,rfl,.inr ⟨rfl,rfl,λf=>r (f.2.2 j i b).1⟩⟩)
   simp only[dC,r,eA,bG,aK,aP,aL,ae,W,kl,nS,vD,r0,qo,ad,jd,iZ,j8];have Q:iO (a.take j) i=true→∀(n:Nat) (p:It),n<j+1→a[n]?=some p→gT p=0∧iO (a.take n) p=true:=λah n p ai o=>by
    rcases fm n j with N|N
    ·exact I n p N o
    ·have:n=j:=by omega
     subst this;rw[b]at o;injection o with o;subst o;exact⟨r,ah⟩
   cases A:dX i.e.a1 ((a.take j).map aY)with
   | none =>
    simp only[lZ,bL,aP,aL,W,bI,aK,cY,aa];exact .some (.inl ⟨rfl,c - 1,by omega,rfl,j+1,_,_,_,_,_,rfl,by omega,Q (by unfold iO;rw[A])⟩)
   | some e =>
    simp only[mJ,bL,aJ,W,gP,k8 s,L,dY,b,fW,kl,nS,vD,r0,dE,bI];by_cases u:e=i.e.a2
    ·simp only[u,dC,eA,bG,aK,aP,aL,cY,aa,W];exact .some (.inl ⟨rfl,c - 1,by omega,rfl,j+1,_,_,_,_,_,rfl,by omega,Q (by unfold iO;rw[A];simpa using u)⟩)
    ·simp only[u,dC,od,bK,aK,aJ];exact .some (.inr ⟨by simp,rfl,.inr ⟨rfl,rfl,λf=>by
      have:=(f.2.2 j i b).2;unfold iO at this;rw[A]at this;exact u (by simpa using this)⟩⟩)
  ·intro d;have d:j=a.length:=by
    have:¬(j:Int)<a.length:=by simpa using d
    omega
   exact .some (.inr ⟨by simp,rfl,.inl ⟨rfl,by omega,by omega,λn i b=>I n i (by rw[d];exact(bO.1 b).1) b⟩⟩)
 ·rintro⟨an,y,l⟩ ⟨K,ag⟩;simp only at K;subst K;rcases ag with⟨m,q⟩|⟨m,q,af⟩
  ·simp only at m;subst m;rw[FL q];simp only[dV,cL,W,bR];exact .some rfl
  ·simp only at m q;subst m;rw[ra af];simp only[W,bQ,toEnd,dD,bD,q,bR];exact .some rfl
theorem Ct {b:List It} {q:List Int} {C E:D} (G:aR 11 aE b C) (ax:aR 1 cU q E) (a4:b.length≤1000) (k:Int) (h:J):R oS [C,E,.int .i64 k] h=some (.bool (q9 b q k),h):=by
 have I:aT tab aV C=some (.int .i64 (b.length:Nat)):=jh G;have ae:aT tab aW E=some (.int .i64 (q.length:Nat)):=lJ ax;apply Wp.val;rw[NI];by_cases H:((b.length:Nat):Int)>k
 ·simp only[uS,I,W,cZ,H,bK,bL,bI,aK,eR,aL,aJ,bR];rw[ra λm=>by have:=m.1;omega,iu (by rfl) (.bool _) (aX _) λ_ _=>rfl];exact .some rfl
 by_cases ag:((q.length:Nat):Int)=(b.length:Nat)
 case neg =>
  simp only[uS,I,ae,W,cZ,H,bG,bL,dE,dC,ag,od,bK,bI,aK,aP,aL,aJ,bR];rw[ra λm=>by have:=m.2.1;omega,iu (by rfl) (.bool _) (aX _) λ_ _=>rfl];exact .some rfl
 simp only[uS,I,ae,W,cZ,H,bG,bL,aP,aL,aJ,ag,dE,dC,eA,bI,aK,aU];refine Wp.loop (λd F c=>∃(j:Nat) (N P Q X aa ab:D),F=[.bool false,N,P,Q,X,.int .i64 (j:Nat),aa,ab]∧d+j=b.length∧h.length≤c.length∧(∀a,a<h.length→c[a]?=h[a]?)∧∀(n:Nat) (i:It),n<j→b[n]?=some i→gT i=0∧iO (b.take n) i=true)
  (λd=>h.length≤d.2.2.length∧(∀a,a<h.length→d.2.2[a]?=h[a]?)∧((d.1 = .ext 0∧pJ b q k)∨(d.1 = .ret∧Z 0 d.2.1 = .bool false∧¬pJ b q k))) b.length ⟨0,_,_,_,_,_,_,rfl,by omega,aX _,λ_ _=>rfl,λn i aw=>by omega⟩ ?_ ?_
 ·rintro d F c ⟨j,N,P,Q,X,aa,ab,rfl,a5,u,p,ad⟩;simp only[Ed,bD,bY,W,cI,aU];refine Wp.dS ?_ ?_
  ·intro g;have g:j<b.length:=gS g;have av:(0:Int)≤(j:Int):=by omega
   obtain⟨i,o⟩:=iR g;have ak:=fD j (by omega);simp only[k8 G,av,aJ,dY,o,fW,W,lf];have ay:(aZ c aF 11 [[.str [],.int .i64 0,.int .i64 0,.int .i64 0,.int .i64 0,.aB,.int .i64 0,.int .i64 0,.str [],.str [],.aB]])[c.length]?=some (.row aF 11 [aE jC]):=hZ _ _ _ _;have a0:∀a,a<c.length→(aZ c aF 11 [[.str [],.int .i64 0,.int .i64 0,.int .i64 0,.int .i64 0,.aB,.int .i64 0,.int .i64 0,.str [],.str [],.aB]])[a]?=c[a]?:=λa L=>gQ _ _ _ _ L
   have a6:(aZ c aF 11 [[.str [],.int .i64 0,.int .i64 0,.int .i64 0,.int .i64 0,.aB,.int .i64 0,.int .i64 0,.str [],.str [],.aB]]).length=c.length+1:=hN _ _ _ _;generalize aZ c aF 11 [[.str [],.int .i64 0,.int .i64 0,.int .i64 0,.int .i64 0,.aB,.int .i64 0,.int .i64 0,.str [],.str [],.aB]]=a3 at *;refine jP (kk:=0) (off:=0) (row:=aE jC) (v :=.agg (aE i)) ay (by rfl) (by rfl) (by exact aX _) (ql _) λf w aj=>?_
   have w:f[c.length]?=some (.row aF 11 [aE i]):=w;obtain⟨a1,ao,ai⟩:=JI (T:=tab) (t:=aV) (i:=qE) (e:=aF) (j:=mu) (id rfl) (id rfl) (id rfl) (id rfl) G (k :=.i64) (n:=(j:Nat)) (by omega) (by omega);rw[dY]at ai;have ap:aA tab f U (.ptr c.length 0 (0+1+1))=some (.int .i64 i.e.a1):=by rw[fB,dT w];rfl
   have ac:aA tab f U (.ptr c.length 0 (0+1+2))=some (.int .i64 i.e.a2):=by rw[fB,dT w];rfl
   have am:=Jm i f;have al:∀M:Int,V tab .neq iH (.int .i64 M) (.int .i64 0)=some (.bool (decide (M≠0))):=λM=>dE ..
   have an:=Js ai (by rw[lV];omega) i.e.a1 f;have B:h.length≤f.length:=by have:=aj.1;omega
   have A:∀a,a<h.length→f[a]?=h[a]?:=λa L=>by rw[aj.2 a (by omega),a0 a (by omega),p a L]
   simp only[W,ao,kh,tm,l8,ap,ac,an,kC w,am,al,jd,iZ,j8];have ah:gT i=0→iO (b.take j) i=true→∀(n:Nat) (x:It),n<j+1→b[n]?=some x→gT x=0∧iO (b.take n) x=true:=λl au n x aw s=>by
    rcases fm n j with af|af
    ·exact ad n x af s
    ·have:n=j:=by omega
     subst this;rw[o]at s;injection s with s;subst s;exact⟨l,au⟩
   by_cases l:gT i=0
   case neg =>
    simp only[dC,l,od,bK,bL,eR,aL,aJ,W,bI,aK];exact .some (.inr ⟨by simp,B,A,.inr ⟨rfl,rfl,λm=>l (m.2.2 j i o).1⟩⟩)
   simp only[dC,l,eA,bG];cases K:dX i.e.a1 ((b.take j).map aY)with
   | none =>
    simp only[lZ,bL,aP,aL,aJ,W,bI,aK,cY,ak];exact .some (.inl ⟨rfl,d - 1,by omega,j+1,_,_,_,_,_,_,rfl,by omega,B,A,ah l (by unfold iO;rw[K])⟩)
   | some e =>
    simp only[mJ,bL,aJ,W,gP,l8,ac,dE,bI];by_cases z:e=i.e.a2
    ·simp only[z,dC,eA,bG,bI,aK,aP,aL,cY,ak,W];exact .some (.inl ⟨rfl,d - 1,by omega,j+1,_,_,_,_,_,_,rfl,by omega,B,A,ah l (by unfold iO;rw[K];simpa using z)⟩)
    ·simp only[z,dC,od,bK,bI,aK,aP,aL,aJ];exact .some (.inr ⟨by simp,B,A,.inr ⟨rfl,rfl,λm=>by
      have:=(m.2.2 j i o).2;unfold iO at this;rw[K]at this;exact z (by simpa using this)⟩⟩)
  ·intro g;have g:j=b.length:=by
    have:¬(j:Int)<b.length:=by simpa using g
    omega
   exact .some (.inr ⟨by simp,u,p,.inl ⟨rfl,by omega,by omega,λn i o=>ad n i (by rw[g];exact(bO.1 o).1) o⟩⟩)
 ·rintro⟨a2,F,c⟩ ⟨u,p,ar⟩;simp only at u p;rcases ar with⟨r,y⟩|⟨r,y,aq⟩
  ·simp only at r;subst r;rw[FL y];simp only[dV,cL,W,bR];rw[iu (by rfl) (.bool _) u p];exact .some rfl
  ·simp only at r y;subst r;rw[ra aq];simp only[W,bQ,toEnd,dD,bD,y,bR];rw[iu (by rfl) (.bool _) u p];exact .some rfl
theorem U2{a:List It}{b:D}(f:aR 11 aE a b)(k:Int)(i:(a.length:Nat)≤k)(j:k≤9223372036854775807)(h:J):R tF [b,.int .i64 k] h=some (.int .i64 (k - (a.length:Nat)),h):=by
 have c:aT tab aV b=some (.int .i64 (a.length:Nat)):=jh f;have g:IntKind.wrap .i64 (k - (a.length:Nat))=k - (a.length:Nat):=cN (by omega) (by omega);rw[NH];by_cases d:k≤(a.length:Nat)
 ·have e:k - (a.length:Nat)=0:=by omega
  simp only[xY,c,W,ig,d,bK,aK,aJ,bR,e]
 ·simp only[xY,c,W,ig,d,bG,aK,aP,aL,eH,g,bR]
theorem U9{a:List It}{b:D}(c:aR 11 aE a b)(k:Int)(g:(a.length:Nat)≤k)(i:k≤9223372036854775807)(h:J):R tH [b,.int .i64 k] h=some (.int .i64 (k - (a.length:Nat)),h):=by
 have d:aT tab aV b=some (.int .i64 (a.length:Nat)):=jh c;have f:IntKind.wrap .i64 (k - (a.length:Nat))=k - (a.length:Nat):=cN (by omega) (by omega);have e:¬k<(a.length:Nat):=by omega
 rw[NP];simp only[El,d,W,cI,e,bG,aK,aP,aL,eH,f,bR]
def iT(a:List It)(i:It)(k:Int):Int:=if gT i=0 then(if iO a i=true then(if((a.length:Nat):Int)<k then 0 else 16)else 19)else gT i
def ny(a:List It)(i:It)(k:Int):List It:=if iT a i k=0 then a++[i]else[]
def nw(a:List It)(b:List Int)(i:It)(r k:Int):List Int:=if iT a i k=0 then b++[r]else[]
theorem LD{c:List It}{d:D}(f:aR 11 aE c d)(z:c.length≤1000)(i:It)(h:J){j:Type}{F:D × J→Option j}{Q:j→Prop}
  (k:∀x g,Own g h.length aF 11 ((c++[i]).map aE) x→h.length≤g.length→(∀p,p<h.length→g[p]?=h[p]?)→Wp (F (x,g)) Q) :
  Wp ((R oT [d] h).bind λp=>(cW tab p.2 aV aV p.1 (.sl 11 true [aE i])).bind F) Q:=by
 have own:∀x g,R oT [d] h=some (x,g)→Own g h.length aF 11 (c.map aE) x→h.length≤g.length→(∀p,p<h.length→g[p]?=h[p]?)→Wp ((R oT [d] h).bind λp=>(cW tab p.2 aV aV p.1 (.sl 11 true [aE i])).bind F) Q:=λx g b w u t=>by
  simp only[b,W];refine nD (ys:=[aE i]) (n0:=h.length) u w (iq _ _ _ _) (by simp;omega) λy q v A s _ _=>?_
  exact k y q (by rw[fV];exact v) (by omega) λp a=>by rw[s p a,t p a]
 by_cases r:c.length=0
 case neg =>
  exact own _ _ (U5 f h (by omega) (by omega)) (.inr ⟨h.length,aX _,by rw[eQ],hZ _ _ _ _⟩) (by rw[hN];omega) λp a=>gQ _ _ _ _ a
 obtain rfl:=fQ r;rcases f with⟨rfl,_⟩|⟨e,rfl⟩
 ·have b:V tab .eql aV .aB .aB=some (.bool true):=id rfl;refine own .aB h ?_ (.aB _ _ _ _) (aX _) λ_ _=>rfl
  rw[yX];simp only[uT,b,W,aK,aJ,bR]
 ·have l:V tab .eql aV (.sl 11 e []) .aB=some (.bool false):=id rfl;have m:bJ tab aV 0 [] []=some (.sl 11 true []):=id rfl;have n:cW tab h aV aV (.sl 11 true []) (.sl 11 e [])=some (.sl 11 true [],h):=id rfl;have b:R oT [.sl 11 e []] h=some (.sl 11 true [],h):=by
   rw[yX];simp only[uT,l,m,n,W,aK,aP,aL,bR]
  have o:cW tab h aV aV (.sl 11 true []) (.sl 11 true [aE i])=some (.aO 11 h.length 0 1,aZ h aF 11 [aE i]):=id rfl;simp only[pQ,b,o,W];exact k _ _ (.inr ⟨h.length,aX _,rfl,hZ _ _ _ _⟩) (by rw[hN];omega) λp a=>gQ _ _ _ _ a
theorem LF{b:List Int}{c:D}(f:aR 1 cU b c)(B:b.length≤1000)(r:Int)(h:J){n0:Nat}(i:n0≤h.length){j:Type}{F:D × J→Option j}{Q:j→Prop}
  (k:∀x g,Own g n0 U 1 ((b++[r]).map cU) x→h.length≤g.length→(∀p,p<h.length→g[p]?=h[p]?)→Wp (F (x,g)) Q) :
  Wp ((R ni [c] h).bind λp=>(cW tab p.2 aW aW p.1 (.sl 1 true [cU r])).bind F) Q:=by
 have own:∀x g,R ni [c] h=some (x,g)→Own g h.length U 1 (b.map cU) x→h.length≤g.length→(∀p,p<h.length→g[p]?=h[p]?)→Wp ((R ni [c] h).bind λp=>(cW tab p.2 aW aW p.1 (.sl 1 true [cU r])).bind F) Q:=λx g d z w v=>by
  simp only[d,W];refine sr (ys:=[cU r]) (n0:=h.length) w z (iq _ _ _ _) (by simp;omega) λA q y C u _ _=>?_
  exact k A q (by rw[fV];exact y.from i) (by omega) λp a=>by rw[u p a,v p a]
 by_cases t:b.length=0
 case neg =>
  have s:aR 1 inr b c:=f;exact own _ _ (Jq s h (by omega) (by omega)) (.inr ⟨h.length,aX _,by rw[eQ],hZ _ _ _ _⟩) (by rw[hN];omega) λp a=>gQ _ _ _ _ a
 obtain rfl:=fQ t;rcases f with⟨rfl,_⟩|⟨e,rfl⟩
 ·have d:V tab .eql aW .aB .aB=some (.bool true):=id rfl;refine own .aB h ?_ (.aB _ _ _ _) (aX _) λ_ _=>rfl
  rw[th];simp only[qR,d,W,aK,aJ,bR]
 ·have l:V tab .eql aW (.sl 1 e []) .aB=some (.bool false):=id rfl;have m:bJ tab aW 0 [] []=some (.sl 1 true []):=id rfl;have n:cW tab h aW aW (.sl 1 true []) (.sl 1 e [])=some (.sl 1 true [],h):=id rfl;have d:R ni [.sl 1 e []] h=some (.sl 1 true [],h):=by
   rw[th];simp only[qR,l,m,n,W,aK,aP,aL,bR]
  have o:cW tab h aW aW (.sl 1 true []) (.sl 1 true [cU r])=some (.aO 1 h.length 0 1,aZ h U 1 [cU r]):=id rfl;simp only[pQ,d,o,W];exact k _ _ (.inr ⟨h.length,i,rfl,hZ _ _ _ _⟩) (by rw[hN];omega) λp a=>gQ _ _ _ _ a
theorem IK{h g:J}{Q:List It}{c:List Int}{x y:D}(m:h.length≤g.length)(l:∀p,p<h.length→g[p]?=h[p]?)(o:Own g h.length aF 11 (Q.map aE) x)(q:Own g h.length U 1 (c.map cU) y)(e:Int):
  ∃d f,scope h g (.bZ [x,y,.int .i64 e])=some (.bZ [d,f,.int .i64 e],h)∧aR 11 aE Q d∧aR 1 cU c f:=by
 have i:=jy (n0:=h.length) (n:=2) o (aX _) λa _=>qj _ g 1 a
 have j:=jy (n0:=h.length) (n:=2) q (aX _) λa _=>wZ _ g 2 a
 refine⟨cV h.length g 3 x,cV h.length g 3 y,iu (by rfl) (.bZ _ λk b=>?_) m l,i,j⟩;simp at b;rcases b with rfl|rfl|rfl
 ·exact jA i λa _=>rZ _ a
 ·exact jA j λa _ k b=>by
    simp only[cU,gz]at b;subst b;exact .int _ _
 ·exact .int _ _
theorem r9(h:J)(e:Int):scope h h (.bZ [.aB,.aB,.int .i64 e])=some (.bZ [.aB,.aB,.int .i64 e],h):=iu (by rfl) (.bZ _ λb a=>by
 simp at a;rcases a with rfl|rfl
 ·exact .aB
 ·exact .int _ _) (aX _) λ_ _=>rfl
theorem U1{a:List It}{m:List Int}{d f:D}(t:aR 11 aE a d)(ah:aR 1 cU m f)(ag:a.length≤1000)(ai:m.length≤1000)(i:It)(r k:Int)(h:J):
  ∃b c,R nV [d,f,.agg (aE i),.int .i64 r,.int .i64 k] h=some (.bZ [b,c,.int .i64 (iT a i k)],h)∧aR 11 aE (ny a i k) b∧aR 1 cU (nw a m i r k) c:=by
 have ad:aT tab aV d=some (.int .i64 (a.length:Nat)):=jh t;have y:=Jm i h;have K:=Js t (by omega) i.e.a1 h;have x:∀w:Int,V tab .neq iH (.int .i64 w) (.int .i64 0)=some (.bool (decide (w≠0))):=λw=>dE ..
 have v:∀e:Int,iT a i k=e→e≠0→R nV [d,f,.agg (aE i),.int .i64 r,.int .i64 k] h=some (.bZ [.aB,.aB,.int .i64 e],h)→∃b c,R nV [d,f,.agg (aE i),.int .i64 r,.int .i64 k] h=some (.bZ [b,c,.int .i64 (iT a i k)],h)∧aR 11 aE (ny a i k) b∧aR 1 cU (nw a m i r k) c:=λe n ay aa=>by
  refine⟨.aB,.aB,by rw[n];exact aa,?_,?_⟩
  ·unfold ny;rw[cH (by omega)];exact .aB _ _
  ·unfold nw;rw[cH (by omega)];exact .aB _ _
 by_cases g:gT i=0
 case neg =>
  refine v (gT i) (by unfold iT;rw[cH g]) g ?_;rw[Gi];simp only[xX,jj,W,lf,y,x,dC,g,od,bK,aK,aJ,aH];exact r9 h _
 have ab:∀{ax:Type} (p q:Option ax),((O (.bool (dX i.e.a1 (a.map aY)).isSome) true (some (.int .i64 ((dX i.e.a1 (a.map aY)).getD 0)))).bind λan=>(O (.bool (dX i.e.a1 (a.map aY)).isSome) true (some (.aI (bV i.e)))).bind λao=>(O (.bool (dX i.e.a1 (a.map aY)).isSome) true (aC tab aG 2 ao)).bind λap=>(O (.bool (dX i.e.a1 (a.map aY)).isSome) true (aA tab h U ap)).bind λaq=>(O (.bool (dX i.e.a1 (a.map aY)).isSome) true (V tab .neq U an aq)).bind λar=>(cD (.bool (dX i.e.a1 (a.map aY)).isSome) ar (.bool false)).bind λau=>S au p q)=if iO a i=true then q else p:=λp q=>by
  unfold iO;cases az:dX i.e.a1 (a.map aY)with
  |none=>simp only[lZ,bL,aP,aL,W,bI,aK,aJ]
  | some e =>
   simp only[mJ,bL,aJ,W,gP,vD,r0,dE,bI,aK];by_cases n:e=i.e.a2
   ·simp only[n,dC,eA,bG,bK,aP,aL,aJ]
   ·simp only[n,dC,od,bG,bK,aP,aL,aJ]
 have o:R nV [d,f,.agg (aE i),.int .i64 r,.int .i64 k] h=if iO a i=true then((V tab .geq U (.int .i64 (a.length:Nat)) (.int .i64 k)).bind λav=>S av
    (scope h h (aH [.aB,.aB,.int .i64 16]))
    ((R oT [d] h).bind λF =>
    (cW tab F.2 aV aV F.1 (.sl 11 true [aE i])).bind λG =>
    (R ni [f] G.2).bind λH =>
    (cW tab H.2 aW aW H.1 (.sl 1 true [cU r])).bind λI =>
    (scope h I.2 (aH [G.1,I.1,.int .i64 0]))))else scope h h (aH [.aB,.aB,.int .i64 19]):=by
  rw[Gi,← ab];have ae:bJ tab aV 1 [0] [.agg (aE i)]=some (.sl 11 true [aE i]):=id rfl;have af:bJ tab aW 1 [0] [.int .i64 r]=some (.sl 1 true [cU r]):=id rfl;simp only[xX,jj,W,lf,y,x,dC,g,eA,bG,aK,aP,aL,kl,nS,qo,K,jd,iZ,j8,ad,ae,af,ke]
 by_cases l:iO a i=true
 case neg =>
  refine v 19 (by unfold iT;rw[bE g,cH l]) (by decide) ?_;rw[o,cH l];exact r9 h _
 rw[bE l]at o;by_cases z:((a.length:Nat):Int)<k
 case neg =>
  refine v 16 (by unfold iT;rw[bE g,bE l,cH z]) (by decide) ?_;have u:((a.length:Nat):Int)≥k:=by omega
  rw[o];simp only[ju,W,u,bK,aK,aJ];exact r9 h _
 have s:iT a i k=0:=by unfold iT;rw[bE g,bE l,bE z]
 have u:¬((a.length:Nat):Int)≥k:=by omega
 suffices Wp (R nV [d,f,.agg (aE i),.int .i64 r,.int .i64 k] h) (λj=>∃b c,j=(.bZ [b,c,.int .i64 0],h)∧aR 11 aE (a++[i]) b∧aR 1 cU (m++[r]) c) by
  obtain⟨j,Q,b,c,rfl,T,X⟩:=this;exact⟨b,c,by rw[s];exact Q,by unfold ny;rw[bE s];exact T,by unfold nw;rw[bE s];exact X⟩
 rw[o];simp only[ju,W,u,bG,aK,aP,aL];refine LD t ag i h λaw N E ak aj=>?_
 refine LF ah ai r N ak λa3 P al a0 B=>?_
 have am:Own P h.length aF 11 ((a++[i]).map aE) aw:=E.bH λj A ac=>B j (E.lt ac).2
 obtain⟨b,c,e,L,M⟩:=IK (by omega) (λj A=>by rw[B j (by omega),aj j A]) am al 0;exact⟨_,e,b,c,rfl,L,M⟩
theorem Va{a:List It}{l:List Int}{e g:D}(s:aR 11 aE a e)(ag:aR 1 cU l g)(ay:a.length≤1000)(az:l.length≤1000)(i:It)(af:lz i.e)(r k:Int)(h:J):
  ∃b c,R nX [e,g,.agg (aE i),.int .i64 r,.int .i64 k] h=some (.bZ [b,c,.int .i64 (iT a i k)],h)∧aR 11 aE (ny a i k) b∧aR 1 cU (nw a l i r k) c:=by
 have ac:aT tab aV e=some (.int .i64 (a.length:Nat)):=jh s;have y:=Ji i h af;have M:=Ju s (by omega) i.e.a1 h;have x:∀w:Int,V tab .neq iH (.int .i64 w) (.int .i64 0)=some (.bool (decide (w≠0))):=λw=>dE ..
 have v:∀f:Int,iT a i k=f→f≠0→R nX [e,g,.agg (aE i),.int .i64 r,.int .i64 k] h=some (.bZ [.aB,.aB,.int .i64 f],h)→∃b c,R nX [e,g,.agg (aE i),.int .i64 r,.int .i64 k] h=some (.bZ [b,c,.int .i64 (iT a i k)],h)∧aR 11 aE (ny a i k) b∧aR 1 cU (nw a l i r k) c:=λf n aw aa=>by
  refine⟨.aB,.aB,by rw[n];exact aa,?_,?_⟩
  ·unfold ny;rw[cH (by omega)];exact .aB _ _
  ·unfold nw;rw[cH (by omega)];exact .aB _ _
 by_cases j:gT i=0
 case neg =>
  refine v (gT i) (by unfold iT;rw[cH j]) j ?_;rw[Gj];simp only[x7,jj,W,lf,y,x,dC,j,od,bK,aK,aJ,aH];exact r9 h _
 have ad:bJ tab aV 1 [0] [.agg (aE i)]=some (.sl 11 true [aE i]):=id rfl;have ae:bJ tab aW 1 [0] [.int .i64 r]=some (.sl 1 true [cU r]):=id rfl;have o:R nX [e,g,.agg (aE i),.int .i64 r,.int .i64 k] h=if iO a i=true then((V tab .geq U (.int .i64 (a.length:Nat)) (.int .i64 k)).bind λaq=>S aq
    (scope h h (aH [.aB,.aB,.int .i64 16]))
    ((cW tab h aV aV (.aB) e).bind λG =>
    (cW tab G.2 aV aV G.1 (.sl 11 true [aE i])).bind λH =>
    (cW tab H.2 aW aW (.aB) g).bind λI =>
    (cW tab I.2 aW aW I.1 (.sl 1 true [cU r])).bind λK =>
    (scope h K.2 (aH [H.1,K.1,.int .i64 0]))))else scope h h (aH [.aB,.aB,.int .i64 19]):=by
  rw[Gj];simp only[x7,jj,W,lf,y,x,dC,j,eA,bG,aK,aP,aL,kl,nS,qo,M,jd,iZ,j8,ac,ad,ae,ke];unfold iO;cases ax:dX i.e.a1 (a.map aY)with
  |none=>simp only[lZ,bL,aP,aL,W,bI,aK,aJ]
  | some f =>
   simp only[mJ,bL,aJ,W,gP,vD,r0,dE,bI,aK];by_cases n:f=i.e.a2
   ·simp only[n,dC,eA,bG,bK,aP,aL,aJ]
   ·simp only[n,dC,od,bG,bK,aP,aL,aJ]
 by_cases m:iO a i=true
 case neg =>
  refine v 19 (by unfold iT;rw[bE j,cH m]) (by decide) ?_;rw[o,cH m];exact r9 h _
 rw[bE m]at o;by_cases A:((a.length:Nat):Int)<k
 case neg =>
  refine v 16 (by unfold iT;rw[bE j,bE m,cH A]) (by decide) ?_;have t:((a.length:Nat):Int)≥k:=by omega
  rw[o];simp only[ju,W,t,bK,aK,aJ];exact r9 h _
 have q:iT a i k=0:=by unfold iT;rw[bE j,bE m,bE A]
 have t:¬((a.length:Nat):Int)≥k:=by omega
 suffices Wp (R nX [e,g,.agg (aE i),.int .i64 r,.int .i64 k] h) (λd=>∃b c,d=(.bZ [b,c,.int .i64 0],h)∧aR 11 aE (a++[i]) b∧aR 1 cU (l++[r]) c) by
  obtain⟨d,Q,b,c,rfl,T,X⟩:=this;exact⟨b,c,by rw[q];exact Q,by unfold ny;rw[bE q];exact T,by unfold nw;rw[bE q];exact X⟩
 rw[o];simp only[ju,W,t,bG,aK,aP,aL];refine nD (rows:=[]) (n0:=h.length) (aX _) (.aB _ _ _ _) (sj _ s) (by simp only[eQ,eJ];omega) λa4 au al aj ah _ _=>?_
 refine nD (ys:=[aE i]) (n0:=h.length) aj al (iq _ _ _ _) (by simp;omega) λL z F a0 ai _ _=>?_
 refine sr (rows:=[]) (n0:=z.length) (aX _) (.aB _ _ _ _) (sj _ ag) (by simp only[eQ,eJ];omega) λa5 av am ak B _ _=>?_
 refine sr (ys:=[cU r]) (n0:=z.length) ak am (iq _ _ _ _) (by simp;omega) λar p an a3 C _ _=>?_
 have ao:Own p h.length aF 11 ((a++[i]).map aE) L:=by
  have:Own p h.length aF 11 ([]++a.map aE++[aE i]) L:=F.bH λd u ab=>by
   have:=(F.lt ab).2;rw[C d this,B d this]
  rw[fV];exact this
 have ap:Own p h.length U 1 ((l++[r]).map cU) ar:=by
  rw[fV];exact an.from (by omega)
 obtain⟨b,c,f,N,P⟩:=IK (by omega) (λd u=>by rw[C d (by omega),B d (by omega),ai d u,ah d u]) ao ap 0;exact⟨_,f,b,c,rfl,N,P⟩
theorem Ug{g:J}{ms:List (Int × Int)}{d:D}(h:kW g dU 2 cX ms d){i:Nat}{m:Int × Int}(hi:ms[i]?=some m):∃p b c,aQ tab eT d (.int .i64 (i:Nat))=some p∧aC tab dU 0 p=some b∧aC tab dU 1 p=some c∧aA tab g U b=some (.int .i64 m.1)∧aA tab g U c=some (.int .i64 m.2)∧aA tab g dU p=some (.agg (cX m)):=by
 have e:=(bO.1 hi).1;rcases h with h|⟨f,rfl,a⟩
 ·exact⟨_,.aI (cX m),.aI [.int .i64 m.2],by rw[tS h,bE (by omega),dY,hi];rfl,id rfl,id rfl,id rfl,id rfl,id rfl⟩
 ·refine⟨_,_,_,by rw[tR,bE ⟨by omega,by omega⟩,dY],GD _ _ _,GF _ _ _,?_,?_,?_⟩
  ·rw[fB,dT a,dF,dH,hi];rfl
  ·rw[fB,dT a,dF,dH,hi];rfl
  ·rw[Bz,dT a,dF,dH,hi];rfl
theorem Jw{ms:List (Int × Int)}{k:D}(L:ms.length≤1000000)(f:Int)(h:J)(v:kW h dU 2 cX ms k):R wc [k,.int .i64 f] h=some (.bZ [.int .i64 ((eK ms f).getD 0),.bool (eK ms f).isSome],h):=by
 apply Wp.val;have A:aT tab eT k=some (.int .i64 (ms.length:Nat)):=Ca v;rw[NV];simp only[EA,W,aU];refine Wp.loop (λc l n=>n=h∧∃(a:Nat) (r s:D),l=[.int .i64 0,.bool false,.int .i64 (a:Nat),r,s]∧c+a=ms.length∧∀(b:Nat) (g:Int × Int),b<a→ms[b]?=some g→g.1≠f)
  (λc=>c.2.2=h∧((c.1 = .ext 0∧eK ms f=none)∨(c.1 = .ret∧∃m,eK ms f=some m∧Z 0 c.2.1 = .int .i64 m∧Z 1 c.2.1 = .bool true))) ms.length ⟨rfl,0,_,_,rfl,by omega,λb g z=>by omega⟩ ?_ ?_
 ·rintro c l n ⟨rfl,a,r,s,rfl,M,p⟩;simp only[EB,bD,bY,A,W,cI,aU];refine Wp.dS ?_ ?_
  ·intro e;have e:a<ms.length:=gS e;obtain⟨B,q⟩:=iR e;have C:=fD a (by omega);obtain⟨Q,N,P,E,F,G,H,I,_⟩:=Ug v q;simp only[E,F,G,H,I,W,fa];by_cases j:B.1=f
   ·simp only[j,bK,aK,aJ,W];exact .some (.inr ⟨by simp,rfl,.inr ⟨rfl,_,y4 q j p,rfl,rfl⟩⟩)
   ·simp only[j,bG,aK,aP,aL,cY,C,W];refine .some (.inl ⟨rfl,c - 1,by omega,rfl,a+1,_,_,rfl,by omega,λb g z d=>?_⟩);rcases fm b a with x|x
    ·exact p b g x d
    ·have:b=a:=by omega
     subst this;rw[q]at d;injection d with d;subst d;exact j
  ·intro e;have e:a=ms.length:=by
    have:¬(a:Int)<ms.length:=by simpa using e
    omega
   exact .some (.inr ⟨by simp,rfl,.inl ⟨rfl,y5 λb g d=>p b g (by rw[e];exact(bO.1 d).1) d⟩⟩)
 ·rintro⟨K,l,n⟩ ⟨w,y⟩;simp only at w;subst w;rcases y with⟨i,o⟩|⟨i,m,o,t,u⟩
  ·simp only at i;subst i;simp only[dV,cL,W,aH,o,sN,lZ];exact .some rfl
  ·simp only at i t u;subst i;simp only[W,bQ,toEnd,dD,bD,bY,t,u,o,gP,mJ,aH];exact .some rfl
theorem gN.ri{i j n:It}{m:Int}{o p:Bool}(h:gN i m o j)(h':gN i m p n):o=p∧aY j=aY n:=by
 rcases h with⟨e,c,rfl⟩|⟨e,c,k,rfl⟩|⟨e,c,⟨w,k,y⟩,q,a⟩<;>rcases h' with⟨f,d,rfl⟩|⟨f,d,l,rfl⟩|⟨f,d,⟨x,l,z⟩,s,b⟩
 ·exact⟨c.trans d.symm,rfl⟩
 ·exact absurd e f
 ·exact absurd e f
 ·exact absurd f e
 ·exact⟨k.trans l.symm,rfl⟩
 ·rcases c with c|c
  ·omega
  ·have:=c x l;omega
 ·exact absurd f e
 ·rcases d with d|d
  ·omega
  ·have:=d w k;omega
 ·refine⟨q.trans s.symm,?_⟩;obtain⟨A,v,t⟩:=a.a2;obtain⟨B,g,u⟩:=b.a2;rw[v]at g;injection g with g;subst g;simp only[aY,RI.mk.injEq];exact⟨a.r.trans b.r.symm,a.a0.trans b.a0.symm,a.a1.trans b.a1.symm,t.trans u.symm,a.a3.trans b.a3.symm,a.ls.trans b.ls.symm,a.a5.trans b.a5.symm,a.a6.trans b.a6.symm,a.s7.trans b.s7.symm,a.s8.trans b.s8.symm,a.fs.trans b.fs.symm⟩
theorem fk.same{ms:List (Int × Int)}{p q:List It}{s t:List Int}(h:fk ms p s q t):∀{e:List It} {f:List Int},fk ms p s e f→q.map aY=e.map aY∧t=f:=by
 induction h with
 | nil =>
  intro e f b;generalize n:([]:List It)=x at b;generalize z:([]:List Int)=y at b;cases b with
  |nil=>exact⟨rfl,rfl⟩
  |bH=>simp at n
  |kz=>simp at n
  |drop=>simp at n
 | bH r o c g =>
  intro e f b;rcases b.inv rfl rfl with⟨_,u,v,l,rfl,rfl⟩|⟨j,i,a,_⟩|⟨j,i,a,_⟩
  ·obtain⟨d,rfl⟩:=g l;exact⟨by rw[fV,fV,d],rfl⟩
  ·rw[c]at a;cases a
  ·rw[c]at a;cases a
 | kz r o c k g =>
  intro e f b;rcases b.inv rfl rfl with⟨a,_⟩|⟨j,i,a,d,u,v,l,rfl,rfl⟩|⟨j,i,a,d,_⟩
  ·rw[c]at a;cases a
  ·rw[c]at a;injection a with a;subst a;obtain⟨m,rfl⟩:=g l;have w:=(k.ri d).2;exact⟨by rw[fV,fV,m];simp only[gO,pQ,w],rfl⟩
  ·rw[c]at a;injection a with a;subst a;have:=(k.ri d).1;cases this
 | drop r o c k g =>
  intro e f b;rcases b.inv rfl rfl with⟨a,_⟩|⟨j,i,a,d,_⟩|⟨j,i,a,d,m⟩
  ·rw[c]at a;cases a
  ·rw[c]at a;injection a with a;subst a;have:=(k.ri d).1;cases this
  ·exact g m
theorem Fl{h g:J}{x y:D}{f:List It}{i:List Int}{jt:It}{rk:Int}(C:h.length≤g.length)(L:f.length≤1000)(B:∀p,p<h.length→g[p]?=h[p]?)
  (q:Own g h.length aF 11 (f.map aE) x) (n:Own g h.length U 1 (i.map cU) y) (M:i.length≤1000) {s:Type} {F:D × J→D × J→Option s} {Q:s→Prop}
  (k:∀x' e j b,h.length≤b.length→(∀p,p<h.length→b[p]?=h[p]?)→Own b h.length aF 11 ((f++[jt]).map aE) x'→Own b h.length U 1 ((i++[rk]).map cU) j→Wp (F (x',e) (j,b)) Q) :
  Wp ((bJ tab aV 1 [0] [.agg (aE jt)]).bind λI=>(cW tab g aV aV x I).bind λr=>(bJ tab aW 1 [0] [.int .i64 rk]).bind λK=>(cW tab r.2 aW aW y K).bind λH=>F r H) Q:=by
 have t:bJ tab aV 1 [0] [.agg (aE jt)]=some (.sl 11 true [aE jt]):=id rfl;have u:bJ tab aW 1 [0] [.int .i64 rk]=some (.sl 1 true [cU rk]):=id rfl;simp only[t,u,W];refine nD (ys:=[aE jt]) (n0:=h.length) C q (iq _ _ _ _) (by simp;omega) λx' e m N v w _=>?_
 have o:Own e h.length U 1 (i.map cU) y:=n.bH λp d c=>w p (n.lt c).2 λl=>by
  have a:=kp n c;rw[kp q l]at a;injection a with a;injection a with a;exact absurd a (by decide)
 refine sr (ys:=[cU rk]) (n0:=h.length) (by omega) o (iq _ _ _ _) (by simp;omega) λj b E P z A _=>?_
 have G:Own b h.length aF 11 (f.map aE++[aE jt]) x':=m.bH λp d c=>A p (m.lt c).2 λl=>by
  have a:=kp m c;rw[kp o l]at a;injection a with a;injection a with a;exact absurd a (by decide)
 refine k x' e j b (by omega) (λp d=>by rw[z p d,v p d,B p d]) ?_ ?_
 ·rw[fV];exact G
 ·rw[fV];exact E
theorem Vc{g:List It}{q:List Int}{ms:List (Int × Int)}{F G M:D}(r:aR 11 aE g F)(bg:aR 1 cU q G)(bx:g.length≤1000)(bf:q.length=g.length)(be:ms.length≤1000000)(bc:∀i∈g,i.e.ls.length≤1000000)(h:J)(bd:kW h dU 2 cX ms M):
  ∃d f u w,R rQ [F,G,M] h=some (.bZ [u,w],h)∧aR 11 aE d u∧aR 1 cU f w∧fk ms g q d f:=by
 suffices Wp (R rQ [F,G,M] h) (λj=>∃d f u w,j=(.bZ [u,w],h)∧aR 11 aE d u∧aR 1 cU f w∧fk ms g q d f) by
  obtain⟨j,I,d,f,u,w,rfl,K⟩:=this;exact⟨d,f,u,w,I,K⟩
 have bb:aT tab aV F=some (.int .i64 (g.length:Nat)):=jh r;rw[NS];simp only[Es,W,aU];refine Wp.loop (λj N b=>∃(c:Nat) (l m ai aj ak al am an ao ah:D) (d:List It) (f:List Int),N=[l,m,.int .i64 (c:Nat),ai,aj,ak,al,am,an,ao,ah]∧j+c=g.length∧h.length≤b.length∧(∀a,a<h.length→b[a]?=h[a]?) ∧
   Own b h.length aF 11 (d.map aE) l∧Own b h.length U 1 (f.map cU) m∧d.length≤c∧f.length≤c∧fk ms (g.take c) (q.take c) d f)
  (λj=>j.1 = .ext 0∧∃(l m:D) (d:List It) (f:List Int),Z 0 j.2.1=l∧Z 1 j.2.1=m∧h.length≤j.2.2.length∧(∀a,a<h.length→j.2.2[a]?=h[a]?) ∧
   Own j.2.2 h.length aF 11 (d.map aE) l∧Own j.2.2 h.length U 1 (f.map cU) m∧fk ms g q d f) g.length
  ⟨0,.aB,.aB,_,_,_,_,_,_,_,_,[],[],rfl,rfl,aX _,λ_ _=>rfl,.aB _ _ _ _,.aB _ _ _ _,aX _,aX _,.nil⟩ ?_ ?_
 ·rintro j N b ⟨c,l,m,ai,aj,ak,al,am,an,ao,ah,d,f,rfl,bz,L,A,s,t,b2,b3,z⟩;simp only[Et,bD,bY,bb,W,cI,aU];refine Wp.dS ?_ ?_
  ·intro y;have y:c<g.length:=gS y;have au:(0:Int)≤(c:Int):=by omega
   obtain⟨i,o⟩:=iR y;obtain⟨rk,av⟩:∃rk,q[c]?=some rk:=⟨_,cJ (by omega)⟩
   have Q:g.take (c+1)=g.take c++[i]:=by rw[gA,o];rfl
   have T:q.take (c+1)=q.take c++[rk]:=by rw[gA,av];rfl
   have ad:=fD c (by omega);simp only[k8 r,au,aJ,dY,o,fW,W,lf];have n0:(aZ b aF 11 [[.str [],.int .i64 0,.int .i64 0,.int .i64 0,.int .i64 0,.aB,.int .i64 0,.int .i64 0,.str [],.str [],.aB]])[b.length]?=some (.row aF 11 [aE jC]):=hZ _ _ _ _;have bo:∀a,a<b.length→(aZ b aF 11 [[.str [],.int .i64 0,.int .i64 0,.int .i64 0,.int .i64 0,.aB,.int .i64 0,.int .i64 0,.str [],.str [],.aB]])[a]?=b[a]?:=λa k=>gQ _ _ _ _ k
   have b4:(aZ b aF 11 [[.str [],.int .i64 0,.int .i64 0,.int .i64 0,.int .i64 0,.aB,.int .i64 0,.int .i64 0,.str [],.str [],.aB]]).length=b.length+1:=hN _ _ _ _;generalize aZ b aF 11 [[.str [],.int .i64 0,.int .i64 0,.int .i64 0,.int .i64 0,.aB,.int .i64 0,.int .i64 0,.str [],.str [],.aB]]=bv at *;refine jP (kk:=0) (off:=0) (row:=aE jC) (v :=.agg (aE i)) n0 (by rfl) (by rfl) (by exact aX _) (ql _) λp C a2=>?_
   have C:p[b.length]?=some (.row aF 11 [aE i]):=C;have H:aA tab p U (.ptr b.length 0 (0+1+1))=some (.int .i64 i.e.a1):=by rw[fB,dT C];rfl
   have b0:p.length=b.length+1:=by have:=a2.1;omega
   have E:∀a,a<b.length→p[a]?=b[a]?:=λa k=>by rw[a2.2 a (by omega),bo a k]
   have a8:=Jw be i.e.a1 p (bd.mono λa k=>by rw[E a (by omega),A a k]);have ay:∀aq,aA tab aq U (.aI (cU rk))=some (.int .i64 rk):=λaq=>id rfl
   have aw:aQ tab aW G (.int .i64 (c:Nat))=some (.aI (cU rk)):=by rw[me bg,bE au,dY,av];rfl
   simp only[W,kh,tm,H,a8,jd,iZ,j8];have az:Own p h.length aF 11 (d.map aE) l:=s.bH λa k o=>E a (s.lt o).2
   have a0:Own p h.length U 1 (f.map cU) m:=t.bH λa k o=>E a (t.lt o).2
   have ax:∀a,a<h.length→p[a]?=h[a]?:=λa k=>by rw[E a (by omega),A a k]
   cases P:eK ms i.e.a1 with
   | none =>
    simp only[lZ,aK,aP,aL,W,cL,kC C,aU,aw,ay,ke];refine Fl (jt:=i) (rk:=rk) (by omega) (by omega) ax az a0 (by omega) λae x af ba bk bh aa ab=>?_
    simp only[W,bQ,cL,bD,bY,cY,ad];exact .some (.inl ⟨rfl,j - 1,by omega,c+1,ae,af,_,_,_,_,_,_,_,_,_,_,rfl,by omega,bk,bh,aa,ab,by simp;omega,by simp;omega,by rw[Q,T];exact .bH rk z P⟩)
   | some bn =>
    obtain⟨jt,bp,a9,ar⟩:=UB i bn p (bc i (eS o));have a6:gY 11 (.agg (aE jt))=some (.aI (aE jt)):=mP _ _ rfl;simp only[mJ,gP,aK,aJ,W,kC C,a9,a6,jd,iZ,j8,aU];cases bp with
    | true =>
     simp only[fK,eY,aK,aP,aL,W,lf,aU];refine jP (kk:=0) (off:=0) (row:=aE i) (v :=.agg (aE jt)) C (by rfl) (by rfl) (by exact aX _) (ql _) λx ac a3=>?_
     have ac:x[b.length]?=some (.row aF 11 [aE jt]):=ac;have b1:x.length=b.length+1:=by have:=a3.1;omega
     have X:∀a,a<b.length→x[a]?=b[a]?:=λa k=>by rw[a3.2 a (by omega),E a k]
     have bq:Own x h.length aF 11 (d.map aE) l:=s.bH λa k o=>X a (s.lt o).2
     have br:Own x h.length U 1 (f.map cU) m:=t.bH λa k o=>X a (t.lt o).2
     have bj:∀a,a<h.length→x[a]?=h[a]?:=λa k=>by rw[X a (by omega),A a k]
     simp only[W,cL,kC ac,aU,aw,ay,ke];refine Fl (jt:=jt) (rk:=rk) (by omega) (by omega) bj bq br (by omega) λae ba af bw bl bi aa ab=>?_
     simp only[W,bQ,cL,bD,bY,cY,ad];exact .some (.inl ⟨rfl,j - 1,by omega,c+1,ae,af,_,_,_,_,_,_,_,_,_,_,rfl,by omega,bl,bi,aa,ab,by simp;omega,by simp;omega,by rw[Q,T];exact .kz rk z P ar⟩)
    | false =>
     have bt:∀{a4:Type} (a5:Option a4) (ag:Ex→Option a4),toEnd (.ext 1) a5 ag=ag (.ext 1):=λ_ _=>rfl
     simp only[W,fK,fO,aK,aJ,bt,dV,cL,bD,bY,cY,ad];have bm:h.length≤p.length:=by omega
     exact .some (.inl ⟨rfl,j - 1,by omega,c+1,l,m,_,_,_,_,_,_,_,_,d,f,rfl,by omega,bm,ax,az,a0,by omega,by omega,by rw[Q,T];exact .drop rk z P ar⟩)
  ·intro y;have y:c=g.length:=by
    have:¬(c:Int)<g.length:=by simpa using y
    omega
   subst y;rw[j9,← bf,j9]at z;exact .some (.inr ⟨by simp,rfl,l,m,d,f,rfl,rfl,L,A,s,t,z⟩)
 ·rintro⟨bu,N,b⟩ ⟨rfl,l,m,d,f,I,K,L,A,s,t,z⟩;simp only at I K L A s t;have H:=jy (n0:=h.length) (n:=2) s (aX _) λB _=>qj _ b 1 B
  have ap:=jy (n0:=h.length) (n:=2) t (aX _) λB _=>wZ _ b 2 B
  simp only[dV,cL,W,bD,bY,I,K,aH];rw[iu (d' :=.bZ [cV h.length b 3 l,cV h.length b 3 m]) (by rfl) (.bZ _ λa7 r=>by
   simp at r;rcases r with rfl|rfl
   ·exact jA H λB _=>rZ _ B
   ·exact jA ap λB _ a7 r=>by
      simp only[cU,gz]at r;subst r;exact .int _ _) L A]
  exact .some ⟨d,f,_,_,rfl,H,ap,z⟩
theorem Cy{d:Type}:∀(a:List d) (x y:d) (b:List d),(a++x::b).set a.length y=a++y::b
 |[],x,y,b=>rfl
 |c::a,x,y,b=>by simp[-Xm,Cy a x y b]
theorem y6{f:Int}:∀{ms:List (Int × Int)},eK ms f=none→∀p∈ms,p.1≠f
 |[],_,p,a=>by simp at a
 | q::r,h,p,a=>by
  unfold eK at h;by_cases b:q.1=f
  ·rw[bE b]at h;cases h
  ·rw[cH b]at h;rcases dW.1 a with rfl|a
   ·exact b
   ·exact y6 h p a
theorem y7{f e:Int}:∀{ms:List (Int × Int)},eK ms f=some e→(f,e)∈ms
 |[],h=>by cases h
 | q::r,h=>by
  unfold eK at h;by_cases a:q.1=f
  ·rw[bE a]at h;injection h with h;rw[← a,← h];exact iy
  ·rw[cH a]at h;exact gy _ (y7 h)
def yp(l:List (Int × Int))(m:Int × Int)(c:List (Int × Int)):Prop:=
 ((eK l m.1).isSome=true∧c=l)∨(eK l m.1=none∧∃a,c=l.take a++m::l.drop a∧(∀b∈l.take a,b.1<m.1)∧∀b∈l.drop a,m.1<b.1)
def mL(b:Int→Option Int)(l:List (Int × Int)):Prop:=l.Pairwise (λc d=>c.1<d.1)∧∀a,a∈l↔b a.1=some a.2
theorem mL.put{c:Int→Option Int}{l r:List (Int × Int)}{m:Int × Int}(h:mL c l)(D:yp l m r):mL (λx=>(c x).or (if m.1=x then some m.2 else none)) r:=by
 obtain⟨k,g⟩:=h;rcases D with⟨d,rfl⟩|⟨d,e,rfl,w,y⟩
 ·obtain⟨f,d⟩:=yn.1 d;have o:=(g _).1 (y7 d);simp only at o;refine⟨k,λa=>?_⟩;rw[g a];show _↔(c a.1).or (if m.1=a.1 then some m.2 else none)=some a.2;by_cases b:m.1=a.1
  ·rw[bE b,← b,o];simp[-Xm]
  ·rw[cH b];simp[-Xm]
 ·have A:c m.1=none:=by
    cases B:c m.1 with
    |none=>rfl
    | some f =>
     have z:(m.1,f)∈l:=(g (m.1,f)).2 B;exact absurd rfl (y6 d (m.1,f) z)
  have q:l.take e++l.drop e=l:=jU e l;refine⟨?_,λa=>?_⟩
  ·have n:=k;rw[← q,jT]at n;obtain⟨s,t,u⟩:=n;rw[jT];refine⟨s,jn.2 ⟨y,t⟩,λj p v i=>?_⟩;rcases dW.1 i with rfl|i
   ·exact w j p
   ·exact u j p v i
  ·have C:a∈l.take e++m::l.drop e↔a=m∨a∈l:=by
     conv=>rhs;rw[← q]
     simp only[eI,dW];constructor
     ·rintro(h|h|h)
      ·exact .inr (.inl h)
      ·exact .inl h
      ·exact .inr (.inr h)
     ·rintro(h|h|h)
      ·exact .inr (.inl h)
      ·exact .inl h
      ·exact .inr (.inr h)
   rw[C,g a];show _↔(c a.1).or (if m.1=a.1 then some m.2 else none)=some a.2;by_cases b:m.1=a.1
   ·rw[bE b,← b,A];simp only[Option.none_or,kU,reduceCtorEq,iS];constructor
    ·rintro rfl;rfl
    ·intro h;exact Prod.ext b.symm h.symm
   ·rw[cH b];simp only[Option.or_none];constructor
    ·rintro(rfl|h)
     ·exact absurd rfl b
     ·exact h
    ·exact .inr
theorem Jv {h:J} {n0:Nat} {l:List (Int × Int)} {d:D} (ap:n0≤h.length) (A:Own h n0 dU 2 (l.map cX) d) (a3:l.length≤10000) (ar:l.Pairwise λa b=>a.1<b.1) (m:Int × Int) :
  ∃n d' h',R tI [d,.agg (cX m)] h=some (d',h')∧Own h' n0 dU 2 (n.map cX) d'∧h.length≤h'.length∧(∀p,p<n0→h'[p]?=h[p]?)∧yp l m n∧n.length≤l.length+1:=by
 suffices Wp (R tI [d,.agg (cX m)] h) (λj=>∃n,Own j.2 n0 dU 2 (n.map cX) j.1∧h.length≤j.2.length∧(∀p,p<n0→j.2[p]?=h[p]?)∧yp l m n∧n.length≤l.length+1) by
  obtain⟨⟨d',h'⟩,w,n,al⟩:=this;exact⟨n,d',h',w,al⟩
 have aj:ga (.agg (cX m))=some (.aI (cX m)):=jj _;have ab:aC tab dU 0 (.aI (cX m))=some (.aI (cX m)):=id rfl;have aa:∀k,aA tab k U (.aI (cX m))=some (.int .i64 m.1):=λk=>id rfl
 have ai:∀k,aA tab k dU (.aI (cX m))=some (.agg (cX m)):=λk=>id rfl
 have ak:=Jw (by omega) m.1 h (Cb A);have an:aT tab eT d=some (.int .i64 (l.length:Nat)):=Ca (Cb A);rw[NU];simp only[Ey,aj,ab,aa,W,ak,jd,iZ,j8];cases H:eK l m.1 with
 | some a1 =>
  simp only[mJ,aK,aJ,bR];exact .some ⟨l,A,aX _,λ_ _=>rfl,.inl ⟨by rw[H];rfl,rfl⟩,by omega⟩
 | none =>
  have ao:bJ tab eT 1 [0] [.agg (cX m)]=some (.sl 2 true [cX m]):=id rfl;simp only[lZ,aK,aP,aL,an,ai,ao,W,aU];refine J7 (ys:=[cX m]) (n0:=n0) ap A (iq _ _ _ _) (by simp;omega) λa0 q ay a5 aw _ _=>?_
  obtain⟨g,K,rfl,x⟩:∃g,n0≤g∧a0 = .aO 2 g 0 (l.length+1)∧q[g]?=some (.row dU 2 ((l++[m]).map cX)):=by
   rcases ay with⟨_,am⟩|⟨g,K,av,x⟩
   ·simp at am
   ·exact⟨g,K,by rw[av];simp[-Xm],by rw[fV];exact x⟩
  have a6:g<q.length:=(bO.1 x).1;refine Wp.loop (λj B k=>∃(e:Nat) (X:Int × Int) (T:D),B=[.int .i64 (e:Nat),T]∧j=e∧e≤l.length∧k[g]?=some (.row dU 2 ((l.take e++X::l.drop e).map cX))∧k.length=q.length∧(∀p,p≠g→k[p]?=q[p]?)∧∀p∈l.drop e,m.1<p.1)
   (λj=>j.1 = .ext 0∧∃(e:Nat) (X:Int × Int),Z 0 j.2.1 = .int .i64 (e:Nat)∧e≤l.length∧j.2.2[g]?=some (.row dU 2 ((l.take e++X::l.drop e).map cX))∧j.2.2.length=q.length∧(∀p,p≠g→j.2.2[p]?=q[p]?)∧(∀p∈l.drop e,m.1<p.1)∧∀p∈l.take e,p.1<m.1) l.length
   ⟨l.length,m,_,rfl,rfl,aX _,by rw[j9,pO];exact x,rfl,λ_ _=>rfl,λp f=>by rw[pO]at f;simp at f⟩ ?_ ?_
  ·rintro j B k ⟨e,X,T,rfl,rfl,I,o,t,r,s⟩;have aq:=y6 H;simp only[Ez,bD,bY,W,cZ,aU];by_cases ad:j=0
   ·subst ad;have F:¬(((0:Nat):Int)>0):=by omega
    simp only[F,bG,bL,aP,aL,W,bI,aK];exact .some (.inr ⟨by simp,rfl,0,X,rfl,I,o,t,r,s,λp f=>by simp at f⟩)
   ·obtain⟨c,rfl⟩:∃c,j=c+1:=⟨j - 1,by omega⟩
    have F:(((c+1:Nat):Int)>0):=by omega
    have az:IntKind.wrap .i64 (((c+1:Nat):Int) - 1)=((c:Nat):Int):=by rw[cN (by omega) (by omega)];omega
    obtain⟨i,N⟩:∃i,l[c]?=some i:=⟨_,cJ (by omega)⟩
    have M:l.take (c+1)=l.take c++[i]:=by rw[gA,N];rfl
    have G:l.drop c=i::l.drop (c+1):=by
     rw[ia (by omega)];congr 1;exact(bO.1 N).2
    have y:(l.take c).length=c:=by rw[lV];omega
    have ae:(l.take (c+1)).length=c+1:=by rw[lV];omega
    have af:k.row g c=some (cX i):=by
     rw[dT o,dH,M,jR,hV (by omega),y];simp[-Xm]
    have L:((l.take (c+1)++X::l.drop (c+1)).map cX)[c+1]?=some (cX X):=by
     rw[dH,hV (by omega),ae];simp[-Xm]
    have ag:aQ tab eT (.aO 2 g 0 (l.length+1)) (.int .i64 ((c:Nat):Int))=some (.ptr g c 0):=by rw[tR,bE ⟨by omega,by omega⟩,dY,dF]
    have z:aQ tab eT (.aO 2 g 0 (l.length+1)) (.int .i64 ((c+1:Nat):Int))=some (.ptr g (c+1) 0):=by rw[tR,bE ⟨by omega,by omega⟩,dY,dF]
    have ax:aA tab k U (.ptr g c (0+0))=some (.int .i64 i.1):=by rw[fB,af];rfl
    have ah:aA tab k dU (.ptr g c 0)=some (.agg (cX i)):=by rw[Bz,af];rfl
    simp only[F,bK,bL,aJ,W,eH,az,ag,z,GD,ax,ah,ab,aa,cZ,bI];by_cases P:i.1>m.1
    ·simp only[P,bK,aK,aJ,W,aU,ag,z,ah];refine J9 (kk:=c+1) (off:=0) (row:=cX X) (v :=.agg (cX i)) o L (by rfl) (by exact aX _) (by rfl) λE Q u=>?_
     refine .some (.inl ⟨rfl,c,by omega,c,i,_,rfl,rfl,by omega,?_,u.1.trans t,λp f=>(u.2 p f).trans (r p f),λp f=>?_⟩)
     ·have C:((l.take (c+1)++X::l.drop (c+1)).map cX).set (c+1) (dQ (cX X) 0 (cP (.agg (cX i))))=(l.take c++i::l.drop c).map cX:=by
        have:dQ (cX X) 0 (cP (.agg (cX i)))=cX i:=rfl;rw[this,← kQ];congr 1;have:=Cy (l.take (c+1)) X i (l.drop (c+1));rw[ae]at this;rw[this,M,G];simp[-Xm]
      rw[← C];exact Q
     ·rw[G]at f;rcases dW.1 f with rfl|f
      ·exact P
      ·exact s p f
    ·simp only[P,bG,aK,aP,aL];refine .some (.inr ⟨by simp,rfl,c+1,X,rfl,I,o,t,r,s,λp f=>?_⟩);have a4:=aq i (eS N);rw[M]at f;rcases eI.1 f with f|f
     ·have ac:=ar;rw[← jU c l,jT]at ac;have:=ac.2.2 p f i (by rw[G];exact iy);omega
     ·rw[gz.1 f];omega
  ·rintro⟨a2,B,k⟩ ⟨rfl,e,X,w,I,o,t,r,s,au⟩;simp only at w o t r;have y:(l.take e).length=e:=by rw[lV];omega
   have ad:(0:Int)≤(e:Int):=by omega
   have z:aQ tab eT (.aO 2 g 0 (l.length+1)) (.int .i64 ((e:Nat):Int))=some (.ptr g e 0):=by rw[tR,bE ⟨by omega,by omega⟩,dY,dF]
   have L:((l.take e++X::l.drop e).map cX)[e]?=some (cX X):=by
    rw[dH,hV (by omega),y];simp[-Xm]
   simp only[dV,cL,W,bD,w,ai,z,aU];refine J9 (kk:=e) (off:=0) (row:=cX X) (v :=.agg (cX m)) o L (by rfl) (by exact aX _) (by rfl) λE Q u=>?_
   simp only[W,bR];refine .some ⟨l.take e++m::l.drop e,.inr ⟨g,K,by simp;omega,?_⟩,by have:=u.1;show h.length≤E.length;omega,λp f=>?_,.inr ⟨H,e,rfl,au,s⟩,by simp;omega⟩
   ·have C:((l.take e++X::l.drop e).map cX).set e (dQ (cX X) 0 (cP (.agg (cX m))))=(l.take e++m::l.drop e).map cX:=by
      have:dQ (cX X) 0 (cP (.agg (cX m)))=cX m:=rfl;rw[this,← kQ];congr 1;have:=Cy (l.take e) X m (l.drop e);rw[y]at this;exact this
    rw[← C];exact Q
   ·show E[p]?=h[p]?;rw[u.2 p (by omega),r p (by omega),aw p f]
theorem wB(f:Int):∀(xs:List RI) (a:Option Int),xs.foldl (λa z=>if z.a1=f then some z.a3 else a) a=(dX f xs).or a
 |[],a=>rfl
 | z::xs,a=>by
  have e:dX f (z::xs)=xs.foldl (λa z=>if z.a1=f then some z.a3 else a) (if z.a1=f then some z.a3 else none):=rfl;rw[qV,wB f xs,e,wB f xs];by_cases b:z.a1=f
  ·rw[bE b,bE b];cases dX f xs<;>rfl
  ·rw[cH b,cH b,Option.or_none]
theorem RP(f:Int)(z:RI)(xs:List RI):dX f (z::xs)=(dX f xs).or (if z.a1=f then some z.a3 else none):=wB f xs _
theorem GN(f:Int)(m:Int × Int):∀(ms:List (Int × Int)),eK (ms++[m]) f=(eK ms f).or (if m.1=f then some m.2 else none)
 |[]=>rfl
 | q::r=>by
  show(if q.1=f then some q.2 else eK (r++[m]) f)=(if q.1=f then some q.2 else eK r f).or _;by_cases h:q.1=f
  ·rw[bE h,bE h];rfl
  ·rw[cH h,cH h];exact GN f m r
theorem Jt{b:List It}{ms:List (Int × Int)}{w v:D}(K:aR 11 aE b w)(L:aR 2 cX ms v)(ak:b.length≤1000)(ai:ms.length≤1000)(h:J):
  ∃a d',R qe [w,v] h=some (d',h)∧aR 2 cX a d'∧mL (λx=>(dX x (b.map aY)).or (eK ms x)) a∧a.length≤b.length+ms.length:=by
 suffices Wp (R qe [w,v] h) (λc=>∃a d',c=(d',h)∧aR 2 cX a d'∧mL (λx=>(dX x (b.map aY)).or (eK ms x)) a∧a.length≤b.length+ms.length) by
  obtain⟨c,r,a,d',rfl,Q⟩:=this;exact⟨a,d',r,Q⟩
 have aa:aT tab aV w=some (.int .i64 (b.length:Nat)):=jh K;have ab:aT tab eT v=some (.int .i64 (ms.length:Nat)):=tW L;have ah:IntKind.wrap .i64 ((b.length:Int) - 1)=(b.length:Int) - 1:=cN (by omega) (by omega);rw[NR];simp only[Eo,aa,W,eH,ah,aU];refine Wp.loop (λc q f=>∃(n:Nat) (x s:D) (a:List (Int × Int)),q=[x,.int .i64 ((n:Int) - 1),s]∧c=n∧n≤b.length∧h.length≤f.length∧(∀d,d<h.length→f[d]?=h[d]?)∧Own f h.length dU 2 (a.map cX) x∧mL (λx=>dX x ((b.drop n).map aY)) a∧a.length+n≤b.length)
  (λc=>c.1 = .ext 0∧∃(x:D) (a:List (Int × Int)),Z 0 c.2.1=x∧h.length≤c.2.2.length∧(∀d,d<h.length→c.2.2[d]?=h[d]?)∧Own c.2.2 h.length dU 2 (a.map cX) x∧mL (λx=>dX x (b.map aY)) a∧a.length≤b.length) b.length
  ⟨b.length,.aB,_,[],rfl,rfl,aX _,aX _,λ_ _=>rfl,.aB _ _ _ _,⟨.nil,λd=>by rw[pO];simp[-Xm,dX]⟩,by simp⟩ ?_ ?_
 ·rintro c q f ⟨n,x,s,a,rfl,rfl,aj,l,m,o,j,u⟩;simp only[Ep,bD,bY,W,ju,aU];refine Wp.dS ?_ ?_
  ·intro i;have i:0<c:=by
    have:(c:Int) - 1≥0:=by simpa using i
    omega
   obtain⟨e,rfl⟩:∃e,c=e+1:=⟨c - 1,by omega⟩
   obtain⟨k,t⟩:∃k,b[e]?=some k:=⟨_,cJ (by omega)⟩
   have ad:(((e+1:Nat):Int) - 1)=((e:Nat):Int):=by omega
   have ac:(0:Int)≤(e:Nat):=by omega
   have G:IntKind.wrap .i64 ((e:Int) - 1)=(e:Int) - 1:=cN (by omega) (by omega);have T:b.drop e=k::b.drop (e+1):=by
    rw[ia (by omega)];congr 1;exact(bO.1 t).2
   have M:eX tab dU [0,1] [.int .i64 k.e.a1,.int .i64 k.e.a3]=some (.agg (cX (k.e.a1,k.e.a3))):=id rfl;obtain⟨E,H,P,A,F,C,B,p,ae⟩:=Jv l o (by omega) j.1 (k.e.a1,k.e.a3);simp only[ad,k8 K,ac,aJ,dY,t,fW,W,kl,nS,Gt,r0,qo,M,A,eH,G];refine .some (.inl ⟨rfl,e,by omega,e,H,_,E,rfl,rfl,by omega,hX l C,λd p=>(B d p).trans (m d p),F,?_,by omega⟩);have z:(λx=>dX x ((b.drop e).map aY))=λx=>(dX x ((b.drop (e+1)).map aY)).or (if(k.e.a1,k.e.a3).1=x then some (k.e.a1,k.e.a3).2 else none):=by
    funext x;rw[T,gO,RP];rfl
   rw[z];exact j.put p
  ·intro i;have i:c=0:=by
    have:¬(c:Int) - 1≥0:=by simpa using i
    omega
   subst i;rw[gx]at j;exact .some (.inr ⟨by simp,rfl,x,a,rfl,l,m,o,j,by omega⟩)
 ·rintro⟨N,q,f⟩ ⟨rfl,x,a,r,l,m,o,j,u⟩;simp only at r l m o;simp only[dV,cL,W,bD,r,aU];refine Wp.loop (λc q f=>∃(g:Nat) (x s:D) (a:List (Int × Int)),q=[x,.int .i64 (g:Nat),s]∧c+g=ms.length∧h.length≤f.length∧(∀d,d<h.length→f[d]?=h[d]?)∧Own f h.length dU 2 (a.map cX) x∧mL (λx=>(dX x (b.map aY)).or (eK (ms.take g) x)) a∧a.length≤b.length+g)
   (λc=>c.1 = .ext 2∧∃(x:D) (a:List (Int × Int)),Z 0 c.2.1=x∧h.length≤c.2.2.length∧(∀d,d<h.length→c.2.2[d]?=h[d]?)∧Own c.2.2 h.length dU 2 (a.map cX) x∧mL (λx=>(dX x (b.map aY)).or (eK ms x)) a∧a.length≤b.length+ms.length) ms.length
   ⟨0,x,_,a,rfl,by omega,l,m,o,⟨j.1,λd=>by rw[j.2 d,List.take_zero];simp[-Xm,eK]⟩,by omega⟩ ?_ ?_
  ·rintro c q f ⟨g,x,s,a,rfl,al,l,m,o,j,u⟩;simp only[Er,bD,bY,ab,W,cI,aU];refine Wp.dS ?_ ?_
   ·intro i;have i:g<ms.length:=gS i;have X:(0:Int)≤(g:Int):=by omega
    obtain⟨e,t⟩:=iR i;have G:=fD g (by omega);have af:ms.take (g+1)=ms.take g++[e]:=by rw[gA,t];rfl
    have ag:∀f,aA tab f dU (.aI (cX e))=some (.agg (cX e)):=λf=>id rfl
    obtain⟨E,H,P,A,F,C,B,p,ae⟩:=Jv l o (by omega) j.1 e;simp only[tS L,X,aJ,dY,t,fW,W,ag,A,cY,G];refine .some (.inl ⟨rfl,c - 1,by omega,g+1,H,_,E,rfl,by omega,hX l C,λd p=>(B d p).trans (m d p),F,?_,by omega⟩);have z:(λx=>(dX x (b.map aY)).or (eK (ms.take (g+1)) x))=λx=>((dX x (b.map aY)).or (eK (ms.take g) x)).or (if e.1=x then some e.2 else none):=by
     funext x;rw[af,GN,Option.or_assoc]
    rw[z];exact j.put p
   ·intro i;have i:g=ms.length:=by
     have:¬(g:Int)<ms.length:=by simpa using i
     omega
    subst i;rw[j9]at j;exact .some (.inr ⟨by simp,rfl,x,a,rfl,l,m,o,j,u⟩)
  ·rintro⟨N,q,f⟩ ⟨rfl,x,a,r,l,m,o,j,u⟩;simp only at r l m o;have I:=jy (n0:=h.length) (n:=3) o (aX _) λy _=>Io _ f 3 y
   simp only[dV,cL,W,bD,r,bR];rw[iu (d':=cV h.length f 4 x) (by rfl) (jA I λy _=>Ip _ y) l m];exact .some ⟨a,_,rfl,I,j,u⟩
theorem Gp:∀(ms:List (Int × Int)),((ms.map cX).reverse.foldl (uF 0 1) λ_=>none)=λx=>eK ms x
 |[]=>rfl
 | p::r=>by
  rw[gO,List.reverse_cons,List.foldl_append,Gp r];funext x;show(if x=p.1 then some p.2 else eK r x)=if p.1=x then some p.2 else eK r x
  by_cases h:x=p.1
  ·rw[bE h,bE h.symm]
  ·rw[cH h,cH λa=>h a.symm]
theorem Od(a:List It)(ms:List (Int × Int)):oO (ms.map cX) (a.map aE)=λx=>(dX x (a.map aY)).or (eK ms x):=by
 unfold oO;rw[Gp,Gn];funext x;exact wB x _ _
theorem U3{b:List It}{ms f:List (Int × Int)}{k j:D}(q:l4 b)(s:aR 11 aE b k)(z:b.length≤1000)(t:aR 2 cX ms j)(A:ms.length≤1000)(o:∀m∈ms,dZ m.1∧dZ m.2)(p:mL (λx=>(dX x (b.map aY)).or (eK ms x)) f)(h:J):∃i,R1 rM [k,j] h=some (i,h)∧aR 2 cX f i:=by
 have u:lA (oO (ms.map cX) (b.map aE)) f:=by
  rw[Od];refine⟨λc=>?_,p.1⟩;rw[p.2 c];constructor
  ·intro a;refine⟨?_,a⟩;cases n:dX c.1 (b.map aY)with
   | some y =>
    obtain⟨B,v,l,_⟩:=Hz n;obtain⟨e,d,rfl⟩:=e8.1 v;have:=(q.dr e d).pos.2;have l:e.e.a1=c.1:=l;exact⟨by omega,by omega⟩
   | none =>
    have a:(dX c.1 (b.map aY)).or (eK ms c.1)=some c.2:=a;rw[n,Option.none_or]at a;exact(o _ (y7 a)).1
  ·exact λa=>a.2
 refine⟨_,?_,Vq f⟩;rw[WE];refine LW (JJ s) (JJ t) (by rw[eQ];omega) (by rw[eQ];omega) (λw g=>?_) (λw g=>?_) u h
 ·obtain⟨e,d,rfl⟩:=e8.1 g;exact(q.dr e d).pj
 ·obtain⟨m,d,rfl⟩:=e8.1 g;obtain⟨a,r⟩:=o m d;exact⟨m.1,m.2,rfl,a,rfl,r⟩
def ki(a:List It)(ps:List Nat)(i:Nat):Nat→Bool
 |0=>true
 |k+1=>ki a ps i k&&(decide (k∈ps) || !decide (dR a k=dR a i))
theorem G3(b:List It)(ps:List Nat)(i:Nat):∀k,ki b ps i k=true↔∀m,m<k→dR b m=dR b i→m∈ps
 |0=>⟨λ_ m d=>by omega,λ_=>rfl⟩
 | k+1=>by
  unfold ki;rw[eO,G3 b ps i k];simp only[nG,p6,lr,yR];constructor
  ·rintro⟨c,h2⟩ m d a;rcases fm m k with h|h
   ·exact c m h a
   ·have:m=k:=by omega
    subst this;rcases h2 with h2|h2
    ·exact h2
    ·exact absurd a h2
  ·intro c;refine⟨λm d a=>c m (by omega) a,?_⟩;by_cases a:dR b k=dR b i
   ·exact .inl (c k (by omega) a)
   ·exact .inr a
def nH(b:List It)(d:List Int)(ps:List Nat)(i:Nat)(z:Int):Prop:=
 (z = -1∧∀a,a<i→¬fI b.length (dR b) ps a)∨∃c:Nat,z=(c:Nat)∧c<i∧fI b.length (dR b) ps c∧∀a,a<i→fI b.length (dR b) ps a→¬eF (fJ d) a c
theorem nH.skip{e:List It}{f:List Int}{ps:List Nat}{i:Nat}{z:Int}(h:nH e f ps i z)(a:¬fI e.length (dR e) ps i∨∃b:Nat,z=(b:Nat)∧¬fJ f i>fJ f b):nH e f ps (i+1) z:=by
 rcases h with⟨g,j⟩|⟨b,g,j,l,m⟩
 ·refine .inl ⟨g,λc n d=>?_⟩;rcases fm c i with h|h
  ·exact j c h d
  ·have:c=i:=by omega
   subst this;rcases a with a|⟨b,o,_⟩
   ·exact a d
   ·omega
 ·refine .inr ⟨b,g,by omega,l,λc n d=>?_⟩;rcases fm c i with h|h
  ·exact m c h d
  ·have:c=i:=by omega
   subst this;rcases a with a|⟨k,p,a⟩
   ·exact absurd d a
   ·have:k=b:=by omega
    subst this;unfold eF;omega
theorem nH.take{c:List It}{d:List Int}{ps:List Nat}{i:Nat}{z:Int}(h:nH c d ps i z)(o:fI c.length (dR c) ps i)(f:z = -1∨∃b:Nat,z=(b:Nat)∧fJ d i>fJ d b):nH c d ps (i+1) (i:Nat):=by
 refine .inr ⟨i,rfl,by omega,o,λa r j=>?_⟩;rcases fm a i with e|e
 ·rcases h with⟨l,g⟩|⟨b,l,g,p,m⟩
  ·exact absurd j (g a e)
  ·have n:=m a e j;rcases f with f|⟨k,q,f⟩
   ·omega
   ·have:k=b:=by omega
    subst this;unfold eF at n ⊢;omega
 ·have:a=i:=by omega
  subst this;unfold eF;omega
def iU(n:Nat)(ps:List Nat):List (List D):=(List.range n).map λa=>[.bool (decide (a∈ps))]
theorem xk{n:Nat}{ps:List Nat}{k:Nat}(a:k<n):(iU n ps)[k]?=some [.bool (decide (k∈ps))]:=by
 unfold iU;rw[dH,List.getElem?_range a];rfl
theorem Wb{n:Nat}{ps:List Nat}{b:Nat}:(iU n ps).set b [.bool true]=iU n (ps++[b]):=by
 apply u3;intro c;rw[List.getElem?_set];by_cases d:c<n
 ·rw[xk d,xk d];by_cases a:b=c
  ·subst a;have:b<(iU n ps).length:=by unfold iU;simpa using d
   simp[-Xm,this]
  ·have h:¬c=b:=λe=>a e.symm
   simp[-Xm,a,h]
 ·have f:(iU n ps)[c]?=none:=mH (by unfold iU;simp[-Xm];omega);have g:(iU n (ps++[b]))[c]?=none:=mH (by unfold iU;simp[-Xm];omega);rw[f,g];split
  ·rename_i a;subst a;have:¬b<(iU n ps).length:=by unfold iU;simp[-Xm];omega
   simp[-Xm,this]
  ·rfl
theorem Wc(n:Nat):List.replicate n [D.bool false]=iU n []:=by
 unfold iU;apply u3;intro b;rw[List.getElem?_replicate,dH];by_cases a:b<n
 ·rw[bE a,List.getElem?_range a];simp[-Xm]
 ·rw[cH a,mH (by simp;omega)];rfl
theorem Bt{g:J}{o n:Nat}{ps:List Nat}(a:g[o]?=some (.row iW 1 (iU n ps))){k:Nat}(b:k<n):aQ tab qI (.aO 1 o 0 n) (.int .i64 (k:Nat))=some (.ptr o k 0)∧aA tab g iW (.ptr o k 0)=some (.bool (decide (k∈ps))):=by
 constructor
 ·rw[Ru,bE ⟨by omega,by omega⟩,dY,dF]
 ·rw[RZ,dT a,xk b];rfl
theorem y9{b:List It}{a:D}(c:aR 11 aE b a){k:Nat}{x:It}(d:b[k]?=some x):aQ tab aV a (.int .i64 (k:Nat))=some (.aI (aE x)):=by
 rw[k8 c,bE (by omega),dY,d];rfl
theorem TM{c:List It}{r:D}(v:aR 11 aE c r)(I:c.length≤1000){ps:List Nat}{g:J}{o i:Nat}(H:g[o]?=some (.row iW 1 (iU c.length ps)))(hi:i<c.length){t:List D}(G:Z 1 t = .int .i64 (i:Nat))(d:Bool)(a:D){C:Type}{p:bN→Option C}{Q:C→Prop}
  (k:∀y,Wp (p (.ext 4,[.bool (d&&ki c ps i i),.int .i64 (i:Nat),y],g)) Q):Wp ((cA (x9 r (.aO 1 o 0 c.length) t) [.bool d,.int .i64 0,a] g).bind p) Q:=by
 obtain⟨B,w⟩:=iR hi;refine Wp.loop (λe s u=>u=g∧∃(b:Nat) (q:D),s=[.bool (d&&ki c ps i b),.int .i64 (b:Nat),q]∧e+b=i)
  (λe=>∃y,e=(.ext 4,[.bool (d&&ki c ps i i),.int .i64 (i:Nat),y],g)) i ⟨rfl,0,_,by simp[-Xm,ki];rfl,by omega⟩ ?_ ?_
 ·rintro e s u ⟨rfl,b,q,rfl,K⟩;simp only[x9,bD,bY,G,W,cI,aU];refine Wp.dS ?_ ?_
  ·intro f;have f:b<i:=by
    have:(b:Int)<(i:Nat):=by simpa using f
    omega
   obtain⟨y,x⟩:∃y,c[b]?=some y:=⟨_,cJ (by omega)⟩
   obtain⟨z,A⟩:=Bt H (k:=b) (by omega);have n:=fD b (by omega);have j:(d&&ki c ps i (b+1))=((d&&ki c ps i b)&&(decide (b∈ps) || !decide (dR c b=dR c i))):=by simp[-Xm,ki,Bool.and_assoc]
   have F:dR c b=y.e.a1:=vF x;have E:dR c i=B.e.a1:=vF w;cases m:(d&&ki c ps i b)with
   | false =>
    simp only[bL,aP,aL,W,bI,cY,n];exact .some (.inl ⟨rfl,e - 1,by omega,rfl,b+1,_,by rw[j,m,lS],by omega⟩)
   | true =>
    by_cases h:b∈ps
    ·simp only[bL,aJ,W,z,A,h,bK,eR,aL,bI,cY,n];have l:(d&&ki c ps i (b+1))=true:=by rw[j,m];simp[-Xm,h]
     exact .some (.inl ⟨rfl,e - 1,by omega,rfl,b+1,_,by rw[l],by omega⟩)
    ·simp only[bL,aJ,W,z,A,h,bG,aP,aL,y9 v x,y9 v w,kl,nS,qo,dE,bI,cY,n];have l:(d&&ki c ps i (b+1))=decide (y.e.a1≠B.e.a1):=by rw[j,m,F,E];simp[-Xm,h]
     exact .some (.inl ⟨rfl,e - 1,by omega,rfl,b+1,_,by rw[l],by omega⟩)
  ·intro f;have f:b=i:=by
    have:¬(b:Int)<(i:Nat):=by simpa using f
    omega
   subst f;exact .some (.inr ⟨by simp,_,rfl⟩)
 ·rintro e ⟨y,rfl⟩;exact k y
theorem TL {b:List It} {e:List Int} {w t:D} (G:aR 11 aE b w) (L:aR 1 cU e t) (ae:b.length≤1000) (ap:e.length=b.length) {ps:List Nat} {g:J} {o:Nat} (I:g[o]?=some (.row iW 1 (iU b.length ps))) (n p q r s:D) {R:Type} {A:bN→Option R} {Q:R→Prop}
  (k:∀z ds,nH b e ps b.length z→Z 0 ds = .int .i64 z→Wp (A (.ext 2,ds,g)) Q):Wp ((cA (x8 w t (.aO 1 o 0 b.length)) [.int .i64 (-1),.int .i64 0,n,p,q,r,s] g).bind A) Q:=by
 have ac:aT tab aV w=some (.int .i64 (b.length:Nat)):=jh G;refine Wp.loop (λc ds l=>l=g∧∃(a:Nat) (z:Int) (n p q r s:D),ds=[.int .i64 z,.int .i64 (a:Nat),n,p,q,r,s]∧c+a=b.length∧nH b e ps a z)
  (λc=>c.1 = .ext 2∧c.2.2=g∧∃z,nH b e ps b.length z∧Z 0 c.2.1 = .int .i64 z) b.length ⟨rfl,0, -1,_,_,_,_,_,rfl,by omega,.inl ⟨rfl,λa an=>by omega⟩⟩ ?_ ?_
 ·rintro c ds l ⟨rfl,a,z,n,p,q,r,s,rfl,ao,f⟩;simp only[x8,bD,bY,ac,W,cI,aU];refine Wp.dS ?_ ?_
  ·intro d;have d:a<b.length:=by
    have:(a:Int)<(b.length:Nat):=by simpa using d
    omega
   have ab:(0:Int)≤(a:Int):=by omega
   obtain⟨af,ai⟩:=Bt I (k:=a) d;have v:=fD a (by omega);obtain⟨j,N⟩:∃j,e[a]?=some j:=⟨_,cJ (by omega)⟩
   have C:fJ e a=j:=by unfold fJ;rw[N];rfl
   simp only[af,ai,W,fK];refine TM G ae I d rfl _ _ λaq=>?_
   have K:((!decide (a∈ps))&&ki b ps a a)=true↔fI b.length (dR b) ps a:=by
    rw[eO,G3];simp only[lr,yR];exact⟨λm=>⟨d,m.1,m.2⟩,λm=>⟨m.2.1,m.2.2⟩⟩
   simp only[dV,cL,W,bD,bY];cases x:((!decide (a∈ps))&&ki b ps a a)with
   | false =>
    have ad:¬fI b.length (dR b) ps a:=λaa=>by rw[K.2 aa]at x;cases x
    simp only[bL,aP,aL,W,bI,aK,gV,cL,bD,cY,v];exact .some (.inl ⟨rfl,c - 1,by omega,rfl,a+1,z,_,_,_,_,_,rfl,by omega,f.skip (.inl ad)⟩)
   | true =>
    have H:=K.1 x;have ah:aQ tab aW t (.int .i64 (a:Nat))=some (.aI (cU j)):=by rw[me L,bE ab,dY,N];rfl
    have ak:aA tab l U (.aI (cU j))=some (.int .i64 j):=id rfl;have T:=f;rcases T with⟨rfl,_⟩|⟨h,rfl,am,_⟩
    ·have y:((-1:Int)<0):=by decide
     simp only[bL,aJ,W,cI,y,bK,eR,aL,bI,aK,gV,cL,bD,bY,cY,v];exact .some (.inl ⟨rfl,c - 1,by omega,rfl,a+1,_,_,_,_,_,_,rfl,by omega,f.take H (.inl rfl)⟩)
    ·have y:¬(((h:Nat):Int)<0):=by omega
     have X:(0:Int)≤(h:Nat):=by omega
     obtain⟨i,M⟩:∃i,e[h]?=some i:=⟨_,cJ (by omega)⟩
     have B:fJ e h=i:=by unfold fJ;rw[M];rfl
     have ag:aQ tab aW t (.int .i64 (h:Nat))=some (.aI (cU i)):=by rw[me L,bE X,dY,M];rfl
     have aj:aA tab l U (.aI (cU i))=some (.int .i64 i):=id rfl;simp only[bL,aJ,W,cI,y,bG,aP,aL,ah,ak,ag,aj,cZ,bI];by_cases u:j>i
     ·simp only[u,bK,aK,aJ,W,gV,cL,bD,bY,cY,v];exact .some (.inl ⟨rfl,c - 1,by omega,rfl,a+1,_,_,_,_,_,_,rfl,by omega,f.take H (.inr ⟨h,rfl,by rw[C,B];exact u⟩)⟩)
     ·simp only[u,bG,aK,aP,aL,W,gV,cL,bD,bY,cY,v];exact .some (.inl ⟨rfl,c - 1,by omega,rfl,a+1,_,_,_,_,_,_,rfl,by omega,f.skip (.inr ⟨h,rfl,by rw[C,B];exact u⟩)⟩)
  ·intro d;have d:a=b.length:=by
    have:¬(a:Int)<(b.length:Nat):=by simpa using d
    omega
   subst d;exact .some (.inr ⟨by simp,rfl,rfl,z,f,rfl⟩)
 ·rintro⟨al,ds,l⟩ ⟨E,F,z,f,P⟩;simp only at E F P;subst E;subst F;exact k z ds f P
theorem TA(h:J)(n:Nat)(b:n≤1000):p4 tab h qI (.int .i64 n) (.int .i64 n)=some (.aO 1 h.length 0 n,aZ h iW 1 (iU n [])):=by
 have a:lim ((n:Int)).toNat oh.gI=true:=by rw[dY];exact lK (by have:oh.gI=1:=rfl;rw[this];omega) (by omega)
 show(if 0≤(n:Int)∧(n:Int)≤n∧lim (n:Int).toNat oh.gI=true∧0<oh.Y then some (D.aO oh.Y h.length 0 (n:Int).toNat,aZ h iW oh.Y (List.replicate (n:Int).toNat oh.zero))else none)=_;rw[bE ⟨by omega,by omega,a,by decide⟩,dY,← Wc];rfl
theorem Vb{a:List It}{k:List Int}{q w:D}(z:aR 11 aE a q)(ap:aR 1 cU k w)(ah:a.length≤1000)(aq:k.length=a.length)(m:Int)(h:J):
  ∃d',R rP [q,w,.int .i64 m] h=some (d',h)∧aR 11 aE (pk a (jZ a.length (dR a) (fJ k) m.toNat)) d':=by
 suffices Wp (R rP [q,w,.int .i64 m] h) (λd=>∃d',d=(d',h)∧aR 11 aE (pk a (jZ a.length (dR a) (fJ k) m.toNat)) d') by
  obtain⟨d,s,d',rfl,o⟩:=this;exact⟨d',s,o⟩
 have t:aT tab aV q=some (.int .i64 (a.length:Nat)):=jh z;rw[NQ];simp only[Em,t,W,TA h _ ah,aU];refine Wp.loop (λd r f=>∃(e L M N P Q T X aa:D) (b:List Nat),r=[e,L,M,N,P,Q,T,X,aa]∧fw a.length (dR a) (fJ k) b∧d+b.length=a.length∧b.length≤m.toNat∧h.length+1≤f.length∧(∀c,c<h.length→f[c]?=h[c]?) ∧
   f[h.length]?=some (.row iW 1 (iU a.length b))∧Own f (h.length+1) aF 11 ((pk a b).map aE) e)
  (λd=>d.1 = .ext 0∧∃(e:D) (b:List Nat),Z 0 d.2.1=e∧fw a.length (dR a) (fJ k) b∧b.length=min m.toNat a.length∧h.length≤d.2.2.length∧(∀c,c<h.length→d.2.2[c]?=h[c]?)∧Own d.2.2 (h.length+1) aF 11 ((pk a b).map aE) e) a.length
  ⟨.aB,_,_,_,_,_,_,_,_,[],rfl,.nil,by simp,by simp,by rw[hN];exact aX _,λc E=>gQ _ _ _ _ E,hZ _ _ _ _,.aB _ _ _ _⟩ ?_ ?_
 ·rintro d r f ⟨e,L,M,N,P,Q,T,X,aa,b,rfl,i,a3,a2,H,l,A,j⟩;have F:(pk a b).length=b.length:=um i.mem;have B:aT tab aV e=some (.int .i64 (b.length:Nat)):=by
   have:=wD j;rw[eQ,F]at this;exact this
  simp only[En,bD,bY,B,t,W,cI,aU];by_cases C:((b.length:Nat):Int)<m
  case neg =>
   simp only[C,bG,bL,aP,aL,W,bI,aK];exact .some (.inr ⟨by simp,rfl,e,b,rfl,i,by omega,by show h.length≤f.length;omega,l,j⟩)
  by_cases ag:((b.length:Nat):Int)<(a.length:Nat)
  case neg =>
   simp only[C,bK,bL,aJ,W,B,t,cI,ag,bG,aP,aL,bI,aK];exact .some (.inr ⟨by simp,rfl,e,b,rfl,i,by omega,by show h.length≤f.length;omega,l,j⟩)
  simp only[C,bK,bL,aJ,W,B,t,cI,ag,bI,aK,aU];refine TL z ap ah aq A _ _ _ _ _ λa0 r aj ar=>?_
  obtain⟨au,ae⟩:=yu (fl:=dR a) i.nodup i.mem (by omega);obtain⟨g,rfl,y,al,am⟩:∃g:Nat,a0=(g:Nat)∧g<a.length∧fI a.length (dR a) b g∧∀p,p<a.length→fI a.length (dR a) b p→¬eF (fJ k) p g:=by
   rcases aj with⟨_,o⟩|o
   ·exact absurd ae (o au ae.1)
   ·exact o
  obtain⟨G,ad⟩:=iR y;obtain⟨av,_⟩:=Bt A y;have an:bJ tab aV 1 [0] [.agg (aE G)]=some (.sl 11 true [aE G]):=id rfl;simp only[dV,cL,W,bD,bY,ar,av,aU];refine WD (kk:=g) (off:=0) (row:=[.bool (decide (g∈b))]) (v :=.bool true) A (xk y) (by rfl) (by exact aX _) (by rfl) λac I K=>?_
  have I:ac[h.length]?=some (.row iW 1 (iU a.length (b++[g]))):=by
   rw[← Wb];exact I
  have ay:Own ac (h.length+1) aF 11 ((pk a b).map aE) e:=j.same K (ve _);have a4:=K.1;simp only[W,y9 z ad,lf,an,aU];refine nD (ys:=[aE G]) (n0:=h.length+1) (by omega) ay (iq _ _ _ _) (by simp;omega) λaz x ax a5 ai _ _=>?_
  have ao:=fw.snoc i al λp af=>am p af.1 af
  simp only[W];refine .some (.inl ⟨rfl,d - 1,by omega,az,_,_,_,_,_,_,_,_,b++[g],rfl,ao,by simp;omega,by simp;omega,by show h.length+1≤x.length;omega,λc E=>?_,?_,?_⟩)
  ·show x[c]?=h[c]?;rw[ai c (by omega),K.2 c (by omega),l c E]
  ·show x[h.length]?=_;rw[ai h.length (by omega)];exact I
  ·rw[II ad,fV];exact ax
 ·rintro⟨a1,r,f⟩ ⟨rfl,e,b,s,i,F,H,l,j⟩;simp only at s H l j;have ak:=yw i F;subst ak;have ab:=jy (n0:=h.length) (n:=3) j (by omega) λu _=>qj _ f 2 u
  simp only[dV,cL,W,bD,s,bR];rw[iu (d':=cV h.length f 4 e) (by rfl) (jA ab λu _=>rZ _ u) H l];exact .some ⟨_,rfl,ab⟩
theorem FK{fn:FuncId}{h:J}{n0:Nat}{x a:D}{c:List It}{m:List Int}{k:Int}{b:Bool}(l:Own h n0 aF 11 (c.map aE) x)(j:aR 1 cU m a)(i:∀(d:D) (h:J),aR 11 aE c d→R1 fn [d,a,.int .i64 k] h=some (.bool b,h)):kb R1 fn [x,a,.int .i64 k] h=some (.bool b,h):=by
 have f:snap h 3 a=a:=by rcases j with⟨rfl,_⟩|⟨n,rfl⟩<;>rfl
 have g:snap h 3 (.int .i64 k) = .int .i64 k:=rfl;unfold kb;rw[gO,gO,gO,pQ,f,g,i _ _ (Vv l λe _=>Ro _ _ e)];rfl
theorem Vr(l:List It):aR 11 aE l (lQ 11 (l.map aE)):=by
 cases l with
 |nil=>exact .aB _ _
 |cons a b=>exact .mk _ _ _ _
theorem Rf{d:List It}{v:List Int}{y z:D}(C:aR 11 aE d y)(G:aR 1 cU v z)(F:d.length≤1000)(ao:v.length=d.length)(k:Int){a:List It}{x:D}{g:J}{n0:Nat}(ac:Own g n0 aF 11 (a.map aE) x)(ak:a.length≤1000)(ab:∀i∈a,lz i.e)(X:J)(h j m n o p q r s l:D)
  {H:Type} {w:bN→Option H} {Q:H→Prop} (kk:∀ds,Wp (w (.ext 2,ds,g)) Q):Wp ((cA (x3 y z (.int .i64 k) (x,X) (.int .i64 (a.length:Nat))) [h,j,m,n,o,p,q,r,.int .i64 0,s,l] g).bind w) Q:=by
 refine Wp.loop (λf ds b=>b=g∧∃(c:Nat) (h j m n o p q r s l:D),ds=[h,j,m,n,o,p,q,r,.int .i64 (c:Nat),s,l]∧f+c=a.length)
  (λf=>f.1 = .ext 2∧f.2.2=g) a.length ⟨rfl,0,_,_,_,_,_,_,_,_,_,_,rfl,by omega⟩ ?_ ?_
 ·rintro f ds b ⟨rfl,c,h,j,m,n,o,p,q,r,s,l,rfl,an⟩;simp only[x3,bD,bY,W,cI,aU];refine Wp.dS ?_ ?_
  ·intro t;have t:c<a.length:=by
    have:(c:Int)<(a.length:Nat):=by simpa using t
    omega
   obtain⟨i,E⟩:=iR t;have ai:=fD c (by omega);obtain⟨ap,T,u⟩:=Uh (Cb ac) E;have u:=u b λ_ _=>rfl
   have I:gY 11 (.agg (aE i))=some (.aI (aE i)):=mP _ _ rfl;obtain⟨M,N,ad,ae,af⟩:=U1 C G F (by omega) i 3 k b;obtain⟨P,R,r1,ag,ah⟩:=Va C G F (by omega) i (ab i (eS E)) 3 k b;have aa:V tab .neq iH (.int .i64 (iT d i k)) (.int .i64 (iT d i k))=some (.bool false):=by simp only[dE,dC,eA,bG]
   have al:(ny d i k).length≤2000:=by unfold ny;split<;>simp[-Xm]<;>omega
   have am:(nw d v i 3 k).length≤2000:=by unfold nw;split<;>simp[-Xm]<;>omega
   have K:=Cp _ _ M P b ae ag rfl (by omega);have L:=Jp _ N R b af ah (by omega);simp only[T,u,I,W,lf,T7,ad,Ub,r1,jd,iZ,j8,aa,bL,fS,aJ,B5,K,fK,eY,bI,aP,aL,IY,L,aK,cY,ai];exact .some (.inl ⟨rfl,f - 1,by omega,rfl,c+1,_,_,_,_,_,_,_,_,_,_,rfl,by omega⟩)
  ·intro t;exact .some (.inr ⟨by simp,rfl,rfl⟩)
 ·rintro⟨aj,ds,b⟩ ⟨A,B⟩;simp only at A B;subst A;subst B;exact kk ds
theorem Rg{c:List It}{m:List Int}{s o:D}(u:aR 11 aE c s)(w:aR 1 cU m o)(E:l4 c)(H:c.length≤1000)(x:m.length=c.length){M:List Int}{r:D}(G:aR 1 cU M r)(R:M.length≤1000){g:J}(f h i j:D)
  {y:Type} {q:bN→Option y} {Q:y→Prop} (kk:∀ds,Wp (q (.ext 4,ds,g)) Q):Wp ((cA (x5 s o r (.int .i64 (M.length:Nat))) [f,h,.int .i64 0,i,j] g).bind q) Q:=by
 refine Wp.loop (λd ds b=>b=g∧∃(a:Nat) (f h i j:D),ds=[f,h,.int .i64 (a:Nat),i,j]∧d+a=M.length)
  (λd=>d.1 = .ext 4∧d.2.2=g) M.length ⟨rfl,0,_,_,_,_,rfl,by omega⟩ ?_ ?_
 ·rintro d ds b ⟨rfl,a,f,h,i,j,rfl,T⟩;simp only[x5,bD,bY,W,cI,aU];refine Wp.dS ?_ ?_
  ·intro k;have k:a<M.length:=by
    have:(a:Int)<(M.length:Nat):=by simpa using k
    omega
   have F:(0:Int)≤(a:Int):=by omega
   obtain⟨e,p⟩:=iR k;have N:=fD a (by omega);have L:aA tab b U (.aI (cU e))=some (.int .i64 e):=id rfl;have I:aR 1 inr m o:=w;have B:=F1 u I x.symm (by omega) (λK p=>by have:=(E.dr K p).pos.2;exact⟨by omega,by omega⟩) e b;obtain⟨A,C,l⟩:=Vb u w H x e b;have v:=(yx (n:=c.length) (fl:=dR c) (rk:=fJ m) e.toNat)
   have z:=Cp _ _ _ A b (Vr _) l rfl (by rw[um v.1.mem,v.2];omega);simp only[me G,F,aJ,dY,p,fW,W,L,Kc,B,Uc,C,B5,z,fK,eY,aK,aP,aL,cY,N];exact .some (.inl ⟨rfl,d - 1,by omega,rfl,a+1,_,_,_,_,rfl,by omega⟩)
  ·intro k;exact .some (.inr ⟨by simp,rfl,rfl⟩)
 ·rintro⟨P,ds,b⟩ ⟨t,l⟩;simp only at t l;subst t;subst l;exact kk ds
theorem Rh{f:List It}{K:List Int}{z A:D}(r:aR 11 aE f z)(H:aR 1 cU K A)(E:l4 f)(u:f.length≤1000)(I:K.length=f.length){M:List D}{y:D}(al:aR 1 (λd=>[d]) M y)(a0:M.length≤1000)(aj:∀d∈M,∃ms,aR 2 cX ms d∧ms.length≤1000∧∀m∈ms,dZ m.1∧dZ m.2){g:J}(h i j k l n o p:D)
  {L:Type} {x:bN→Option L} {Q:L→Prop} (kk:∀ds,Wp (x (.ext 6,ds,g)) Q):Wp ((cA (x6 z A y (.int .i64 (M.length:Nat))) [h,i,j,k,l,n,.int .i64 0,o,p] g).bind x) Q:=by
 refine Wp.loop (λc ds a=>a=g∧∃(b:Nat) (h i j k l n o p:D),ds=[h,i,j,k,l,n,.int .i64 (b:Nat),o,p]∧c+b=M.length)
  (λc=>c.1 = .ext 6∧c.2.2=g) M.length ⟨rfl,0,_,_,_,_,_,_,_,_,rfl,by omega⟩ ?_ ?_
 ·rintro c ds a ⟨rfl,b,h,i,j,k,l,n,o,p,rfl,a3⟩;simp only[x6,bD,bY,W,cI,aU];refine Wp.dS ?_ ?_
  ·intro q;have q:b<M.length:=by
    have:(b:Int)<(M.length:Nat):=by simpa using q
    omega
   have ak:(0:Int)≤(b:Int):=by omega
   obtain⟨m,s⟩:=iR q;have ay:=fD b (by omega);obtain⟨ms,t,G,am⟩:=aj m (eS s);have F:∀v∈f,v.e.ls.length≤1000000:=λv s=>by have:=(E.dr v s).l3;omega
   obtain⟨a6,a4,X,ah,ad,au,aw,w⟩:=U4 r H u I (by omega) F a (.inl t);obtain⟨a7,a5,aa,ai,ae,av,ax,N⟩:=Vc r H u I (by omega) F a (.inl t);obtain⟨ao,rfl⟩:=w.same N;have a1:=w.len;have P:=Cp _ _ X aa a au av ao (by omega);have R:=Jp _ ah ai a aw ax (by omega);obtain⟨ar,ab,af,ap,an,a2⟩:=Jt r t u G a;obtain⟨ac,ag,aq⟩:=U3 E r u t G am an a;have T:=UU ar ac ab a aq ap (by omega);simp only[Rv al,ak,aJ,dY,s,fW,W,RW,T9,ad,Ud,ae,jd,iZ,j8,B5,P,fK,eY,bL,fS,bI,aP,aL,IY,R,ag,IZ,af,T5,T,aK,cY,ay];exact .some (.inl ⟨rfl,c - 1,by omega,rfl,b+1,_,_,_,_,_,_,_,_,rfl,by omega⟩)
  ·intro q;exact .some (.inr ⟨by simp,rfl,rfl⟩)
 ·rintro⟨az,ds,a⟩ ⟨B,C⟩;simp only at B C;subst B;subst C;exact kk ds
theorem H9{h:J}{o:Nat}(s:CM h o)(m:Nat)(t:m≤40):∃(a:List It) (d:List Int) (b c:D) (h':J),R nh [.ptr o 0 0,.int .i64 (m:Nat)] h=some (.bZ [b,c],h')∧aR 11 aE a b∧aR 1 cU d c∧l4 a∧a.length≤m∧d.length=a.length∧CM h' o∧bW o h h':=by
 obtain⟨a,d,b,c,h',e,f,i,j,k,l,⟨n,p,q⟩,r,g⟩:=Ti s m t;exact⟨a,d,b,c,h',e,f,i,⟨j,p,q,n⟩,k,l,r,g⟩
theorem iY.rb{i:It}(h:iY (aY i)):RB 4 3 (aY i):=by
 obtain⟨n,g,o,b,j,k,l,m,c⟩:=h;have a:=Br b;rw[c];refine⟨a.r,a.t7,a.t8,a.fs,?_,λp d=>?_,a.ft⟩
 ·show(List.map _ _).length≤3;rw[eQ];exact a.ls
 ·obtain⟨f,e,rfl⟩:=e8.1 d;exact a.lt f e
theorem Sv{g:J}(o:CM g 0){a:It}{nx:List It}{f:D}(y:aR 11 aE nx f)(M:nx.length≤1){E:Type}{F:D × J→Option E}{Q:E→Prop}
  (k:∀(j:It) x g',CM g' 0→RB 5 41 (aY j)→Own g' g.length aF 11 ((a::nx++[j]).map aE) x→Wp (F (x,g')) Q) :
  Wp ((cW tab g aV aV (.sl 11 true [aE a]) f).bind λC=>(R oP [.ptr 0 0 0] C.2).bind λA=>(R oR [.ptr 0 0 0,A.1] A.2).bind λB=>(bJ tab aV 1 [0] [B.1]).bind λac=>(cW tab B.2 aV aV C.1 ac).bind F) Q:=by
 have h:=o.lt;have w:∀j:It,bJ tab aV 1 [0] [.agg (aE j)]=some (.sl 11 true [aE j]):=λj=>id rfl
 cases z:nx with
 | nil =>
  subst z;have p:cW tab g aV aV (.sl 11 true [aE a]) f=some (.sl 11 true [aE a],g):=by
   rcases y with⟨rfl,_⟩|⟨I,rfl⟩
   ·exact id rfl
   ·exact id rfl
  obtain⟨u,v,q,i,d,s⟩:=BK o;obtain⟨j,c,r,l,e,t⟩:=BL i (n:=4) (m:=3) (by omega) (by omega) u (Br s);have H:cW tab c aV aV (.sl 11 true [aE a]) (.sl 11 true [aE j])=some (.aO 11 c.length 0 2,aZ c aF 11 [aE a,aE j]):=id rfl;simp only[p,W,q,r,w,H];exact k j _ _ (l.bH (gQ _ _ _ _ (by have:=e.1;have:=d.1;omega))) (t.le (by omega) (by decide)) (.inr ⟨c.length,by have:=e.1;have:=d.1;omega,rfl,hZ _ _ _ _⟩)
 | cons b ab =>
  subst z;have N:ab=[]:=fQ (by simp only[eP]at M;omega);subst N;have p:cW tab g aV aV (.sl 11 true [aE a]) f=some (.aO 11 g.length 0 2,aZ g aF 11 [aE a,aE b]):=by
   rcases y with⟨_,L⟩|⟨I,rfl⟩
   ·cases L
   ·exact id rfl
  have G:CM (aZ g aF 11 [aE a,aE b]) 0:=o.bH (gQ _ _ _ _ h);have n0:(aZ g aF 11 [aE a,aE b])[g.length]?=some (.row aF 11 [aE a,aE b]):=hZ _ _ _ _;have ag:(aZ g aF 11 [aE a,aE b]).length=g.length+1:=hN _ _ _ _;simp only[p,W];generalize aZ g aF 11 [aE a,aE b]=v at *;have T:Own v g.length aF 11 ([a,b].map aE) (.aO 11 g.length 0 2) :=.inr ⟨g.length,aX _,rfl,n0⟩;obtain⟨u,c,q,i,d,s⟩:=BK G;obtain⟨j,ae,r,l,e,t⟩:=BL i (n:=4) (m:=3) (by omega) (by omega) u (Br s);have X:=(T.same d h).same e h;simp only[q,r,W,w];refine nD (ys:=[aE j]) (n0:=g.length) (by have:=e.1;have:=d.1;omega) X (iq _ _ _ _) (by simp) λad K aa af P _ _=>?_
  exact k j ad K (l.bH (P 0 h)) (t.le (by omega) (by decide)) aa
theorem Re {h:List It} {ad:List Int} {F R:D} (f:aR 11 aE h F) (H:aR 1 cU ad R) (an:l4 h) (G:h.length≤1000) (az:ad.length=h.length) {j:It} (ay:lz j.e) {nx:List It} {P:D} (av:aR 11 aE nx P) (ax:nx.length≤1) (aw:l4 nx)
  {M:List Int} {N:D} (au:aR 1 cU M N) (a5:M.length≤1000) (am:∀k∈M,k≤9223372036854775807) {g:J} (i:CM g 0) (l m n o p q r s t u v w x y z A B:D)
  {af:Type} {K:bN→Option af} {Q:af→Prop} (kk:∀ds g',CM g' 0→Wp (K (.ext 0,ds,g')) Q) :
  Wp ((cA (xZ (.aI (aE j)) (.ptr 0 0 0) F R P N (.int .i64 (M.length:Nat))) [.bool false,l,m,n,o,p,q,r,s,.int .i64 0,t,u,v,w,x,y,z,A,B] g).bind K) Q:=by
 have aq:aT tab aV F=some (.int .i64 (h.length:Nat)):=jh f;refine Wp.loop (λd ds g'=>CM g' 0∧∃(a:Nat) (L l m n o p q r s t u v w x y z A B:D),ds=[L,l,m,n,o,p,q,r,s,.int .i64 (a:Nat),t,u,v,w,x,y,z,A,B]∧d+a=M.length)
  (λd=>d.1 = .ext 0∧CM d.2.2 0) M.length ⟨i,0,_,_,_,_,_,_,_,_,_,_,_,_,_,_,_,_,_,_,rfl,by omega⟩ ?_ ?_
 ·rintro d ds g' ⟨i,a,L,l,m,n,o,p,q,r,s,t,u,v,w,x,y,z,A,B,rfl,a6⟩;simp only[xZ,bD,bY,W,cI,aU];refine Wp.dS ?_ ?_
  ·intro C;have C:a<M.length:=by
    have:(a:Int)<(M.length:Nat):=by simpa using C
    omega
   have ao:(0:Int)≤(a:Int):=by omega
   obtain⟨b,E⟩:=iR C;have ab:=am b (eS E);have ae:=fD a (by omega);have a0:aA tab g' U (.aI (cU b))=some (.int .i64 b):=id rfl;have ah:=Ct f H G b g';have ai:=Cu f H G (λI E=>(an.ok I E).nm) b g';simp only[me au,ao,aJ,dY,E,fW,W,a0,B6,ah,B7,ai,Lh,kA,eY,aK,aP,aL,aq,cI,aU];by_cases aa:b<((h.length:Nat):Int)
   ·simp only[aa,bK,aK,aJ,W,cL,bD,bY,cY,ae];exact .some (.inl ⟨rfl,d - 1,by omega,i,a+1,_,_,_,_,_,_,_,_,_,_,_,_,_,_,_,_,_,_,rfl,by omega⟩)
   ·have aj:=U2 f b (by omega) ab g';have ak:=U9 f b (by omega) ab g';have ap:bJ tab aV 1 [0] [.agg (aE j)]=some (.sl 11 true [aE j]):=id rfl;simp only[aa,bG,aK,aP,aL,W,T8,aj,Ua,ak,dE,dC,eA,lf,ap,T2,IX,aU];refine Sv i av ax λI a1 a4 ag al ac=>?_
    have ar:aT tab aV a1=some (.int .i64 ((j::nx++[I]).length:Nat)):=by
     have:=wD ac;rw[eQ]at this;exact this
    simp only[ar,W,aU];refine Rf f H G az b ac (by simp;omega) (λa2 c=>?_) _ _ _ _ _ _ _ _ _ _ _ λds=>?_
    ·rcases eI.1 c with c|c
     ·rcases dW.1 c with rfl|c
      ·exact ay
      ·exact(aw.ok a2 c).nm
     ·rw[gz.1 c];exact I0 al
    ·simp only[dV,gV,cL,W,bD,bY,cY,ae];exact .some (.inl ⟨rfl,d - 1,by omega,ag,a+1,_,_,_,_,_,_,_,_,_,_,_,_,_,_,_,_,_,_,rfl,by omega⟩)
  ·intro C;exact .some (.inr ⟨by simp,rfl,i⟩)
 ·rintro⟨a3,ds,g'⟩ ⟨T,X⟩;simp only at T X;subst T;exact kk ds g' X
theorem HT(a b c:Int):∃d,bJ tab aW 3 [0,1,2] [.int .i64 a,.int .i64 b,.int .i64 c]=some d∧aR 1 cU [a,b,c] d:=⟨_,id rfl,.mk _ _ _ _⟩
theorem Rb{n:Int}(h:(decide (IntKind.i64.min≤n)&&decide (n≤IntKind.i64.max))=true):n≤9223372036854775807:=by
 have a:(IntKind.i64.max:Int)=9223372036854775807:=by decide
 simp only[eO,p6,a]at h;exact h.2
theorem RV(zs:List Int)(d:D)(lim K:Int)(b:It)(p:kM .u8 zs d)(ak:∀z∈zs,0≤z∧z<256)(c3:zs.length≤9223372036854775807)(ds:lim≤9223372036854775807)(c1:lz b.e):∃h',R1 zw [d,.int .i64 lim,.int .i64 K,.agg (aE b)] []=some (.bool true,h'):=by
 suffices Wp (R1 zw [d,.int .i64 lim,.int .i64 K,.agg (aE b)] []) (λc8=>c8.1 = .bool true) by
  obtain⟨⟨F,h'⟩,f,rfl⟩:=this;exact⟨h',f⟩
 have ah:∀r,fx .not (.bool r)=some (.bool !r):=λr=>id rfl
 have ac:aC tab aG 4 (.aI (bV b.e))=some (.aI [b.e.ld,.int .i64 b.e.a5,.int .i64 b.e.a6,.str b.e.s7,.str b.e.s8,b.e.fd]):=id rfl;have au:aC tab aG 9 (.aI (bV b.e))=some (.aI [b.e.fd]):=id rfl;have al:aT tab bA b.e.ld=some (.int .i64 (b.e.ls.length:Nat)):=ji b.e.fZ;have bd:aT tab bM b.e.fd=some (.int .i64 (b.e.fs.length:Nat)):=iD b.e.gk;have M:∀av r,scope [] av (.bool r)=some (.bool r,[]):=λav r=>iu (by rfl) (.bool _) (jr _) λa cz=>by simp at cz
 rw[NN];by_cases ag:((b.e.ls.length:Nat):Int)>60
 ·simp only[uU,jj,W,Cq,ah,eY,aK,aP,aL,kl,ac,iC,al,cZ,ag,bK,bL,eR,bI,aJ,bR,M];exact .some rfl
 by_cases ay:((b.e.fs.length:Nat):Int)>60
 ·simp only[uU,jj,W,Cq,ah,eY,aK,aP,aL,kl,ac,au,iC,la,al,bd,cZ,ag,ay,bK,bG,bL,bI,aJ,bR,M];exact .some rfl
 obtain⟨ad,X,N,d7,_⟩:=Tf zs d 240 [] p (by omega) (by omega) ak c3;have N:CM ad 0:=N;obtain⟨a,bf,aq,ar,b5,aa,q,l,g,c0,aj,bm,ed⟩:=H9 N 8 (by omega);obtain⟨ms,Q,b8,bw,a3,a9,bn,ef⟩:=Th bm;obtain⟨nx,d9,bv,bu,b9,ab,cj,_,cu,dt,_,bo,eg⟩:=H9 bn 1 (by omega);obtain⟨v,dq,bx,bp,eh,ej,ek⟩:=gv bo 3 (by omega) (by omega);have X:R rG [d,.int .i64 240] []=some (.ptr 0 0 0,ad):=X;have cs:aT tab aV aq=some (.int .i64 (a.length:Nat)):=jh q;have db:IntKind.wrap .i64 ((a.length:Nat)+v)=(a.length:Nat)+v:=cN (by omega) (by omega);have aa:R nh [.ptr 0 0 0,.int .i64 8] ad=some (.bZ [aq,ar],b5):=aa;have ab:R nh [.ptr 0 0 0,.int .i64 1] b8=some (.bZ [bv,bu],b9):=ab;obtain⟨w,o,y,u,ce,cd⟩:∃w o,bJ tab aW 3 [0,1,2] [.int .i64 lim,.int .i64 ((a.length:Nat)+v),.int .i64 200]=some o∧aR 1 cU w o∧w.length≤1000∧∀k∈w,k≤9223372036854775807:=by
  obtain⟨o,y,u⟩:=HT lim ((a.length:Nat)+v) 200;refine⟨_,o,y,u,by simp,λk a7=>?_⟩;simp only[dW,kS,iS]at a7;rcases a7 with rfl|rfl|rfl<;>omega
 have cp:aT tab aW o=some (.int .i64 (w.length:Nat)):=lJ u;simp only[uU,jj,W,Cq,ah,eY,aK,aP,aL,kl,ac,au,iC,la,al,bd,cZ,ag,ay,bG,bL,bI,aJ,T1,X,T4,aa,jd,iZ,j8,T3,bw,ab,cs,B8,bx,cY,db,y,cp,aU];refine Re q l g (by omega) aj c1 cj (by omega) cu u ce cd bp _ _ _ _ _ _ _ _ _ _ _ _ _ _ _ _ _ λdi dr bq=>?_
 obtain⟨bg,A,bz,ao,ei,_,_⟩:=gv bq 10 (by omega) (by omega);obtain⟨H,dM,b3,a0,ch⟩:∃H dM,bJ tab aW 3 [0,1,2] [.int .i64 K,.int .i64 bg,.int .i64 1]=some dM∧aR 1 cU H dM∧H.length≤1000:=by
  obtain⟨o,y,u⟩:=HT K bg 1;exact⟨_,o,y,u,by simp⟩
 have cr:aT tab aW dM=some (.int .i64 (H.length:Nat)):=lJ a0;simp only[dV,cL,W,bD,bY,B8,bz,b3,cr,aU];refine Rg q l g (by omega) aj a0 ch _ _ _ _ λdj=>?_
 obtain⟨c7,ap,b0,a1,cy,cx⟩:=Jt (ms:=[]) q (.aB _ _) (by omega) (by simp) A;have ci:aR 2 cX ms Q:=a3;obtain⟨x,I,b2,az,cf,cg⟩:∃x I,bJ tab nC 3 [0,1,2] [Q,ap,.aB]=some I∧aR 1 (λd=>[d]) x I∧x.length≤1000∧∀d∈x,∃ms,aR 2 cX ms d∧ms.length≤1000∧∀m∈ms,dZ m.1∧dZ m.2:=by
  refine⟨[Q,ap,.aB],_,Lj _ _ _ (qC a3) (qC a1) rfl,.mk _ _ _ _,by simp,λd p=>?_⟩;simp only[dW,kS,iS]at p;rcases p with rfl|rfl|rfl
  ·refine⟨ms,ci,?_,λm C=>?_⟩
   ·rcases a9.len with rfl|h
    ·simp[-Xm]
    ·omega
   ·obtain⟨dc,dd,de,df⟩:=a9.mem m C;exact⟨⟨by omega,by omega⟩,⟨by omega,by omega⟩⟩
  ·refine⟨c7,a1,by simp at cx;omega,λm C=>?_⟩;have f:=(cy.2 m).1 C;have f:(dX m.1 (a.map aY)).or none=some m.2:=f;rw[Option.or_none]at f;obtain⟨z,ak,cb,cc⟩:=Hz f;obtain⟨i,B,rfl⟩:=e8.1 ak;obtain⟨ea,eb,ec⟩:=(g.dr i B).pos;obtain⟨dw,dp,k,d2,d3,d4,d5,d6,bc⟩:=g.dr i B;simp only[aY,lM,RI.mk.injEq]at bc cb cc;obtain⟨dx,dy,dz,d0,d1,_⟩:=bc;exact⟨⟨by omega,by omega⟩,⟨by omega,by omega⟩⟩
  ·exact⟨[],.aB _ _,by simp,λm C=>by simp at C⟩
 have cq:aT tab nC I=some (.int .i64 (x.length:Nat)):=R7 az;simp only[dV,cL,W,bD,bY,IZ,b0,b2,cq,aU];refine Rh q l g (by omega) aj az cf cg _ _ _ _ _ _ _ _ λdk=>?_
 simp only[dV,cL,W,bD,bY,aU];have ca:=ao.lt;refine nD (rows:=[]) (n0:=A.length) (aX _) (.aB _ _ _ _) (sj _ q) (by simp only[eQ,eJ];omega) λF ae E d8 c5 _ _=>?_
 have E:Own ae A.length aF 11 (a.map aE) F:=E;have br:CM ae 0:=ao.bH (c5 0 ca);have a8:aT tab aV F=some (.int .i64 (a.length:Nat)):=by
  have:=wD E;rw[eQ]at this;exact this
 simp only[a8,W,cZ,aU];refine Wp.join (P:=λbe:bN=>be.1 = .aS∧∃L:List It,Own be.2.2 A.length aF 11 (L.map aE) F∧L.length≤8∧∀i∈L,lz i.e) ?_ ?_ ?_
 ·intro af;have af:0<a.length:=by
   have:((a.length:Nat):Int)>0:=by simpa using af
   omega
  obtain⟨c,ai,rfl,cm⟩:∃c,A.length≤c∧F = .aO 11 c 0 a.length∧ae[c]?=some (.row aF 11 (a.map aE)):=by
   rcases E with⟨_,cn⟩|⟨c,ai,c2,ck⟩
   ·have:a=[]:=by simpa using cn
    subst this;simp at af
   ·exact⟨c,ai,by rw[c2,eQ],ck⟩
  obtain⟨bh,ax,b1,bt,da,el,en⟩:=gv br (a.length:Nat) (by omega) (by omega);obtain⟨k,rfl⟩:∃k:Nat,bh=(k:Nat):=⟨bh.toNat,by omega⟩
  obtain⟨i,B⟩:∃i,a[k]?=some i:=⟨_,cJ (by omega)⟩
  have c4:aQ tab aV (.aO 11 c 0 a.length) (.int .i64 (k:Nat))=some (.ptr c k 0):=by rw[Hm,bE ⟨by omega,by omega⟩,dY,dF]
  have a4:ax[c]?=some (.row aF 11 (a.map aE)):=by rw[da.2 c (by omega)];exact cm
  have bb:(a.map aE)[k]?=some (aE i):=by rw[dH,B];rfl
  have c6:aA tab ax aF (.ptr c k 0)=some (.agg (aE i)):=by rw[r2,dT a4,bb];rfl
  obtain⟨j,b6,ry,dg,c9,co⟩:=BL bt (n:=4) (m:=3) (by omega) (by omega) i (g.dr i (eS B)).rb;have cl:b6[c]?=some (.row aF 11 (a.map aE)):=by rw[c9.2 c (by omega)];exact a4
  simp only[a8,W,B8,b1,c4,c6,IX,ry,aU];refine jP (kk:=k) (off:=0) (row:=aE i) (v :=.agg (aE j)) cl bb (by rfl) (by exact aX _) (ql _) λb7 an ee=>?_
  have an:b7[c]?=some (.row aF 11 ((a.set k j).map aE)):=by
   rw[kQ];exact an
  refine .some ⟨rfl,a.set k j,.inr ⟨c,ai,by simp,an⟩,by simp;omega,λG s=>?_⟩;rcases u9 s with s|rfl
  ·exact(g.ok G s).nm
  ·exact I0 co
 ·intro _;exact .some ⟨rfl,a,E,c0,λG s=>(g.ok G s).nm⟩
 ·rintro⟨dm,dl,aw⟩ ⟨f,L,am,du,cw⟩;simp only at f am;subst f;have bi:=FK (fn:=oS) (k:=200) am l λd h p=>by rw[B6];exact Ct p l (by omega) 200 h
  have bj:=FK (fn:=oU) (k:=200) am l λd h p=>by rw[B7];exact Cu p l (by omega) cw 200 h
  have ct:aT tab aW ar=some (.int .i64 (bf.length:Nat)):=lJ l;simp only[cL,W,bi,bj,Fy,kA,bL,aJ,ct,fa,aU];by_cases ba:((bf.length:Nat):Int)=0
  ·simp only[ba,bK,bL,fS,eR,aL,aJ,W,bI,bR,M];exact .some rfl
  ·obtain⟨dh,b4,a2⟩:=Vt (T:=tab) (t:=aW) (i:=nB) (e:=U) (j:=gb) (id rfl) (id rfl) (id rfl) (id rfl) l (k :=.i64) (n:=1) (by omega) (by omega);have bk:=Ct q a2 (by omega) 200 aw;have bl:=Cu q a2 (by omega) (λG s=>(g.ok G s).nm) 200 aw;simp only[ba,bG,bL,fS,aP,aL,aJ,W,b4,B6,bk,B7,bl,Fy,kA,bI,bR,M];exact .some rfl
end Go.Proofs.YtinlnkhheafjaaaGreatDoor

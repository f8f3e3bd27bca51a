/- Part 2 of the texts that the theorem needs: an interpreter on data, proved sound; the functions on data; laws about them. -/
import Derived.Test.YtinlnkhheafjaaaM1
set_option linter.unusedSimpArgs false
set_option linter.unusedVariables false
set_option linter.unnecessarySimpa false
namespace Go.Eng
abbrev iy:=@decide_eq_false
abbrev oV:=@Classical.byContradiction
abbrev oW:=@Classical.not_forall
end Go.Eng
namespace Go.Pi
open Go.Eng
theorem xm(p:Nat→Bool):∀(m:Nat),((List.range m).filter p).length=m→∀i,i<m→p i=true:=λm h i d=>by
 have b:(List.range m).filter p=List.range m:=by
  apply o8.2;intro a c;rcases ez ((List.range m).filter p).length (List.range m).length with e|f
  ·simp at e;omega
  ·cases hp:p a with
   |true=>rfl
   | false =>
    exfalso;have:((List.range m).filter p).length<(List.range m).length:=by
     apply List.length_filter_lt_length_iff_exists.2;exact⟨a,c,by simp[hp]⟩
    omega
 exact o8.1 b i (by simp[d])
def ku(T:aM)(V:List Nat)(j g:Gh)(a:Act)(e:List Oper):Prop:=
 (∀(d:Nat) (b:Oper) (c:Nat),e[d]?=some b→cG T V b = .dQ→b.dst=some c→ih T j g b (a.tmps.getD c undef)) ∧
 ∀(d h:Nat) (b f:Oper) (c i:Nat),e[d]?=some b→e[h]?=some f→cG T V b = .dQ→cG T V f = .dQ→b.dst=some c→f.dst=some i→d≠h→a.tmps.getD c undef≠a.tmps.getD i undef
structure lI (pr:Nat→Prop) (n:Nat) (g:Gh) (e:DE) (a:Act):Prop where
 size:a.tmps.size=n
 defers:a.defers=[]
 get:∀t d,pr t→aQ e t=some d→O g (a.tmps.getD t undef) d
theorem ku.tail{T:aM}{V:List Nat}{e g:Gh}{a:Act}{o:Oper}{f:List Oper}(h:ku T V e g a (o::f)):ku T V e g a f:=
 ⟨λb c d hp=>h.1 (b+1) c d (by simpa using hp),λb n c p d q hp m i j k l r=>h.2 (b+1) (n+1) c p d q (by simpa using hp) (by simpa using m) i j k l (by omega)⟩
section
variable {P:Program} {X:Cx} {R:Type}
theorem ri (an:aZ P X.T) {V:List Nat} {nt:Nat} {r:R} {D:Gh} {a:Act} {aj:Nat→Prop}:∀(u:List Oper) (e:DE) (h:Y) (g:Gh) (y:DE→Y→Option R),gD X V u e h y=some r→aH D g→Inv g h→lI aj nt g e a→ku X.T V D g a u →
  ∃e' h' g',y e' h'=some r∧g'.w=g.w∧aH D g'∧Inv g' h'∧lI aj nt g' e' a∧(∀v d,O g v d→O g' v d)∧∀t,(∀o∈u,cG X.T V o = .dQ→o.dst≠some t)→aQ e' t=aQ e t
 |[],e,h,g,y,p,n,hi,H,_=>⟨e,h,g,p,rfl,n,hi,H,λ_ _ G=>G,λ_ _=>rfl⟩
 | o :: u, e,h,g,y,p,n,hi,H,hp=>by
  have skip:gD X V u e h y=some r→∃e' h' g',y e' h'=some r∧g'.w=g.w∧aH D g'∧Inv g' h'∧lI aj nt g' e' a∧(∀v d,O g v d→O g' v d)∧∀t,(∀b∈o::u,cG X.T V b = .dQ→b.dst≠some t)→aQ e' t=aQ e t:=λp=>by
   obtain⟨e',h',g',ay,az,a0,a1,a2,a3,a4⟩:=ri an u e h g y p n hi H hp.tail;exact⟨e',h',g',ay,az,a0,a1,a2,a3,λt b7=>a4 t λb q=>b7 b (eP _ q)⟩
  unfold gD at p;split at p
  case h_2=>exact skip p
  rename_i ak t aq b3 ao;split at p
  case h_2=>cases p
  rename_i j a9;obtain⟨cf,ac,z,I,K,b5,be,cg,ae,a8,bv,ch,bu⟩:=hp.1 0 o t rfl aq ao;rw[b3]at I;injection I with I;subst I;rw[a9]at K;injection K with K;subst K
  let k:Gh:=⟨g.w,g.ms++[⟨z,j.Z,1,1⟩],g.L⟩
  have af:k.ms[h.length]?=some ⟨z,j.Z,1,1⟩:=by
   show(g.ms++_)[h.length]?=_;rw[← hi.len];simp
  have ar:∀(b:Nat) (m:Me),g.ms[b]?=some m→k.ms[b]?=some m:=λb m c=>by
   show(g.ms++_)[b]?=some m;rw[cU (aP.1 c).1];exact c
  have E:∀(b:Nat) (m:Me),k.ms[b]?=some m→(b<h.length∧g.ms[b]?=some m)∨(b=h.length∧m=⟨z,j.Z,1,1⟩):=λb m c=>by
   have ab:(g.ms++[(⟨z,j.Z,1,1⟩:Me)])[b]?=some m:=c;rcases hI b g.ms.length with B|heq|bz
   ·rw[cU B]at ab;exact .inl ⟨by rw[← hi.len];exact B,ab⟩
   ·subst heq;simp at ab;exact .inr ⟨hi.len,ab.symm⟩
   ·exfalso;have:=(aP.1 ab).1;simp at this;omega
  have ap:fV g k:=⟨rfl,rfl,rfl,aX _,ar,λz bt=>⟨bt,rfl⟩⟩
  have bw:aH D k:=⟨⟨n.os,n.tape,n.output,n.size,λb m c=>ar b m (n.ms b m c),λM Q=>⟨(n.V M Q).1,(n.V M Q).2⟩⟩,λM Q=>by
   obtain⟨aw,cc⟩:=n.bH M Q;refine⟨⟨aw.1,aw.2.1,λb m c=>?_⟩,cc⟩;rcases E b m c with⟨_,c⟩|⟨_,rfl⟩
   ·exact aw.2.2 b m c
   ·have:=Q.1;show z≠M;omega⟩
  have ad:∀(b:Nat) (ai:Ob),(aF h ak j.Z [j.zero])[b]?=some ai→(b<h.length∧h[b]?=some ai)∨(b=h.length∧ai = .row ak j.Z [j.zero]):=λb ai F=>by
   unfold aF at F;rcases hI b h.length with B|heq|bz
   ·rw[cU B]at F;exact .inl ⟨B,F⟩
   ·subst heq;simp at F;exact .inr ⟨rfl,F.symm⟩
   ·exfalso;have:=(aP.1 F).1;simp at this;omega
  have b0:Inv k (aF h ak j.Z [j.zero]):=by
   refine⟨by show(g.ms++[_]).length=(h++[_]).length;simp[hi.len],λb al a6 r1 q=>?_,λb x al a6 bi ce r1 cd ax ah am l f i N=>?_,hi.L,λb m c=>?_⟩
   ·rcases ad b _ q with⟨B,q⟩|⟨rfl,heq⟩
    ·obtain⟨m,bm,c,s⟩:=hi.live b al a6 r1 q;exact⟨m,bm,ar b m c,s.eA,s.fI,s.pos,s.hL,s.len,s.le,s.room,s.row,λac a5 l au d f=>by
      obtain⟨v,i,N,bq⟩:=s.cell ac a5 l au d f;exact⟨v,i,N,bq.fx ap⟩⟩
    ·injection heq with bn bo bp;subst bn;subst bo;subst bp;refine⟨_,a8,af,⟨(0,0),bv,.inl rfl⟩,rfl,b5,ae.2.1,rfl,aX _,by show 1*j.Z≤a8.size;omega,λa5 G=>?_,λac a5 l au d f=>?_⟩
     ·simp at G;subst G;exact an.wM a9
     ·cases ac with
      | zero =>
       simp at l;subst l;obtain⟨v,bj,bk,bl⟩:=bu au d f;exact⟨v,by simpa using bj,bk,bl k⟩
      |succ ac=>simp at l
   ·rcases ad b _ am with⟨B,am⟩|⟨rfl,heq⟩
    ·rcases E b ax f with⟨_,f⟩|⟨bc,_⟩
     ·rcases ad x _ l with⟨b1,l⟩|⟨rfl,bx⟩
      ·rcases E x ah i with⟨_,i⟩|⟨bc,_⟩
       ·exact hi.inj b x al a6 bi ce r1 cd ax ah am l f i N
       ·omega
      ·exfalso;rw[af]at i;injection i with i;subst i;exact ae.2.2 b ax f N
     ·omega
    ·rcases ad x _ l with⟨b1,l⟩|⟨rfl,bx⟩
     ·rcases E x ah i with⟨_,i⟩|⟨bc,_⟩
      ·exfalso;rw[af]at f;injection f with f;subst f;exact ae.2.2 x ah i N.symm
      ·omega
     ·rfl
   ·rcases E b m c with⟨_,c⟩|⟨_,rfl⟩
    ·exact hi.msb b m c
    ·exact ae.1
  have b6:lI aj nt k ((t,.ptr h.length 0 0)::e) a:=by
   refine⟨H.size,H.defers,λC d ag A=>?_⟩;rw[fJ]at A;by_cases bd:t=C
   ·subst bd;rw[bB rfl]at A;injection A with A;subst A;rw[be];have:=O.ptr (g:=k) h.length 0 0 ⟨z,j.Z,1,1⟩ af;simpa using this
   ·rw[bO bd]at A;exact(H.get C d ag A).fx ap
  have b4:ku X.T V D k a u:=by
   refine⟨λb bg C q bb ba=>?_,hp.tail.2⟩;obtain⟨bh,b8,a7,I,K,b9,bf,ca,av,cb⟩:=hp.1 (b+1) bg C (by simpa using q) bb ba;have b2:=hp.2 0 (b+1) o bg t C rfl (by simpa using q) aq bb ao ba (by omega);refine⟨bh,b8,a7,I,K,b9,bf,ca,⟨av.1,av.2.1,λx m c=>?_⟩,cb⟩;rcases E x m c with⟨_,c⟩|⟨_,rfl⟩
   ·exact av.2.2 x m c
   ·intro aa;apply b2;rw[be,bf];have aa:z=a7:=aa;rw[aa]
  obtain⟨e',h',g',ay,az,a0,a1,a2,a3,a4⟩:=ri an u _ _ k y p bw b0 b6 b4;refine⟨e',h',g',ay,az,a0,a1,a2,λv d G=>a3 v d (G.fx ap),λC ag=>?_⟩;rw[a4 C λb q=>ag b (eP _ q),fJ,bO (λaa=>ag o (e8 ..) aq (by rw[ao,aa]))]
end
section
variable {P:Program} {X:Cx} {R:Type} {call:bC} {nt:Nat} {V dL:List Nat} {l:List Oper} {m:Nat} {e:DE} {h:Y} {en:Nat→DE} {hp:Nat→Y} {va:Nat→D} {HK:Nat→Y} (tr:Tr X call nt V dL l m e h en hp va HK)
include tr
theorem ia.sat{r g:Gh}{n:Array Bool}{c:Nat}{a:Act}(f:ia P X nt V l m e va HK r n c a g):lI (λt=>∀z p,z<m→n[z]?≠some true→l[z]?=some p→p.dst≠some t) nt g (en m) a:=by
 refine⟨f.size,f.defers,λt q hp i=>?_⟩;by_cases d:t∈dF (l.take m)
 ·unfold dF at d;rw[gI]at d;obtain⟨p,v,k⟩:=d;obtain⟨o,b⟩:=jM v;rw[dX]at b;split at b
  ·rename_i j;have h:=tr.val j b k j (aX _);rw[i]at h;injection h with h;rw[h];refine f.done o p t ?_ b k;apply oV;intro u;exact hp o p j u b k
  ·cases b
 ·have:=tr.aO (t:=t) 0 m (gK _) (aX _) λA p y s x w=>d (by
    unfold dF;rw[gI];exact⟨p,dB (by rw[dX,bB s];exact x),w⟩)
  rw[this,tr.e0]at i;exact f.base t q d i
theorem ia.mO{w g:Gh}{r:Array Bool}{c:Nat}{a:Act}(s:ia P X nt V l m e va HK w r c a g){i:Nat}{o:Oper}(hi:i<m)(u:l[i]?=some o)
  (y:∀j p t,j<m→l[j]?=some p→p.dst=some t→t∈fA l o→r[j]?=some true):∀t d,t∈fA l o→aQ (en i) t=some d→O g (a.tmps.getD t undef) d:=λt d v n=>by
 by_cases f:t∈dF (l.take m)
 ·unfold dF at f;rw[gI]at f;obtain⟨p,A,h⟩:=f;obtain⟨j,b⟩:=jM A;rw[dX]at b;split at b
  ·rename_i q;have x:=tr.look i j o p t hi q u b v h;have z:=pC tr.j9 u x;have k:=tr.val q b h z (Nat.le_of_lt hi);rw[n]at k;injection k with k;rw[k];exact s.done j p t (y j p t q b h v) b h
  ·cases b
 ·have:=tr.aO (t:=t) 0 i (gK _) (by omega) λD p E F C B=>f (by
    unfold dF;rw[gI];exact⟨p,dB (by rw[dX,bB (show D<m by omega)];exact C),B⟩)
  rw[this,tr.e0]at n;exact s.base t d f n
theorem Tr.uT{k j:Nat}{o:Oper}(s:m≤k)(h2:k<cI l)(f:j<k)(e:l[k]?=some o):
  (∃x∈o.after.toList,Region.binds .any x=true∧x.on=j)∨(j<m∧∀p t,l[j]?=some p→o.dst=some t→t∉fA l p):=by
 rcases tr.late with u|d
 ·omega
 unfold mg at d;simp only[cY]at d;have:=(eD.1 d.1.1) k (by simp[h2]);simp only[kn]at this;rcases this with a|a
 ·have:=cC a;omega
 ·have:=(eD.1 a) j (by simp[f]);simp only[kn,cY]at this;rcases this with a|⟨a,b⟩
  ·left;have c:=ja.1 a;unfold gB at c;have i:l.toArray[k]?=some o:=by simpa using e
   rw[i]at c;simp only[eE,eQ]at c;obtain⟨x,⟨q,g⟩,r⟩:=c;exact⟨x,q,g,r⟩
  ·right;refine⟨cC a,λp t hp h n=>?_⟩;unfold vB at b;rw[e,hp]at b;simp only[h]at b;rw[ja.2 n]at b;cases b
theorem Tr.idle{j:Nat}(q:j<m)(e:gV m l j=true):
  ∃p t,l[j]?=some p∧cG X.T V p = .pure∧p.dst=some t∧∀i∈fA l p,∀c h,c<m→l[c]?=some h→h.dst=some i→gV m l c=false:=by
 rcases tr.late with A|g
 ·exfalso;unfold gV at e;rw[sB]at e;obtain⟨r,b,k⟩:=e;simp only[cY,iI]at k;have:r<cI l:=by simpa using b
  have a:Nat.blt r m=true:=gJ (by omega);rw[k.1]at a;cases a
 unfold mg at g;simp only[cY]at g;have:=(eD.1 g.1.2) j (by simp[q]);rw[e]at this;simp only[jJ,mZ,cY]at this;obtain⟨p,hp⟩:=tr.get q;obtain⟨d,a⟩:=this;unfold qE at d;rw[hp]at d;simp only[cY]at d;obtain⟨⟨b,z⟩,n⟩:=d;have b:cG X.T V p = .pure:=by
  generalize cG X.T V p=y at b;cases y<;>first|rfl|cases b
 cases o:p.dst with
 |none=>rw[o]at n;cases n
 | some t =>
  refine⟨p,t,hp,b,o,λi x c h w v u=>?_⟩;unfold wL at a;rw[hp]at a;have s:=(eD.1 a) i x;have f:=(eD.1 s) c (by simp[w]);rw[v]at f;simp only[u]at f;simpa using f
theorem Tr.Cr{k:Nat}{o p:Oper}(e:m≤k)(h2:k<cI l)(d:l[k]?=some o)(hp:l[k+1]?=some p):kO V o p=none:=by
 rcases tr.late with f|b
 ·omega
 unfold mg at b;simp only[cY]at b;have:=(eD.1 b.2) k (by simp[h2]);simp only[kn]at this;rcases this with a|a
 ·have:=cC a;omega
 ·unfold vz at a;rw[d,hp]at a;simp only at a;cases c:kO V o p with
  |none=>rfl
  |some g=>rw[c]at a;cases a
theorem Tr.waits{i j:Nat}{o:Oper}(c:l[i]?=some o)(n:j<i)(p:cI l≤i):∃x∈o.after.toList,Region.binds .any x=true∧x.on=j:=by
 have g:=(aP.1 c).1;have e:gX j (gB l.toArray i)=true→∃x∈o.after.toList,Region.binds .any x=true∧x.on=j:=λa=>by
  have b:=ja.1 a;unfold gB at b;have h:l.toArray[i]?=some o:=by simpa using c
  rw[h]at b;simp only[eE,eQ]at b;obtain⟨x,⟨k,f⟩,m⟩:=b;exact⟨x,k,f,m⟩
 have d:=(eD.1 tr.tail) i (by simp[g]);simp only[kn]at d;rcases d with a|a
 ·have:=cC a;omega
 ·exact e ((eD.1 a) j (by simp;omega))
omit tr in
theorem AS{i j:Nat}(d:m≤i)(c:i<cI l)(b:gV m l j=false):fy (fG l) i j=true:=by
 cases a:fy (fG l) i j with
 |true=>rfl
 | false =>
  exfalso;have:gV m l j=true:=by
   unfold gV;rw[sB];refine⟨i,by simp[c],?_⟩;rw[a];have:Nat.blt i m=false:=by
    cases a:Nat.blt i m with
    |false=>rfl
    |true=>have:=cC a;omega
   rw[this];rfl
  rw[b]at this;cases this
omit tr in
theorem ox{a:Array Bool}{i:Nat}(p:a.size=l.length):i∈Region.ready .any l.toArray a↔∃o,l[i]?=some o∧a[i]?=some false∧∀x∈o.after.toList,Region.binds .any x=true→a[x.on]?=some true:=by
 unfold Region.ready;rw[eQ];constructor
 ·rintro⟨m,c⟩;have g:i<l.length:=by simpa using m
  have b:l[i]?=some l[i]:=bX g;have h:l.toArray[i]?=some l[i]:=by simpa using b
  rw[h]at c;simp only[gk,kt,cY,iI]at c;refine⟨l[i],b,?_,λx j f=>?_⟩
  ·obtain⟨e,d⟩:∃e,a[i]?=some e:=⟨_,jd (by omega)⟩
   have:=c.1;rw[cM,d]at this;rw[d];simp at this;rw[this]
  ·have:=(oS.1 c.2) x (by simpa using j);rw[f]at this;simp only[jJ,mZ]at this;rw[cM]at this;cases k:a[x.on]? with
   |none=>rw[k]at this;cases this
   |some e=>rw[k]at this;simp at this;rw[this]
 ·rintro⟨o,b,d,n⟩;have g:=(aP.1 b).1;refine⟨by simpa using g,?_⟩;have h:l.toArray[i]?=some o:=by simpa using b
  rw[h];simp only[gk,kt,cY,iI];refine⟨by rw[cM,d];rfl,oS.2 λx j=>?_⟩;cases f:Region.binds .any x with
  |false=>rfl
  | true =>
   simp only[jJ,mZ];rw[cM,n x (by simpa using j) f];rfl
theorem Tr.back{k:Nat}{p:Oper}(hp:l[k]?=some p):∀x∈p.after.toList,Region.binds .any x=true→x.on<k:=λx f b=>by
 have a:=tr.j9;simp only[jB,cY]at a;have d:=(aP.1 hp).1;have:=(eD.1 a.2) k (by simp[d]);have c:x.on∈gB l.toArray k:=by
  unfold gB;have e:l.toArray[k]?=some p:=by simpa using hp
  rw[e];simp only[eE,eQ];exact⟨x,⟨f,b⟩,rfl⟩
 exact cC ((eD.1 this) _ c)
theorem Tr.nonempty{b:Array Bool}(d:b.size=l.length):∀(n i:Nat),i<n→i<m→b[i]?=some false→∃i,i∈Region.ready .any l.toArray b
 |0,i,h,_,_=>by omega
 | n+1,i,s,hi,j=>by
  obtain⟨o,g⟩:=tr.get hi;by_cases e:∀a∈o.after.toList,Region.binds .any a=true→b[a.on]?=some true
  ·exact⟨i,(ox d).2 ⟨o,g,j,e⟩⟩
  ·simp only[oW]at e;obtain⟨a,q,k,p⟩:=e;have r:=tr.back g a q k;obtain⟨c,f⟩:∃c,b[a.on]?=some c:=⟨_,jd (by rw[d];have:=tr.ml;omega)⟩
   refine Tr.nonempty d n a.on (by omega) (by omega) ?_;cases c with
   |false=>exact f
   |true=>exact absurd f p
theorem zc (E:aZ P X.T) (G:eH P X call) {q:Gh} (N:eC q X.gl) {Q:Exit→Act→World→Prop}
  (A:∀f b c a g,ia P X nt V l m e va HK q b c a g→(∀i,i<m→gV m l i=false→b[i]?=some true)→l.length≤f+c→wpAny P .any l.toArray Q f b a g.w):∀(f:Nat) (b:Array Bool) (c:Nat) (a:Act) (g:Gh),ia P X nt V l m e va HK q b c a g→l.length≤f+c→wpAny P .any l.toArray Q f b a g.w:=by
 intro f
 induction f with
 | zero =>
  intro b c a g d t;have ao:c≤m:=by
   rw[← d.kD];have:=List.length_filter_le (λi=>b.getD i false) (List.range m);simpa using this
  have ap:=tr.ml;have H:c=m:=by omega
  refine A 0 b c a g d (λi o _=>?_) t;have:=xm (λi=>b.getD i false) m (by rw[d.kD,H]) i o;simp only[cM]at this;cases z:b[i]? with
  |none=>rw[z]at this;cases this
  |some n=>rw[z]at this;simp at this;rw[this]
 | succ f al =>
  intro b c a g d t;by_cases r:∀i,i<m→gV m l i=false→b[i]?=some true
  ·exact A (f+1) b c a g d r t
  ·simp only[oW]at r;obtain⟨j,ab,ad,k⟩:=r;have k:b[j]?=some false:=by
    obtain⟨n,y⟩:∃n,b[j]?=some n:=⟨_,jd (by rw[d.fQ];have:=tr.ml;omega)⟩
    cases n with
    |true=>exact absurd y k
    |false=>exact y
   refine⟨λag=>?_,λi aa=>?_⟩
   ·obtain⟨i,o⟩:=tr.nonempty d.fQ (j+1) j (by omega) ab k;rw[ag]at o;cases o
   ·obtain⟨x,p,D,s⟩:=(ox d.fQ).1 aa;have R:i<m:=by
     rcases ez i m with u|L
     ·exact u
     ·exfalso;rcases ez i (cI l)with u|M
      ·have I:∀h,b[h]?=some true→∃am,l[h]?=some am:=λh ac=>tr.get (d.main h ac)
       have:=kz (S:=λh=>b[h]?=some true) d.cl (i+1) i j x (by omega) p s I (AS L u ad);rw[k]at this;cases this
      ·obtain⟨an,aj,F,ak⟩:=tr.waits p (j:=j) (by omega) M;have:=s an aj F;rw[ak,k]at this;cases this
    have ah:ky P l.toArray Q x a g (wpAny P .any l.toArray Q f (b.setIfInBounds i true)):=d.step tr E G N R p D s λB C K=>al _ (c+1) B C K (by omega)
    unfold wpOp;have af:l.toArray[i]?=some x:=by simpa using p
    rw[af];simp only[];rcases ah with⟨v,ai⟩|⟨v,ae⟩
    ·rw[bB v];exact .inl ai
    ·rw[bO (by simp[v])];exact ae
structure wR (P:Program) (X:Cx) (nt:Nat) (V:List Nat) (l:List Oper) (m:Nat) (en:Nat→DE) (va:Nat→D) (k:Nat) (e:DE) (h:Y) (g0:Gh) (L:Array Bool) (a:Act) (g:Gh):Prop where
 size:a.tmps.size=nt
 defers:a.defers=[]
 fQ:L.size=l.length
 cl:∀(i:Nat) (o:Oper),L[i]?=some true→l[i]?=some o→∀x∈o.after.toList,Region.binds .any x=true→L[x.on]?=some true
 tl:∀i,k≤i→i<l.length→L[i]?=some false
 md:∀i,m≤i→i<k→L[i]?=some true
 pn:∀i,i<m→L[i]?≠some true→gV m l i=true
 ext:aH g0 g
 inv:Inv g h
 env:∀t d,(∀z p,z<m→L[z]?≠some true→l[z]?=some p→p.dst≠some t)→aQ e t=some d→O g (a.tmps.getD t undef) d
 mO:∀z p t d,z<m→L[z]?≠some true→l[z]?=some p→t∈fA l p→aQ (en z) t=some d→O g (a.tmps.getD t undef) d
 rN:∀z p t,z<m→L[z]?≠some true→l[z]?=some p→p.dst=some t→aQ e t=some (va z)
omit tr in
theorem tF{a:Array Bool}{i:Nat}(hi:i<a.size)(e:a[i]?=some false):∀(n:Nat),((List.range n).filter λb => !((a.setIfInBounds i true).getD b false)).length+(if i<n then 1 else 0)=((List.range n).filter λb => !(a.getD b false)).length
 |0=>by simp
 | n+1=>by
  have k:=tF hi e n;rw[jN,g6,g6,e6,e6,← k];by_cases f:i=n
  ·subst f;have c:(a.setIfInBounds i true).getD i false=true:=by
    rw[cM,mW hi];rfl
   have d:a.getD i false=false:=by rw[cM,e];rfl
   have g:([i].filter λb => !((a.setIfInBounds i true).getD b false))=[]:=by rw[ib,c];rfl
   have h:([i].filter λb => !(a.getD b false))=[i]:=by rw[ib,d];rfl
   rw[g,h,bO (Nat.lt_irrefl _),bB (pf _)];simp
  ·have c:(a.setIfInBounds i true).getD n false=a.getD n false:=by
     rw[cM,hA f,← cM]
   have d:(i<n+1)↔(i<n):=by omega
   simp only[d];have j:([n].filter λb => !((a.setIfInBounds i true).getD b false))=([n].filter λb => !(a.getD b false)):=by
    rw[ib,ib,c];rfl
   rw[j];omega
omit tr in
theorem tE(p:Nat→Bool):∀(n:Nat),((List.range n).filter λa => !(p a)).length+((List.range n).filter p).length=n
 |0=>rfl
 | n+1=>by
  have b:=tE p n;rw[jN,g6,g6,e6,e6];cases hp:p n<;>simp[hp]<;>omega
omit tr in
theorem ow{a:Act}{dst:Option Nat}{v:Value}{t:Nat}(h:dst≠some t):(a.put dst v).tmps.getD t undef=a.tmps.getD t undef:=by
 cases dst with
 |none=>rfl
 | some d =>
  have c:d≠t:=λb=>h (by rw[b])
  simp only[Act.put,cM];rw[hA c]
omit tr in
theorem vS{a:Act}{v:Value}{t:Nat}(h:t<a.tmps.size):(a.put (some t) v).tmps.getD t undef=v:=by
 simp[Act.put,Array.getD,h]
theorem AU (ba:aZ P X.T) (bb:eH P X call) {ax:Gh} (bf:eC ax X.gl) {Q:Exit→Act→World→Prop} {al:DE→Y→Option R} {r:R} {e0:DE}
  (bp:∀e h a g,aH ax g→dC nt g e a→Inv g h→(∀t,t∉dF l→aQ e t=aQ e0 t)→eX X call nt V dL l (l.drop (cI l)) e h al=some r→wpList P l.toArray Q (l.drop (cI l)) a g.w) :
  ∀(N k:Nat) (e:DE) (h:Y) (n:Array Bool) (a:Act) (g:Gh),m≤k→k≤cI l→eX X call nt V dL l (l.drop k) e h al=some r→(∀t,t∉dF l→aQ e t=aQ e0 t)→wR P X nt V l m en va k e h ax n a g →
   ((List.range m).filter λi => !(n.getD i false)).length+(l.length - k)≤N→wpAny P .any l.toArray Q N n a g.w:=by
 have cr:=tr.Ml;have cu:=tr.ml;intro N
 induction N with
 | zero =>
  intro k e h n a g bj bk F ai b b4;have a2:k=cI l:=by omega
  have ce:((List.range m).filter λi => !(n.getD i false))=[]:=fC (by omega);have ah:∀i,i<m→n[i]?=some true:=λi K=>by
   have:=(m8.1 ce) i (by simp[K]);simp only[iI,Bool.not_eq_false,cM]at this;cases z:n[i]? with
   |none=>rw[z]at this;cases this
   |some am=>rw[z]at this;simp at this;rw[this]
  subst a2;refine wH tr.j9 tr.tail (l.drop (cI l)) (cI l) 0 n a g.w (aX _) rfl b.fQ (λi K=>?_) (by simp;omega) (bp e h a g b.ext ⟨b.size,b.defers,λt C H=>b.env t C (λf p q v=>absurd (ah f q) v) H⟩ b.inv ai F);rcases ez i (cI l)with L|I
  ·rw[hR L];rcases ez i m with o|o
   ·exact ah i o
   ·exact b.md i o L
  ·rw[iy (by omega)];exact b.tl i I K
 | succ N bu =>
  intro k e h n a g bj bk F ai b b4;by_cases az:k=cI l∧∀i,i<m→n[i]?=some true
  ·obtain⟨a2,ah⟩:=az;subst a2;refine wH tr.j9 tr.tail (l.drop (cI l)) (cI l) (N+1) n a g.w (aX _) rfl b.fQ (λi K=>?_) (by simp;omega) (bp e h a g b.ext ⟨b.size,b.defers,λt C H=>b.env t C (λf p q v=>absurd (ah f q) v) H⟩ b.inv ai F);rcases ez i (cI l)with L|I
   ·rw[hR L];rcases ez i m with o|o
    ·exact ah i o
    ·exact b.md i o L
   ·rw[iy (by omega)];exact b.tl i I K
  have b5:∀c,n[c]?=some true→∃p,l[c]?=some p:=λc z=>⟨_,bX (by have:=(je.1 z).1;rw[b.fQ]at this;exact this)⟩
  have bw:∀i,i<m→n[i]?≠some true→n[i]?=some false:=λi K aj=>by
   obtain⟨am,A⟩:∃am,n[i]?=some am:=⟨_,jd (by rw[b.fQ];omega)⟩
   cases am with
   |true=>exact absurd A aj
   |false=>exact A
  refine⟨λau=>?_,λi b7=>?_⟩
  ·by_cases q:∀i,i<m→n[i]?=some true
   ·have ct:k<cI l:=by
      rcases ez k (cI l)with L|I
      ·exact L
      ·exact absurd ⟨by omega,q⟩ az
    have bl:l[k]?=some l[k]:=bX (show k<l.length by omega);have:k∈Region.ready .any l.toArray n:=(ox b.fQ).2 ⟨_,bl,b.tl k (aX _) (by omega),λy B A=>by
     have:=tr.back bl y B A;rcases ez y.on m with o|o
     ·exact q _ o
     ·exact b.md _ o this⟩
    rw[au]at this;cases this
   ·simp only[oW]at q;obtain⟨j,bi,bx⟩:=q;obtain⟨i,K⟩:=tr.nonempty b.fQ (j+1) j (by omega) bi (bw j bi bx);rw[au]at K;cases K
  ·obtain ⟨s,w,ap,H⟩:=(ox b.fQ).1 b7;have bg:i<n.size:=(je.1 ap).1;have G:∀c,c≠i→(n.setIfInBounds i true)[c]?=n[c]?:=λc z=>hA (λE=>z E.symm)
   have ay:(n.setIfInBounds i true)[i]?=some true:=mW bg;have bc:∀(c:Nat) (p:Oper),(n.setIfInBounds i true)[c]?=some true→l[c]?=some p→∀y∈p.after.toList,Region.binds .any y=true→(n.setIfInBounds i true)[y.on]?=some true:=λc p z hp y B A=>by
    have bo:∀ak,n[ak]?=some true→(n.setIfInBounds i true)[ak]?=some true:=λak af=>by
     by_cases bq:ak=i
     ·subst bq;exact ay
     ·rw[G ak bq];exact af
    by_cases M:c=i
    ·subst M;rw[w]at hp;injection hp with hp;subst hp;exact bo _ (H y B A)
    ·rw[G c M]at z;exact bo _ (b.cl c p z hp y B A)
   have bd:=tF bg ap m;have cj:ky P l.toArray Q s a g (wpAny P .any l.toArray Q N (n.setIfInBounds i true)):=by
    rcases ez i m with aa|I
    ·
     have aj:n[i]?≠some true:=by rw[ap];simp
     have bn:=b.pn i aa aj;obtain⟨p,t,hp,bm,ar,cs⟩:=tr.idle aa bn;rw[w]at hp;injection hp with hp;subst hp;have af:eV X.T V s=false:=by unfold eV;rw[bm]
     have cg:iV X.T V s=false:=by unfold iV;rw[bm]
     have ch:=vD af (tr.step i s aa w).1 (h2:=h) (λa9=>by rw[cg]at a9;cases a9);have ck:=((tr.step i s aa w).2.2 t ar).1;refine mB ba bb ch b.inv (bf.ext b.ext) (λd C u x=>b.mO i s d C aa aj w u x) λan bv ad a1 a5 _=>?_
     rw[bB aa]at bd;have ab:∀c,(n.setIfInBounds i true)[c]?≠some true→c≠i∧n[c]?≠some true:=λc z=>by
      by_cases M:c=i
      ·subst M;exact absurd ay z
      ·rw[G c M]at z;exact⟨M,z⟩
     refine bu k e h _ _ an bj bk F ai ⟨by rw[ar];simp[Act.put,b.size],by rw[ar];simp[Act.put,b.defers],by simp[b.fQ],bc,λc o h2=>by rw[G c (by omega)];exact b.tl c o h2,λc o h2=>by rw[G c (by omega)];exact b.md c o h2,λc o h2=>b.pn c o (ab c h2).2,b.ext.trans ad,a1,λd C a4 x=>?_,λf p d C q v hp u x=>?_,λf p d q v hp ag=>b.rN f p d q (ab f v).2 hp ag⟩ (by omega)
     ·by_cases D:s.dst=some d
      ·have av:=b.rN i s d aa aj w D;rw[x]at av;injection av with av;rw[av,D,vS (by rw[ar]at D;injection D with D;subst D;rw[b.size];exact ck)];exact a5
      ·rw[ow D];refine(b.env d C (λf p q v hp=>?_) x).ext ad;by_cases br:f=i
       ·subst br;rw[w]at hp;injection hp with hp;subst hp;exact D
       ·exact a4 f p q (by rw[G f br];exact v) hp
     ·have bt:=ab f v;have b9:=b.pn f q bt.2;obtain⟨cw,cy,aq,_,_,b3⟩:=tr.idle q b9;rw[hp]at aq;injection aq with aq;subst aq;have a3:s.dst≠some d:=λE=>by
       have:=b3 d u i s aa w E;rw[bn]at this;cases this
      rw[ow a3];exact(b.mO f p d C q bt.2 hp u x).ext ad
    ·
     have b6:i=k:=by
      rcases hI i k with o|o|o
      ·have:=b.md i I o;rw[ap]at this;cases this
      ·exact o
      ·exfalso;have b8:=b.tl k (aX _) (by have:=(aP.1 w).1;omega);have:∃y∈s.after.toList,Region.binds .any y=true∧y.on=k:=by
        rcases ez i (cI l)with h2|h2
        ·rcases tr.uT I h2 o w with B|⟨B,_⟩
         ·exact B
         ·omega
        ·exact tr.waits w o h2
       obtain⟨y,B,A,cp⟩:=this;have:=H y B A;rw[cp,b8]at this;cases this
     subst b6;have a0:i<cI l:=by
      rcases ez i (cI l)with o|o
      ·exact o
      ·exfalso;refine az ⟨by omega,λf q=>?_⟩;obtain⟨y,B,A,a7⟩:=tr.waits w (j:=f) (by omega) o;rw[← a7];exact H y B A
     have bh:i<l.length:=by omega
     have b2:l.drop i=s::l.drop (i+1):=by
      rw[sE bh];have:l[i]?=some l[i]:=bX bh;rw[w]at this;injection this with this;rw[← this]
     have cd:gZ X call nt V dL l s e h (λac ao=>eX X call nt V dL l (l.drop (i+1)) ac ao al)=some r:=by
      rw[b2]at F;cases a6:l.drop (i+1)with
      |nil=>rw[a6]at F;simpa only[eX]using F
      | cons p cx =>
       rw[a6]at F;simp only[eX]at F;have cf:l[i+1]?=some p:=by
        have:(l.drop (i+1))[0]?=some p:=by rw[a6];rfl
        simpa using this
       rw[tr.Cr I a0 w cf]at F;exact F
     obtain⟨C,ao,au,bz⟩:=ou cd;have cq:∀f p d,f<m→n[f]?≠some true→l[f]?=some p→d∈fA l s→p.dst≠some d:=λf p d q v hp u ag=>by
      have A:=tr.u9 i f s p d a0 q w hp u ag;exact v (kz (S:=λc=>n[c]?=some true) b.cl (i+1) i f s (by omega) w H b5 A)
     have ca:(if i<m then 1 else 0)=0:=bO (by omega);rw[ca]at bd;refine mB ba bb au b.inv (bf.ext b.ext) (λd C u x=>b.env d C (λf p q v hp=>cq f p d q v hp u) x) λan bv ad a1 a5 _=>?_
     have ab:∀c,c<m→(n.setIfInBounds i true)[c]?=n[c]?:=λc z=>G c (by omega)
     have a8:∀ac,eX X call nt V dL l (l.drop (i+1)) ac ao al=some r→(∀d,s.dst≠some d→aQ ac d=aQ e d)→(∀d,s.dst=some d→d<nt∧aQ ac d=some C)→wpAny P .any l.toArray Q N (n.setIfInBounds i true) (a.put s.dst bv) an.w:=λac ci ae b0=>by
      refine bu (i+1) ac ao _ _ an (by omega) (by omega) ci (λd u=>?_) ⟨by cases z:s.dst<;>simp[Act.put,b.size],by cases z:s.dst<;>simp[Act.put,b.defers],by simp[b.fQ],bc,λc o h2=>by rw[G c (by omega)];exact b.tl c (by omega) h2,λc o h2=>?_,λc o h2=>b.pn c o (by rw[← ab c o];exact h2),b.ext.trans ad,a1,λd aw a4 x=>?_,λf p d aw q v hp u x=>?_,λf p d q v hp ag=>?_⟩ (by omega)
      ·rw[ae d (λE=>u (by unfold dF;rw[gI];exact⟨s,dB w,E⟩))];exact ai d u
      ·by_cases M:c=i
       ·subst M;exact ay
       ·rw[G c M];exact b.md c o (by omega)
      ·by_cases D:s.dst=some d
       ·obtain⟨cn,cm⟩:=b0 d D;rw[cm]at x;injection x with x;rw[← x,D,vS (by rw[b.size];exact cn)];exact a5
       ·rw[ow D];rw[ae d D]at x;exact(b.env d aw (λf p q v hp=>a4 f p q (by rw[ab f q];exact v) hp) x).ext ad
      ·rw [ab f q]at v;have a3:s.dst≠some d:=λE=>by
        rcases tr.uT I a0 (show f<i by omega) w with⟨y,B,A,a7⟩|⟨_,B⟩
        ·have:=H y B A;rw[a7]at this;exact v this
        ·exact B p d hp E u
       rw[ow a3];exact(b.mO f p d aw q v hp u x).ext ad
      ·rw[ab f q]at v;rw[ae d λE=>by have:=tr.js w hp E ag;omega];exact b.rN f p d q v hp ag
     rcases bz with⟨b1,ae⟩|⟨t,be,L,ae⟩
     ·exact a8 e ae (λ_ _=>rfl) (λd u=>by rw[b1]at u;cases u)
     ·refine a8 _ ae (λd u=>?_) (λd u=>?_)
      ·rw[fJ,bO (λE=>u (by rw[be,E]))]
      ·rw[be]at u;injection u with u;subst u;exact⟨L,by rw[fJ,bB rfl]⟩
   unfold wpOp;have cc:l.toArray[i]?=some s:=by simpa using w
   rw[cc];simp only[];rcases cj with⟨af,co⟩|⟨af,cb⟩
   ·rw[bB af];exact .inl co
   ·rw[bO (by simp[af])];exact cb
end
section
variable {P:Program} {X:Cx} {R:Type}
theorem yz(H:aZ P X.T)(bl:P.follows .mixedOrders=true){call:bC}(ae:eH P X call){nt:Nat}{V dL:List Nat}{m:Nat}{l:List Oper}{e:DE}{h:Y}{N:DE→Y→Option R}{r:R}(B:iA X call nt V dL m l e h N=some r)
  {Q:Exit→Act→World→Prop} {g:Gh} {a:Act} (hi:Inv g h) (af:eC g X.gl) (ah:dC nt g e a)
  (bn:∀e' h' g' y,N e' h'=some r→(∀t,t∉dF l→aQ e' t=aQ e t)→aH g g'→Inv g' h'→dC nt g' e' y→Q .normal y g'.w) {id:Nat}:(Code.region id l.toArray true).wp P Q a g.w:=by
 obtain⟨en,hp,va,HK,tr,i⟩:=yB B;refine wp_region_any bl ?_;have C:=g.tS;have b6:=tr.ml;have bc:ia P X nt V l m e va HK g.draw (Array.replicate l.length false) 0 a g.draw:=by
  have A:∀b,(Array.replicate l.length false)[b]?≠some true:=λb hi=>by
   rw[Array.getElem?_replicate]at hi;split at hi<;>simp at hi
  have ao:∀b,(Array.replicate l.length false).getD b false=false:=λb=>by
   rw[cM,Array.getElem?_replicate];split<;>rfl
  refine⟨ah.size,ah.defers,by simp,λb j hi=>absurd hi (A b),λb hi=>absurd hi (A b),?_,aH.refl _,?_,λt ab _ B=>(ah.get t ab B).ext C,λb j t hi=>absurd hi (A b),λb j t hi=>absurd hi (A b),λb aj j c t M hi=>absurd hi (A b)⟩
  ·have:(List.range m).filter (λb=>(Array.replicate l.length false).getD b false)=[]:=by
     rw[m8];intro b _;rw[ao];simp
   rw[this];rfl
  ·have:((List.range m).filter (bV X.T V l)).filter (λb=>(Array.replicate l.length false).getD b false)=[]:=by
     rw[m8];intro b _;rw[ao];simp
   rw[this];simp only[fD,tr.uF];exact Gh.yC hi
 have:=zc tr H ae (af.ext C) (Q:=Q) (λa1 v b1 y g' k al b5=>?_) l.length (Array.replicate l.length false) 0 a g.draw bc (by omega)
 ·rw[pe];exact this
 ·have K:∀b,b<m→v[b]?≠some true→gV m l b=true:=λb hi D=>by
    cases bj:gV m l b with
    |true=>rfl
    |false=>exact absurd (al b hi bj) D
  have av:∀(b:Nat) (j:Oper),b<m→l[b]?=some j→cG X.T V j ≠ .pure→v[b]?=some true:=λb j hi s i=>by
   apply oV;intro D;obtain⟨c,t,o,I,_⟩:=tr.idle hi (K b hi D);rw[s]at o;injection o with o;subst o;exact i I
  have x:∀(d:Nat) (c:Oper),(l.take m)[d]?=some c→d<m∧l[d]?=some c:=λd c f=>by
   rw[dX]at f;split at f
   ·rename_i bk;exact⟨bk,f⟩
   ·cases f
  have ak:∀(d:Nat) (c:Oper),(l.take m)[d]?=some c→cG X.T V c = .dQ→v[d]?=some true:=λd c f i=>av d c (x d c f).1 (x d c f).2 (by rw[i];intro p;cases p)
  have bp:ku X.T V g.draw g' y (l.take m):=⟨λd c t f i B=>k.qZ d c t (ak d c f i) (x d c f).2 i B,λd L c F t M f E i aq a9 ba D=>k.tO d L c F t M (ak d c f i) (ak L F E aq) (x d c f).2 (x L F E).2 i aq a9 ba D⟩
  have bf:Inv g' (hp m):=by
   have ac:(((List.range m).filter (bV X.T V l)).filter λb=>v.getD b false)=(List.range m).filter (bV X.T V l):=by
    rw[o8];intro b0 bv;obtain⟨z,q⟩:=eQ.1 bv;simp at z;obtain⟨j,s⟩:=tr.get z;rw[cM,av b0 j z s (λi=>by unfold bV eV at q;rw[s]at q;simp only[i]at q;cases q)];rfl
   have:=k.inv;rw[ac,tr.ma m (aX _)]at this;exact this
  obtain⟨ac,z,a3,bh,bw,bb,be,ai,bm,ar⟩:=ri H (l.take m) (en m) (hp m) g' _ i k.ext bf (k.sat tr) bp;rw[← bw];have b3:=tE (λb=>v.getD b false) m;have b4:=k.kD;have b2:=tr.Ml;refine AU tr H ae (af.ext C) (e0:=e) (r:=r) (λe' h' ay a2 an br bg bi bt=>?_) a1 m ac z v y a3 (aX _) tr.mM bh (λt w=>?_) ⟨ai.size,ai.defers,k.fQ,k.cl,λb q G=>?_,λb q G=>by omega,K,bb,be,ai.get,λax c t ab u ad o w a8=>bm _ _ (k.mO tr u o (λaj bx M ap bq ag bu=>?_) t ab w a8),λax c t u ad o au=>?_⟩ (by omega)
  ·refine oD H ae (l.drop (cI l)) e' h' N bt a2 ay bg ((af.ext C).ext an) br λa0 q a4 az aw G a5 a6 a7=>bn a0 q a4 az aw (λt w=>?_) ((C.trans an).trans a5) a6 a7
   rw[G t (λp=>w ?_),bi t w];unfold dF at p ⊢;rw[gI]at p ⊢;obtain⟨c,bo,n⟩:=p;exact⟨c,hF bo,n⟩
  ·rw[ar t λj s _ p=>w (by unfold dF;rw[gI];exact⟨j,fm s,p⟩)];rw[tr.aO (t:=t) 0 m (gK _) (aX _) λd c aw L f ag=>w (by unfold dF;rw[gI];exact⟨c,dB f,ag⟩),tr.e0]
  ·obtain⟨aa,am⟩:∃aa,v[b]?=some aa:=⟨_,jd (by rw[k.fQ];exact G)⟩
   cases aa with
   |false=>exact am
   |true=>have:=k.main b am;omega
  ·obtain⟨F,bz,n,_,_,bd⟩:=tr.idle u (K ax u ad);rw[o]at n;injection n with n;subst n;exact al aj ap (bd M bu aj bx ap bq ag)
  ·rw[ar t λj s i p=>?_]
   ·exact tr.val u o au u (aX _)
   ·obtain⟨d,f⟩:=jM s;obtain⟨b7,E⟩:=x d j f;have:=tr.js E o p au;subst this;obtain⟨F,bz,n,I,_⟩:=tr.idle u (K _ u ad);rw[E]at n;injection n with n;subst n;rw[i]at I;cases I
end
def cv:Ex→Exit
 |.aS =>.normal
 |.ext i =>.exit i
 |.ret =>.ret
def iO(d:List Nat)(c:Code)(b e':DE):Prop:=∀a,a∈d→a∉dG c→aQ e' a=aQ b a
def eF:Nat→gi
 |0,_,_,_=>none
 | n+1,a,ds,h=>(a ds h).bind λr=>match r.1 with
  |.aS=>eF n a r.2.1 r.2.2
  |x=>some (x,r.2.1,r.2.2)
def ks(e:gi):Prop:=∀a b c d,e a b c=some d→∃f,eF f a b c=some d
theorem od{b:DE}:∀{c:List Nat} {t:Nat} {d:D},aQ (jD b c) t=some d→t∈c∧aQ b t=some d
 |[],t,d,h=>by cases h
 | u::r,t,d,h=>by
  simp only[jD]at h;split at h
  ·rename_i x f;rw[fJ]at h;split at h
   ·rename_i e;subst e;injection h with h;subst h;exact⟨e8 ..,f⟩
   ·obtain⟨a,h2⟩:=od h;exact⟨eP _ a,h2⟩
  ·obtain⟨a,h2⟩:=od h;exact⟨eP _ a,h2⟩
theorem oe{b:DE}:∀{f:List Nat} {t:Nat},t∈f→aQ (jD b f) t=aQ b t
 |[],t,h=>by cases h
 | u::r,t,h=>by
  simp only[jD];by_cases c:u=t
  ·subst c;split
   ·rename_i x e;rw[fJ,bB rfl,e]
   ·rename_i e;by_cases a:u∈r
    ·exact oe a
    ·rw[e];cases g:aQ (jD b r) u with
     |none=>rfl
     |some d=>exact absurd (od g).1 a
  ·have a:t∈r:=by
     rcases e7.1 h with h|h
     ·exact absurd h.symm c
     ·exact h
   split
   ·rw[fJ,bO c];exact oe a
   ·exact oe a
theorem u4{e' c:DE}:∀{b:List Nat} {t:Nat} {d:D},aQ (eY b (fM e' b) c) t=some d→(t∈b∧(aQ e' t=some d∨d = .any))∨aQ c t=some d
 |[],t,d,h =>.inr h
 | u::r,t,d,h=>by
  simp only[fM,eY,l9,mP]at h;rw[fJ]at h;split at h
  ·rename_i f;subst f;injection h with h;refine .inl ⟨e8 ..,?_⟩;cases e:aQ e' u with
   |none=>rw[e]at h;exact .inr h.symm
   |some x=>rw[e]at h;exact .inl (by rw[← h])
  ·rcases u4 h with⟨a,h2⟩|a
   ·exact .inl ⟨eP _ a,h2⟩
   ·exact .inr a
theorem u5:∀{b:List Nat} {ds:List D} {a:DE} {t:Nat},t∉b→aQ (eY b ds a) t=aQ a t
 |[],_,_,_,_=>rfl
 | u::r,ds,a,t,h=>by
  simp only[eY];rw[e7,not_or]at h;rw[fJ,bO (λc=>h.1 c.symm)];exact u5 h.2
theorem Ce{a:List Nat}{c:Code}{t:Nat}:t∈eW a c↔t∈a∧t∈dG c:=by
 unfold eW;rw[eQ,ja]
theorem vq{b:List Nat}{c:Code}{t:Nat}:t∈b.filter (λt => !(gX t (dG c)))↔t∈b∧t∉dG c:=by
 rw[eQ];cases a:gX t (dG c)with
 |true=>simp[ja.1 a]
 | false =>
  have:t∉dG c:=λd=>by rw[ja.2 d]at a;cases a
  simp[this]
theorem iD{k:Nat}{e:List Nat}{c:Code}{i e':DE}{g:Gh}{a:Act}(p:iO e c i e')(d:dC k g e' a):dC k g (eY (eW e c) (fM e' (eW e c)) (h5 e c i)) a:=
 ⟨d.size,d.defers,λf h o=>by
  rcases u4 o with⟨j,b⟩|j
  ·rcases b with b|rfl
   ·exact d.get f h b
   ·exact .any _
  ·obtain⟨b,l⟩:=od j;obtain⟨m,n⟩:=vq.1 b;exact d.get f h (by rw[p f m n];exact l)⟩
theorem jx{a:List Nat}{c:Code}{b:DE}{ds:List D}:iO a c b (eY (eW a c) ds (h5 a c b)):=λg e d=>by
 rw[u5 (λf=>d (Ce.1 f).2)];exact oe (vq.2 ⟨e,d⟩)
section
variable {P:Program} {X:Cx}
theorem pO{R:Type}{d:D}{x y:Option R}{r:R}(h:bG d x y=some r):∃b,d = .bool b∧(if b then x else y)=some r:=by
 unfold bG at h;split at h
 ·exact⟨true,rfl,h⟩
 ·exact⟨false,rfl,h⟩
 ·cases h
theorem pU{l:List Oper}{id:Nat}{a:Bool}:dG (.region id l.toArray a)=dF l:=by simp[dG,dF]
theorem tq (a0:aZ P X.T) (bc:P.follows .mixedOrders=true) {am:bC} (a1:eH P X am) {loop:gi} (bb:ks loop) {v:jI}:∀(c:Code) (e:DE) (h:Y) (R:Type) (s:Ex→DE→Y→Option R) (r:R),cK X am loop v c e h R s=some r →
  ∀(Q:Exit→Act→World→Prop) (g:Gh) (a:Act),Inv g h→eC g X.gl→dC v.nt g e a→(∀x e' h' g' L,s x e' h'=some r→iO v.aO c e e'→aH g g'→Inv g' h'→dC v.nt g' e' L→Q (cv x) L g'.w)→c.wp P Q a g.w:=by
 intro c
 induction c with
 |skip=>intro e h R s r b Q g a n q m k;exact wp_skip (k .aS e h g a b (λ_ _ _=>rfl) (aH.refl g) n m)
 |label ax=>intro e h R s r b Q g a n q m k;exact wp_label (k .aS e h g a b (λ_ _ _=>rfl) (aH.refl g) n m)
 |ret=>intro e h R s r b Q g a n q m k;exact wp_ret (k .ret e h g a b (λ_ _ _=>rfl) (aH.refl g) n m)
 |exit G=>intro e h R s r b Q g a n q m k;exact wp_exit (k (.ext G) e h g a b (λ_ _ _=>rfl) (aH.refl g) n m)
 |goto ax=>intro e h R s r b;simp[cK]at b
 |scope y ag=>intro e h R s r b;simp[cK]at b
 |refuse a4=>intro e h R s r b;simp[cK]at b
 |rangeFunc bo br bn y bp bq=>intro e h R s r b;simp[cK]at b
 | region id bl a5 =>
  intro e h R s r b Q g a n q m k;obtain⟨ax⟩:=bl;simp only[cK]at b;cases a5 with
  | false =>
   refine wp_region_lit (oD a0 a1 ax e h (s .aS) b g a n q m λe' h' g' L d l ap aq ar=>?_);exact k .aS e' h' g' L d (λf _ C=>l f (by rw[pU]at C;exact C)) ap aq ar
  | true =>
   exact yz a0 bc a1 b n q m λe' h' g' L d l ap aq ar=>k .aS e' h' g' L d (λf _ C=>l f (by rw[pU]at C;exact C)) ap aq ar
 | seq x N aj ak =>
  intro e h R s r b Q g a n q m k;simp only[cK]at b;refine wp_seq (aj e h R _ r b _ g a n q m λa6 o d j i av bg E t u=>?_);have aw:∀f,f∈v.aO→f∉dG (.seq x N)→aQ o f=aQ e f:=λf d l=>bg f d (λF=>l (by simp[dG,F]))
  cases a6 with
  | aS =>
   refine ak o d R s r av Q j i t (q.ext E) u λay ao l ab ah ba ae a9 ac af=>k ay ao l ab ah ba (λf d l=>?_) (E.trans a9) ac af
   rw[ae f d (λF=>l (by simp[dG,F])),aw f d l]
  |ext G=>exact k (.ext G) o d j i av aw E t u
  |ret=>exact k .ret o d j i av aw E t u
 | cond H x N aj ak =>
  intro e h R s r b Q g a n q m k;simp only[cK]at b;split at b
  ·cases b
  rename_i an a8;have ai:O g (a.eval H) an:=lU q (λf an _ C=>m.get f an C) a8;split at b
  ·
   obtain⟨K,ad,b⟩:=ff.1 b;obtain⟨y,rfl,I⟩:=pO ad;have D:a.eval H = .bool y:=by
    generalize bh:a.eval H=bm at ai;cases ai;rfl
   have a3:∀(az:Code) (z:Ex) (o:DE) (d:Y) (j:Gh) (i:Act),(∀f,f∈dG az→f∈dG (.cond H x N))→some (z,fM o (eW v.aO (.cond H x N)),d)=some K→iO v.aO az e o→aH g j→Inv j d→dC v.nt j o i→Q (cv z) i j.w:=λaz z o d j i bi p A w t u=>by
    injection p with p;subst p;have bf:iO v.aO (.cond H x N) e o:=λf d l=>A f d (λF=>l (bi f F))
    exact k z _ d j i b jx w t (iD bf u)
   cases y with
   |true=>exact wp_cond_true D (aj e h cS _ K I Q g a n q m λz o d j i p A w t u=>a3 x z o d j i (λf C=>by simp[dG,C]) p A w t u)
   |false=>exact wp_cond_false D (ak e h cS _ K I Q g a n q m λz o d j i p A w t u=>a3 N z o d j i (λf C=>by simp[dG,C]) p A w t u)
  ·obtain⟨y,rfl,I⟩:=pO b;have D:a.eval H = .bool y:=by
    generalize bh:a.eval H=bm at ai;cases ai;rfl
   cases y with
   |true=>exact wp_cond_true D (aj e h R s r I Q g a n q m λz o d j i p A w t u=>k z o d j i p (λf d l=>A f d (λF=>l (by simp[dG,F]))) w t u)
   |false=>exact wp_cond_false D (ak e h R s r I Q g a n q m λz o d j i p A w t u=>k z o d j i p (λf d l=>A f d (λF=>l (by simp[dG,F]))) w t u)
 | block id y ag =>
  intro e h R s r b Q g a n q m k;simp only[cK]at b;have a2:∀(x:Ex) (i:Act) (al:World),Q (cv (cL id x)) i al→Exit.inBlock id Q (cv x) i al:=λx i al D=>by
   cases x with
   |aS=>exact D
   |ret=>exact D
   | ext G =>
    simp only[cv,Exit.inBlock];by_cases au:G=id
    ·subst au;rw[bB rfl];simpa[cL,cv]using D
    ·rw[bO au];have:Nat.beq G id=false:=by
      cases I:Nat.beq G id with
      |false=>rfl
      |true=>exact absurd (e9 I) au
     simpa[cL,this,cv]using D
  split at b
  ·obtain⟨K,ad,b⟩:=ff.1 b;refine wp_block (ag e h cS _ K ad _ g a n q m λz o d j i p A w t u=>a2 _ _ _ ?_);injection p with p;subst p;exact k (cL id z) _ d j i b jx w t (iD A u)
  ·exact wp_block (ag e h R _ r b _ g a n q m λz o d j i p A w t u=>a2 _ _ _ (k (cL id z) o d j i p A w t u))
 | loop y ag =>
  intro e h R s r b Q g a n q m k;simp only[cK]at b;obtain⟨K,ad,b⟩:=ff.1 b;obtain⟨bj,bd⟩:=bb _ _ _ _ ad;refine wp_loop_ghost (λM a a4=>∃aa h' g',a4=g'.w∧aH g g'∧Inv g' h'∧dC v.nt g' (eY (eW v.aO y) aa (h5 v.aO y e)) a∧eF M (λaa h'=>cK X am loop v y (eY (eW v.aO y) aa (h5 v.aO y e)) h' cS λx e' a7=>some (x,fM e' (eW v.aO y),a7)) aa h'=some K) bj
   ⟨_,h,g,rfl,aH.refl g,n,iD (e':=e) (λ_ _ _=>rfl) m,bd⟩ ?_
  rintro M i al ⟨aa,d,j,rfl,E,t,u,B⟩;cases M with
  |zero=>cases B
  | succ M =>
   simp only[eF]at B;obtain⟨bk,be,B⟩:=ff.1 B;refine ag _ d cS _ bk be _ j i t (q.ext E) u λay ao l ab ah p A w ac af=>?_
   injection p with p;subst p;simp only at B;have ae:iO v.aO y e ao:=λf d l=>by
    rw[A f d l];exact jx f d l
   cases ay with
   |aS=>exact⟨M,pf M,_,l,ab,rfl,E.trans w,ac,iD ae af,B⟩
   | ext G =>
    injection B with B;subst B;exact k (.ext G) _ l ab ah b jx (E.trans w) ac (iD ae af)
   | ret =>
    injection B with B;subst B;exact k .ret _ l ab ah b jx (E.trans w) ac (iD ae af)
end
inductive Ok (n:Nat):D→Prop
 |any:Ok n .any
 |bF:Ok n .bF
 |bool (b):Ok n (.bool b)
 |int (k i):Ok n (.int k i)
 |str (s):Ok n (.str s)
 |e5:Ok n .e5
 |ptr (o i off) (h:o<n):Ok n (.ptr o i off)
 |aG (cs) (h:∀d∈cs,Ok n d):Ok n (.aG cs)
 |J:Ok n .J
 |sl (Z full rows) (h:∀row∈rows,∀d∈row,Ok n d):Ok n (.sl Z full rows)
 |aC (Z o r k) (h:o<n):Ok n (.aC Z o r k)
 |gb:Ok n .gb
 |fn (f a b) (ha:∀d∈a,Ok n d) (hb:∀d∈b,Ok n d):Ok n (.fn f a b)
 |gY:Ok n .gY
 |iface (t d) (h:Ok n d):Ok n (.iface t d)
 |agg (cs) (h:∀d∈cs,Ok n d):Ok n (.agg cs)
 |bR (ds) (h:∀d∈ds,Ok n d):Ok n (.bR ds)
 |raw (v):Ok n (.raw v)
theorem j6{a:Type}{l:List a}{x:a}(h:x∈l):∃i:Nat,l[i]?=some x:=jM h
theorem O.Ct{g:Gh}{v:Value}{d:D}(h:O g v d):Ok g.ms.length d:=by
 induction h with
 |any v=>exact .any
 |bF=>exact .bF
 |bool m=>exact .bool m
 |int C l=>exact .int C l
 |str G=>exact .str G
 |e5=>exact .e5
 |ptr q p ad E j=>exact .ptr _ _ _ (aP.1 j).1
 | aG m q s f u o n k e =>
  refine .aG _ λd c=>?_
  obtain⟨b,a⟩:=j6 c;exact e b d a
 |J=>exact .J
 | sl K l r ai P ah y aa t R ac ab Q f o n k e =>
  refine .sl _ _ _ λF z d c=>?_
  obtain⟨p,w⟩:=j6 z;obtain⟨b,a⟩:=j6 c;exact e p F w b d a
 |aC q ae l r E j y X T t=>exact .aC _ _ _ _ (aP.1 j).1
 |gb=>exact .gb
 | fn N first L I H u o ag af B A =>
  refine .fn _ _ _ (λd c=>?_) (λd c=>?_)
  ·obtain⟨b,a⟩:=j6 c;have i:=(aP.1 a).1;exact B b _ d (bX (show b<I.length by omega)) a
  ·obtain⟨b,a⟩:=j6 c;have i:=(aP.1 a).1;exact A b _ d (bX (show b<H.length by omega)) a
 |gY=>exact .gY
 |iface aj v d h e=>exact .iface _ _ e
 | agg f s x n k e =>
  refine .agg _ λd c=>?_
  obtain⟨b,a⟩:=j6 c;have i:=(aP.1 a).1;exact e b _ d (bX (show b<f.length by omega)) a
 | bR f M x k e =>
  refine .bR _ λd c=>?_
  obtain⟨b,a⟩:=j6 c;have i:=(aP.1 a).1;exact e b _ d (bX (show b<f.length by omega)) a
 |raw v=>exact .raw _
theorem O.cut{g g':Gh}(F:g'.w=g.w){n:Nat}(I:∀(o:Nat) (m:Me),o<n→g.ms[o]?=some m→g'.ms[o]?=some m)(T:∀b,g'.L b→g.L b){v:Value}{d:D}(h:O g v d)(a:Ok n d):O g' v d:=by
 have H:∀b,g.V b→g'.V b:=λb r=>⟨by rw[F];exact r.1,λab=>r.2 (T b ab)⟩
 induction h with
 |any v=>exact .any v
 |bF=>exact .bF
 |bool b=>exact .bool b
 |int aj n=>exact .int aj n
 |str an=>exact .str an
 |e5=>exact .e5
 | ptr o q ak m C =>
  cases a with
  |ptr _ _ _ B=>exact .ptr o q ak m (I o m B C)
 | aG b o x k z l e E j =>
  cases a with
  |aG _ a=>exact .aG b o x k (λp=>H _ (z p)) (λc d i=>by rw[F];exact l c d i) e (λc d i=>j c d i (a d (dB i)))
 |J=>exact .J
 | sl M n u ao R am p ae y aa ag af G k l e E j =>
  cases a with
  |sl _ _ _ a=>exact .sl M n u ao R am p ae y aa ag af (λK=>⟨(G K).1,H _ (G K).2⟩) k (λq t s c d i=>by rw[F];exact l q t s c d i) e (λq t s c d i=>j q t s c d i (a t (dB s) d (dB i)))
 | aC o al n u m C p ad ac y =>
  cases a with
  |aC _ _ _ _ B=>exact .aC o al n u m (I o m B C) p ad ac y
 |gb=>exact .gb
 | fn Q first N ar aq z l av au ai ah =>
  cases a with
  |fn _ _ _ X r=>exact .fn Q first N ar aq z l (λc v d e f=>ai c v d e f (X d (dB f))) (λc v d e f=>ah c v d e f (r d (dB f)))
 |gY=>exact .gY
 | iface ap v d h j =>
  cases a with
  |iface _ _ a=>exact .iface ap v d (j a)
 | agg k x A e E j =>
  cases a with
  |agg _ a=>exact .agg k x A e (λc v d e f=>j c v d e f (a d (dB f)))
 | bR k P A E j =>
  cases a with
  |bR _ a=>exact .bR k P A (λc v d e f=>j c v d e f (a d (dB f)))
 |raw v=>exact .raw _
section
variable {P:Program} {X:Cx}
def xk(a h2:Y)(d:D):Prop:=Ok a.length d∧∀(b e f:Nat) (c:List (List D)),b<a.length→h2[b]?=some (.row e f c)→a[b]?=some (.row e f c)∨∀g∈c,∀d∈g,Ok a.length d
noncomputable def scope(a h2:Y)(d:D):Option (D × Y):=cZ (xk a h2 (aW a.length h2 4 d)) (some (aW a.length h2 4 d,h2.take a.length))
theorem wg{l c:Gh}{i h2 h':Y}{v:Value}{d d':D}(x:Inv l i)(k:aH l c)(s:Inv c h2)(ah:O c v d)(t:scope i h2 d=some (d',h')):∃g',g'.w=c.w∧aH l g'∧Inv g' h'∧O g' v d':=by
 unfold scope cZ at t;split at t
 case isFalse=>cases t
 rename_i M;injection t with t;injection t with z A;subst z;subst A;have av:l.ms.length≤c.ms.length:=by
  rcases nh l.ms.length with ax|aw
  ·omega
  ·have o:l.ms.length - 1<l.ms.length:=by omega
   have:=k.ms _ _ (bX o);have:=(aP.1 this).1;omega
 have au:∀(a:Nat) (b:Me),a<i.length→c.ms[a]?=some b→l.ms[a]?=some b:=λa b h e=>by
  have o:a<l.ms.length:=by rw[x.len];exact h
  have N:=bX o;have:=k.ms _ _ N;rw[e]at this;rw[N,← this]
 let K:Nat→Prop:=λf=>c.L f∧((∃(a:Nat) (b:Me),a<i.length∧c.ms[a]?=some b∧b.b=f∧∃p r q,h2[a]?=some (.row p r q))∨∀(a:Nat) (b:Me),c.ms[a]?=some b→b.b≠f)
 let g1:Gh:=⟨c.w,c.ms,K⟩
 let g':Gh:=⟨c.w,c.ms.take i.length,K⟩
 have ai:O g1 v (aW i.length h2 4 d):=qa (g:=c) (g1:=g1) (n0:=i.length) s rfl rfl (λf j=>j) 4 v d ah;have u:∀(a:Nat) (b:Me),a<i.length→g1.ms[a]?=some b→g'.ms[a]?=some b:=λa b h e=>by
  show(c.ms.take i.length)[a]?=some b;rw[dX,bB h];exact e
 have ab:∀{v d},O c v d→Ok i.length d→O g' v d:=λ{v d} ak ae=>O.cut (g:=c) (g':=g') rfl (n:=i.length) (λa b h e=>u a b h e) (λf j=>j.1) ak ae
 have y:∀{a:Nat} {b:Me},g'.ms[a]?=some b→c.ms[a]?=some b:=λ{a b} e=>by
  have:(c.ms.take i.length)[a]?=some b:=e;rw[dX]at this;split at this
  ·exact this
  ·cases this
 have ac:aH l g':=⟨⟨k.os,k.tape,k.output,k.size,λa b e=>u a b (by rw[← x.len];exact(aP.1 e).1) (k.ms a b e),λf j=>⟨⟨(k.V f j).1.1,λad=>(k.V f j).1.2 ad.1⟩,(k.V f j).2⟩⟩,
  λf j=>⟨⟨(k.bH f j).1.1,⟨(k.bH f j).1.2.1,.inr (k.bH f j).1.2.2⟩,λa b e=>(k.bH f j).1.2.2 a b (y e)⟩,(k.bH f j).2⟩⟩
 have F:∀{a:Nat} {H:Ob},(h2.take i.length)[a]?=some H→a<i.length∧h2[a]?=some H:=λ{a H} h=>by
  rw[dX]at h;split at h
  ·rename_i o;exact⟨o,h⟩
  ·cases h
 refine⟨g',rfl,ac,⟨?_,λa p r q h=>?_,λa an p r R ap q ao b am z A X B C=>?_,λf j=>?_,λa b e=>s.msb a b (y e)⟩,O.cut (g:=g1) (g':=g') rfl (n:=i.length) (λa b h e=>u a b h e) (λf j=>j) ai M.1⟩
 ·show(c.ms.take i.length).length=(h2.take i.length).length;simp[s.len]
 ·obtain⟨o,h⟩:=F h;obtain⟨b,T,e,m⟩:=s.live a p r q h;refine⟨b,T,u a b o e,m.eA,m.fI,m.pos,⟨m.hL,.inl ⟨a,b,o,e,rfl,p,r,q,h⟩⟩,m.len,m.le,m.room,m.row,λP I G Q d E=>?_⟩;obtain⟨v,B,C,aa⟩:=m.cell P I G Q d E;refine⟨v,B,C,ab aa ?_⟩;rcases M.2 a p r q o h with aj|ag
  ·obtain⟨ay,aq,ar,af⟩:=x.live a p r q aj;obtain⟨az,_,_,al⟩:=af.cell P I G Q d E;have:=al.Ct
   rwa [x.len]at this
  ·exact ag I (dB G) d (dB E)
 ·exact s.inj a an p r R ap q ao b am (F z).2 (F A).2 (y X) (y B) C
 ·exact s.L f j.1
structure dW where
 body:Code
 res:List ResultVar
 A:jI
 sc:Bool
def fR(X:Cx)(h:Y)(a:DE):List ResultVar→Option (List D)
 |[]=>some []
 |.tmp t::r=>(aQ a t).bind λd=>(fR X h a r).bind λds=>some (d::ds)
 |.cell t ty::r=>(aQ a t).bind λp=>(aA X.T h ty p).bind λd=>(fR X h a r).bind λds=>some (d::ds)
def aK:List D→D
 |[d]=>d
 |ds =>.bR ds
noncomputable def hS(X:Cx)(d:bC)(f:gi)(a:dW)(args:List D)(h:Y):Option (D × Y):=
 (match Nat.ble args.length a.A.nt with
 |true=>cK X d f a.A a.body (eY (List.range args.length) args []) h (D × Y) λg e b=>fa g ((fR X b e a.res).bind λc=>match a.sc with
   |true=>scope h b (aK c)
   |false=>some (aK c,b))
 |false=>none)
structure cN (P:Program) (f:FuncId) (fi:dW):Prop where
 body:∃fn,P.funcs[f]?=some fn∧fn.body=some fi.body∧fn.ntmps=fi.A.nt∧fn.results.toList=fi.res
 enter:∀(as0:Array Value) (w:World),(callFunc f as0).run P w = .ok (.enter f as0) w
theorem q3(m:aZ P X.T){g:Gh}{h:Y}(hi:Inv g h){C:Nat}{p:DE}{a:Act}(i:dC C g p a):∀(v:List ResultVar) (ds:List D),fR X h p v=some ds→∃vs,(v.mapM (oB a.tmps)).run P g.w = .ok vs g.w∧aI g vs ds
 | [],ds,b=>by
  simp only[fR,iN]at b;subst b;exact⟨[],by simp,.nil⟩
 | .tmp t::r,ds,b=>by
  simp only[fR]at b;obtain⟨d,k,b⟩:=ff.1 b;obtain⟨j,l,b⟩:=ff.1 b;injection b with b;subst b;obtain⟨vs,n,o⟩:=q3 m hi i r j l;have e:=i.get t d k;exact⟨a.tmps.getD t undef::vs,by simp[oB,n],.cons e o⟩
 | .cell t F::r,ds,b=>by
  simp only[fR]at b;obtain⟨E,k,b⟩:=ff.1 b;obtain⟨d,c,b⟩:=ff.1 b;obtain⟨j,l,b⟩:=ff.1 b;injection b with b;subst b;obtain⟨vs,n,o⟩:=q3 m hi i r j l;have e:=i.get t E k;obtain⟨x,s,A⟩:=tK m hi e c;have z:∃f,a.tmps.getD t undef = .pointer (some f):=by
   unfold aA at c;split at c
   ·split at c
    ·obtain⟨G,H,vs,u,_⟩:=e.n1;exact⟨_,u⟩
    ·generalize u:a.tmps.getD t undef=I at e;cases e;exact⟨_,rfl⟩
    ·cases c
   ·cases c
  obtain⟨f,q⟩:=z;rw[q]at s;have B:(loadVar F f).run P g.w = .ok x g.w:=by simpa[Instr.loadAt,Instr.sureAddr]using s
  have y:a.tmps[t]?.getD undef = .pointer (some f):=by rw[← q,cM]
  exact⟨x::vs,by simp[oB,y,asAddr,B,n],.cons A o⟩
theorem q4(o:aZ P X.T){g:Gh}{h:Y}(hi:Inv g h){r:Nat}{f:DE}{a:Act}(q:dC r g f a){b:Func}{ds:List D}(p:fR X h f b.results.toList=some ds):∃v,(results b a.tmps).run P g.w = .ok v g.w∧O g v (aK ds):=by
 obtain⟨e,j,k⟩:=q3 o hi q _ _ p;obtain⟨d,l⟩:∃d,b.results.toList=d:=⟨_,rfl⟩
 have n:b.results=d.toArray:=by rw[← l]
 rw[l]at j;refine⟨if s:e.toArray.size=1 then e.toArray[0]else .tuple e.toArray,?_,?_⟩
 ·rw[CP,n,List.mapM_toArray];simp only[dU,Sem.run_map,j,dY,fp]
 ·have t:=k.length;cases k with
  | nil =>
   rw[dif_neg (by simp)];exact .om .nil
  | cons i c =>
   cases c with
   |nil=>simpa[aK]using i
   | cons m c =>
    rw[dif_neg (by simp)];exact .om (.cons i (.cons m c))
theorem zL (q:aZ P X.T) (ah:P.follows .mixedOrders=true) {A:bC} (R:eH P X A) {M:gi} (ag:ks M) {B:FuncId} {c:dW} (ab:cN P B c) {args:List D} {h h':Y} {d:D} (n:hS X A M c args h=some (d,h'))
  {g:Gh} {vs:List Value} (hi:Inv g h) (ad:eC g X.gl) (K:aI g vs args):h6 P B vs.toArray g.w λv w'=>∃g',g'.w=w'∧aH g g'∧Inv g' h'∧O g' v d:=by
 obtain⟨E,ac,Q,ai,L⟩:=ab.body;unfold hS at n;split at n
 case h_2=>cases n
 rename_i I;have I:=cC I;have aw:=K.length;refine calls_of_wp ac Q (tq q ah R ag c.body _ h _ _ (d,h') n _ g _ hi ad ⟨by simp[ai];omega,rfl,λx l am=>?_⟩ λl i b m z r av F o t=>?_)
 ·
  have ao:∀(k:List Nat) (a:List D),k.length=a.length→aQ (eY k a []) x=some l→∃e:Nat,k[e]?=some x∧a[e]?=some l:=by
   intro k
   induction k with
   |nil=>intro a _ h;cases h
   | cons y ax an =>
    intro a H h;cases a with
    |nil=>cases H
    | cons d a =>
     simp only[eY,l9,mP]at h;rw[fJ]at h;split at h
     ·rename_i ak;injection h with h;exact⟨0,by simp[ak],by simp[h]⟩
     ·obtain⟨e,p,b⟩:=an a (by simpa using H) h;exact⟨e+1,by simpa using p,by simpa using b⟩
  obtain⟨e,p,b⟩:=ao _ _ (by simp) am;have af:e=x:=by
   have:=(aP.1 p).2;simpa using this
  subst af;have au:=(aP.1 b).1;have G:vs[e]?=some (vs[e]'(by omega)):=bX (by omega);have:(vs.toArray++Array.replicate (E.ntmps - vs.toArray.size) undef).getD e undef=vs[e]'(by omega):=by
   rw[cM,oT (by simp;omega)];simp[G]
  rw[this];exact K.get e _ l G b
 ·have C:(match c.sc with|true=>(fR X b i c.res).bind λa=>scope h b (aK a)|false=>(fR X b i c.res).bind λa=>some (aK a,b))=some (d,h')→z.defers=[]∧∃v,(results E z.tmps).run P m.w = .ok v m.w∧∃y,Ending.returned v = .returned y∧∃g',g'.w=m.w∧aH g g'∧Inv g' h'∧O g' y d:=λf=>by
    refine⟨t.defers,?_⟩;split at f
    ·obtain⟨a,j,f⟩:=ff.1 f;rw[← L]at j;obtain⟨v,u,s⟩:=q4 q o t j;obtain⟨g',al,aa,ae,aj⟩:=wg hi F o s f;exact⟨v,u,v,rfl,g',al,aa,ae,aj⟩
    ·obtain⟨a,j,f⟩:=ff.1 f;rw[← L]at j;obtain⟨v,u,s⟩:=q4 q o t j;injection f with f;injection f with ap aq;subst ap;subst aq;exact⟨v,u,v,rfl,m,rfl,F,o,s⟩
  have N:(match c.sc with|true=>(fR X b i c.res).bind λa=>scope h b (aK a)|false=>(fR X b i c.res).bind λa=>some (aK a,b))=(fR X b i c.res).bind λa=>match c.sc with|true=>scope h b (aK a)|false=>some (aK a,b):=by
   cases c.sc<;>rfl
  cases l with
  |ext e=>cases r
  |aS=>exact C (by rw[N];exact r)
  |ret=>exact C (by rw[N];exact r)
end
end Go.Pi

/- Part 2 of the texts that the theorem needs: an interpreter on data, proved sound; the functions on data; laws about them. -/
import Derived.Test.YtinlnkhheafjaaaDoorM1
set_option linter.unusedSimpArgs false
set_option linter.unusedVariables false
set_option linter.unnecessarySimpa false
namespace Go.Eng
abbrev j4:=@decide_eq_false
abbrev rQ:=@Classical.byContradiction
abbrev rR:=@Classical.not_forall
end Go.Eng
namespace Go.Pi
open Go.Eng
theorem CA(p:Nat→Bool):∀(m:Nat),((List.range m).filter p).length=m→∀i,i<m→p i=true:=λm h i d=>by
 have b:(List.range m).filter p=List.range m:=by
  apply si.2;intro a c;rcases eW ((List.range m).filter p).length (List.range m).length with e|f
  ·simp at e;omega
  ·cases hp:p a with
   |true=>rfl
   | false =>
    exfalso;have:((List.range m).filter p).length<(List.range m).length:=by
     apply List.length_filter_lt_length_iff_exists.2;exact⟨a,c,by simp[hp]⟩
    omega
 exact si.1 b i (by simp[d])
def mG(T:aZ)(fz:List Nat)(j g:Gh)(a:Act)(e:List Oper):Prop:=
 (∀(d:Nat) (b:Oper) (c:Nat),e[d]?=some b→dK T fz b = .eR→b.dst=some c→jY T j g b (a.tmps.getD c undef)) ∧
 ∀(d h:Nat) (b f:Oper) (c i:Nat),e[d]?=some b→e[h]?=some f→dK T fz b = .eR→dK T fz f = .eR→b.dst=some c→f.dst=some i→d≠h→a.tmps.getD c undef≠a.tmps.getD i undef
structure n4 (pr:Nat→Prop) (n:Nat) (g:Gh) (e:DE) (a:Act):Prop where
 size:a.tmps.size=n
 defers:a.defers=[]
 get:∀t d,pr t→bC e t=some d→aB g (a.tmps.getD t undef) d
theorem mG.tail{T:aZ}{fz:List Nat}{e g:Gh}{a:Act}{o:Oper}{f:List Oper}(h:mG T fz e g a (o::f)):mG T fz e g a f:=
 ⟨λb c d hp=>h.1 (b+1) c d (by simpa using hp),λb n c p d q hp m i j k l r=>h.2 (b+1) (n+1) c p d q (by simpa using hp) (by simpa using m) i j k l (by omega)⟩
section
variable {P:Program} {X:Cx} {R:Type}
theorem vP (an:bQ P X.T) {fz:List Nat} {nt:Nat} {r:R} {D:Gh} {a:Act} {aj:Nat→Prop}:∀(u:List Oper) (e:DE) (h:Z) (g:Gh) (y:DE→Z→Option R),iq X fz u e h y=some r→aS D g→Inv g h→n4 aj nt g e a→mG X.T fz D g a u →
  ∃e' h' g',y e' h'=some r∧g'.w=g.w∧aS D g'∧Inv g' h'∧n4 aj nt g' e' a∧(∀v d,aB g v d→aB g' v d)∧∀t,(∀o∈u,dK X.T fz o = .eR→o.dst≠some t)→bC e' t=bC e t
 |[],e,h,g,y,p,n,hi,H,_=>⟨e,h,g,p,rfl,n,hi,H,λ_ _ G=>G,λ_ _=>rfl⟩
 | o :: u, e,h,g,y,p,n,hi,H,hp=>by
  have skip:iq X fz u e h y=some r→∃e' h' g',y e' h'=some r∧g'.w=g.w∧aS D g'∧Inv g' h'∧n4 aj nt g' e' a∧(∀v d,aB g v d→aB g' v d)∧∀t,(∀b∈o::u,dK X.T fz b = .eR→b.dst≠some t)→bC e' t=bC e t:=λp=>by
   obtain⟨e',h',g',ay,az,a0,a1,a2,a3,a4⟩:=vP an u e h g y p n hi H hp.tail;exact⟨e',h',g',ay,az,a0,a1,a2,a3,λt b7=>a4 t λb q=>b7 b (fH _ q)⟩
  unfold iq at p;split at p
  case h_2=>exact skip p
  rename_i ak t aq b3 ao;split at p
  case h_2=>cases p
  rename_i j a9;obtain⟨cf,ac,z,I,K,b5,be,cg,ae,a8,bv,ch,bu⟩:=hp.1 0 o t rfl aq ao;rw[b3]at I;injection I with I;subst I;rw[a9]at K;injection K with K;subst K
  let k:Gh:=⟨g.w,g.ms++[⟨z,j.V,1,1⟩],g.L⟩
  have af:k.ms[h.length]?=some ⟨z,j.V,1,1⟩:=by
   show(g.ms++_)[h.length]?=_;rw[← hi.len];simp
  have ar:∀(b:Nat) (m:Me),g.ms[b]?=some m→k.ms[b]?=some m:=λb m c=>by
   show(g.ms++_)[b]?=some m;rw[dS (bB.1 c).1];exact c
  have E:∀(b:Nat) (m:Me),k.ms[b]?=some m→(b<h.length∧g.ms[b]?=some m)∨(b=h.length∧m=⟨z,j.V,1,1⟩):=λb m c=>by
   have ab:(g.ms++[(⟨z,j.V,1,1⟩:Me)])[b]?=some m:=c;rcases jr b g.ms.length with B|heq|bz
   ·rw[dS B]at ab;exact .inl ⟨by rw[← hi.len];exact B,ab⟩
   ·subst heq;simp at ab;exact .inr ⟨hi.len,ab.symm⟩
   ·exfalso;have:=(bB.1 ab).1;simp at this;omega
  have ap:g3 g k:=⟨rfl,rfl,rfl,aT _,ar,λz bt=>⟨bt,rfl⟩⟩
  have bw:aS D k:=⟨⟨n.os,n.tape,n.output,n.size,λb m c=>ar b m (n.ms b m c),λM Q=>⟨(n.fz M Q).1,(n.fz M Q).2⟩⟩,λM Q=>by
   obtain⟨aw,cc⟩:=n.cC M Q;refine⟨⟨aw.1,aw.2.1,λb m c=>?_⟩,cc⟩;rcases E b m c with⟨_,c⟩|⟨_,rfl⟩
   ·exact aw.2.2 b m c
   ·have:=Q.1;show z≠M;omega⟩
  have ad:∀(b:Nat) (ai:Ob),(aK h ak j.V [j.zero])[b]?=some ai→(b<h.length∧h[b]?=some ai)∨(b=h.length∧ai = .row ak j.V [j.zero]):=λb ai F=>by
   unfold aK at F;rcases jr b h.length with B|heq|bz
   ·rw[dS B]at F;exact .inl ⟨B,F⟩
   ·subst heq;simp at F;exact .inr ⟨rfl,F.symm⟩
   ·exfalso;have:=(bB.1 F).1;simp at this;omega
  have b0:Inv k (aK h ak j.V [j.zero]):=by
   refine⟨by show(g.ms++[_]).length=(h++[_]).length;simp[hi.len],λb al a6 r1 q=>?_,λb x al a6 bi ce r1 cd ax ah am l f i N=>?_,hi.L,λb m c=>?_⟩
   ·rcases ad b _ q with⟨B,q⟩|⟨rfl,heq⟩
    ·obtain⟨m,bm,c,s⟩:=hi.live b al a6 r1 q;exact⟨m,bm,ar b m c,s.ff,s.fN,s.pos,s.hL,s.len,s.le,s.room,s.row,λac a5 l au d f=>by
      obtain⟨v,i,N,bq⟩:=s.cell ac a5 l au d f;exact⟨v,i,N,bq.gH ap⟩⟩
    ·injection heq with bn bo bp;subst bn;subst bo;subst bp;refine⟨_,a8,af,⟨(0,0),bv,.inl rfl⟩,rfl,b5,ae.2.1,rfl,aT _,by show 1*j.V≤a8.size;omega,λa5 G=>?_,λac a5 l au d f=>?_⟩
     ·simp at G;subst G;exact an.BO a9
     ·cases ac with
      | zero =>
       simp at l;subst l;obtain⟨v,bj,bk,bl⟩:=bu au d f;exact⟨v,by simpa using bj,bk,bl k⟩
      |succ ac=>simp at l
   ·rcases ad b _ am with⟨B,am⟩|⟨rfl,heq⟩
    ·rcases E b ax f with⟨_,f⟩|⟨bc,_⟩
     ·rcases ad x _ l with⟨b1,l⟩|⟨rfl,bx⟩
      ·rcases E x ah i with⟨_,i⟩|⟨bc,_⟩
       ·exact hi.inj b x al a6 bi ce r1 cd ax ah am l f i N
       ·omega
      ·exfalso;rw[af]at i;injection i with i;subst i;exact ae.2.2 b ax f N
     ·omega
    ·rcases ad x _ l with⟨b1,l⟩|⟨rfl,bx⟩
     ·rcases E x ah i with⟨_,i⟩|⟨bc,_⟩
      ·exfalso;rw[af]at f;injection f with f;subst f;exact ae.2.2 x ah i N.symm
      ·omega
     ·rfl
   ·rcases E b m c with⟨_,c⟩|⟨_,rfl⟩
    ·exact hi.msb b m c
    ·exact ae.1
  have b6:n4 aj nt k ((t,.ptr h.length 0 0)::e) a:=by
   refine⟨H.size,H.defers,λC d ag A=>?_⟩;rw[gQ]at A;by_cases bd:t=C
   ·subst bd;rw[bN rfl]at A;injection A with A;subst A;rw[be];have:=aB.ptr (g:=k) h.length 0 0 ⟨z,j.V,1,1⟩ af;simpa using this
   ·rw[cI bd]at A;exact(H.get C d ag A).gH ap
  have b4:mG X.T fz D k a u:=by
   refine⟨λb bg C q bb ba=>?_,hp.tail.2⟩;obtain⟨bh,b8,a7,I,K,b9,bf,ca,av,cb⟩:=hp.1 (b+1) bg C (by simpa using q) bb ba;have b2:=hp.2 0 (b+1) o bg t C rfl (by simpa using q) aq bb ao ba (by omega);refine⟨bh,b8,a7,I,K,b9,bf,ca,⟨av.1,av.2.1,λx m c=>?_⟩,cb⟩;rcases E x m c with⟨_,c⟩|⟨_,rfl⟩
   ·exact av.2.2 x m c
   ·intro aa;apply b2;rw[be,bf];have aa:z=a7:=aa;rw[aa]
  obtain⟨e',h',g',ay,az,a0,a1,a2,a3,a4⟩:=vP an u _ _ k y p bw b0 b6 b4;refine⟨e',h',g',ay,az,a0,a1,a2,λv d G=>a3 v d (G.gH ap),λC ag=>?_⟩;rw[a4 C λb q=>ag b (fH _ q),gQ,cI (λaa=>ag o (gq ..) aq (by rw[ao,aa]))]
end
section
variable {P:Program} {X:Cx} {R:Type} {call:bV} {nt:Nat} {fz eK:List Nat} {l:List Oper} {m:Nat} {e:DE} {h:Z} {en:Nat→DE} {hp:Nat→Z} {va:Nat→D} {HK:Nat→Z} (tr:Tr X call nt fz eK l m e h en hp va HK)
include tr
theorem jR.sat{r g:Gh}{n:Array Bool}{c:Nat}{a:Act}(f:jR P X nt fz l m e va HK r n c a g):n4 (λt=>∀z p,z<m→n[z]?≠some true→l[z]?=some p→p.dst≠some t) nt g (en m) a:=by
 refine⟨f.size,f.defers,λt q hp i=>?_⟩;by_cases d:t∈eF (l.take m)
 ·unfold eF at d;rw[iC]at d;obtain⟨p,v,k⟩:=d;obtain⟨o,b⟩:=lA v;rw[eP]at b;split at b
  ·rename_i j;have h:=tr.val j b k j (aT _);rw[i]at h;injection h with h;rw[h];refine f.done o p t ?_ b k;apply rQ;intro u;exact hp o p j u b k
  ·cases b
 ·have:=tr.bA (t:=t) 0 m (iD _) (aT _) λA p y s x w=>d (by
    unfold eF;rw[iC];exact⟨p,dX (by rw[eP,bN s];exact x),w⟩)
  rw[this,tr.e0]at i;exact f.base t q d i
theorem jR.py{w g:Gh}{r:Array Bool}{c:Nat}{a:Act}(s:jR P X nt fz l m e va HK w r c a g){i:Nat}{o:Oper}(hi:i<m)(u:l[i]?=some o)
  (y:∀j p t,j<m→l[j]?=some p→p.dst=some t→t∈looks l o→r[j]?=some true):∀t d,t∈looks l o→bC (en i) t=some d→aB g (a.tmps.getD t undef) d:=λt d v n=>by
 by_cases f:t∈eF (l.take m)
 ·unfold eF at f;rw[iC]at f;obtain⟨p,A,h⟩:=f;obtain⟨j,b⟩:=lA A;rw[eP]at b;split at b
  ·rename_i q;have x:=tr.look i j o p t hi q u b v h;have z:=sM tr.mc u x;have k:=tr.val q b h z (Nat.le_of_lt hi);rw[n]at k;injection k with k;rw[k];exact s.done j p t (y j p t q b h v) b h
  ·cases b
 ·have:=tr.bA (t:=t) 0 i (iD _) (by omega) λD p E F C B=>f (by
    unfold eF;rw[iC];exact⟨p,dX (by rw[eP,bN (show D<m by omega)];exact C),B⟩)
  rw[this,tr.e0]at n;exact s.base t d f n
theorem Tr.zZ{k j:Nat}{o:Oper}(s:m≤k)(h2:k<dL l)(f:j<k)(e:l[k]?=some o):
  (∃x∈o.after.toList,Region.binds .any x=true∧x.on=j)∨(j<m∧∀p t,l[j]?=some p→o.dst=some t→t∉looks l p):=by
 rcases tr.late with u|d
 ·omega
 unfold oR at d;simp only[dQ]at d;have:=(eV.1 d.1.1) k (by simp[h2]);simp only[mv]at this;rcases this with a|a
 ·have:=dE a;omega
 ·have:=(eV.1 a) j (by simp[f]);simp only[mv,dQ]at this;rcases this with a|⟨a,b⟩
  ·left;have c:=kE.1 a;unfold ie at c;have i:l.toArray[k]?=some o:=by simpa using e
   rw[i]at c;simp only[fc,fC]at c;obtain⟨x,⟨q,g⟩,r⟩:=c;exact⟨x,q,g,r⟩
  ·right;refine⟨dE a,λp t hp h n=>?_⟩;unfold AB at b;rw[e,hp]at b;simp only[h]at b;rw[kE.2 n]at b;cases b
theorem Tr.idle{j:Nat}(q:j<m)(e:iO m l j=true):
  ∃p t,l[j]?=some p∧dK X.T fz p = .pure∧p.dst=some t∧∀i∈looks l p,∀c h,c<m→l[c]?=some h→h.dst=some i→iO m l c=false:=by
 rcases tr.late with A|g
 ·exfalso;unfold iO at e;rw[xD]at e;obtain⟨r,b,k⟩:=e;simp only[dQ,kq]at k;have:r<dL l:=by simpa using b
  have a:Nat.blt r m=true:=h5 (by omega);rw[k.1]at a;cases a
 unfold oR at g;simp only[dQ]at g;have:=(eV.1 g.1.2) j (by simp[q]);rw[e]at this;simp only[gn,pQ,dQ]at this;obtain⟨p,hp⟩:=tr.get q;obtain⟨d,a⟩:=this;unfold uZ at d;rw[hp]at d;simp only[dQ]at d;obtain⟨⟨b,z⟩,n⟩:=d;have b:dK X.T fz p = .pure:=by
  generalize dK X.T fz p=y at b;cases y<;>first|rfl|cases b
 cases o:p.dst with
 |none=>rw[o]at n;cases n
 | some t =>
  refine⟨p,t,hp,b,o,λi x c h w v u=>?_⟩;unfold BN at a;rw[hp]at a;have s:=(eV.1 a) i x;have f:=(eV.1 s) c (by simp[w]);rw[v]at f;simp only[u]at f;simpa using f
theorem Tr.Jd{k:Nat}{o p:Oper}(e:m≤k)(h2:k<dL l)(d:l[k]?=some o)(hp:l[k+1]?=some p):m6 fz o p=none:=by
 rcases tr.late with f|b
 ·omega
 unfold oR at b;simp only[dQ]at b;have:=(eV.1 b.2) k (by simp[h2]);simp only[mv]at this;rcases this with a|a
 ·have:=dE a;omega
 ·unfold Az at a;rw[d,hp]at a;simp only at a;cases c:m6 fz o p with
  |none=>rfl
  |some g=>rw[c]at a;cases a
theorem Tr.waits{i j:Nat}{o:Oper}(c:l[i]?=some o)(n:j<i)(p:dL l≤i):∃x∈o.after.toList,Region.binds .any x=true∧x.on=j:=by
 have g:=(bB.1 c).1;have e:iP j (ie l.toArray i)=true→∃x∈o.after.toList,Region.binds .any x=true∧x.on=j:=λa=>by
  have b:=kE.1 a;unfold ie at b;have h:l.toArray[i]?=some o:=by simpa using c
  rw[h]at b;simp only[fc,fC]at b;obtain⟨x,⟨k,f⟩,m⟩:=b;exact⟨x,k,f,m⟩
 have d:=(eV.1 tr.tail) i (by simp[g]);simp only[mv]at d;rcases d with a|a
 ·have:=dE a;omega
 ·exact e ((eV.1 a) j (by simp;omega))
omit tr in
theorem Hy{i j:Nat}(d:m≤i)(c:i<dL l)(b:iO m l j=false):gI (gO l) i j=true:=by
 cases a:gI (gO l) i j with
 |true=>rfl
 | false =>
  exfalso;have:iO m l j=true:=by
   unfold iO;rw[xD];refine⟨i,by simp[c],?_⟩;rw[a];have:Nat.blt i m=false:=by
    cases a:Nat.blt i m with
    |false=>rfl
    |true=>have:=dE a;omega
   rw[this];rfl
  rw[b]at this;cases this
omit tr in
theorem re{a:Array Bool}{i:Nat}(p:a.size=l.length):i∈Region.ready .any l.toArray a↔∃o,l[i]?=some o∧a[i]?=some false∧∀x∈o.after.toList,Region.binds .any x=true→a[x.on]?=some true:=by
 unfold Region.ready;rw[fC];constructor
 ·rintro⟨m,c⟩;have g:i<l.length:=by simpa using m
  have b:l[i]?=some l[i]:=cA g;have h:l.toArray[i]?=some l[i]:=by simpa using b
  rw[h]at c;simp only[gC,js,dQ,kq]at c;refine⟨l[i],b,?_,λx j f=>?_⟩
  ·obtain⟨e,d⟩:∃e,a[i]?=some e:=⟨_,kp (by omega)⟩
   have:=c.1;rw[dN,d]at this;rw[d];simp at this;rw[this]
  ·have:=(rK.1 c.2) x (by simpa using j);rw[f]at this;simp only[gn,pQ]at this;rw[dN]at this;cases k:a[x.on]? with
   |none=>rw[k]at this;cases this
   |some e=>rw[k]at this;simp at this;rw[this]
 ·rintro⟨o,b,d,n⟩;have g:=(bB.1 b).1;refine⟨by simpa using g,?_⟩;have h:l.toArray[i]?=some o:=by simpa using b
  rw[h];simp only[gC,js,dQ,kq];refine⟨by rw[dN,d];rfl,rK.2 λx j=>?_⟩;cases f:Region.binds .any x with
  |false=>rfl
  | true =>
   simp only[gn,pQ];rw[dN,n x (by simpa using j) f];rfl
theorem Tr.back{k:Nat}{p:Oper}(hp:l[k]?=some p):∀x∈p.after.toList,Region.binds .any x=true→x.on<k:=λx f b=>by
 have a:=tr.mc;simp only[lj,dQ]at a;have d:=(bB.1 hp).1;have:=(eV.1 a.2) k (by simp[d]);have c:x.on∈ie l.toArray k:=by
  unfold ie;have e:l.toArray[k]?=some p:=by simpa using hp
  rw[e];simp only[fc,fC];exact⟨x,⟨f,b⟩,rfl⟩
 exact dE ((eV.1 this) _ c)
theorem Tr.nonempty{b:Array Bool}(d:b.size=l.length):∀(n i:Nat),i<n→i<m→b[i]?=some false→∃i,i∈Region.ready .any l.toArray b
 |0,i,h,_,_=>by omega
 | n+1,i,s,hi,j=>by
  obtain⟨o,g⟩:=tr.get hi;by_cases e:∀a∈o.after.toList,Region.binds .any a=true→b[a.on]?=some true
  ·exact⟨i,(re d).2 ⟨o,g,j,e⟩⟩
  ·simp only[rR]at e;obtain⟨a,q,k,p⟩:=e;have r:=tr.back g a q k;obtain⟨c,f⟩:∃c,b[a.on]?=some c:=⟨_,kp (by rw[d];have:=tr.ml;omega)⟩
   refine Tr.nonempty d n a.on (by omega) (by omega) ?_;cases c with
   |false=>exact f
   |true=>exact absurd f p
theorem E4 (E:bQ P X.T) (G:fy P X call) {q:Gh} (N:eU q X.gl) {Q:Exit→Act→World→Prop}
  (A:∀f b c a g,jR P X nt fz l m e va HK q b c a g→(∀i,i<m→iO m l i=false→b[i]?=some true)→l.length≤f+c→wpAny P .any l.toArray Q f b a g.w):∀(f:Nat) (b:Array Bool) (c:Nat) (a:Act) (g:Gh),jR P X nt fz l m e va HK q b c a g→l.length≤f+c→wpAny P .any l.toArray Q f b a g.w:=by
 intro f
 induction f with
 | zero =>
  intro b c a g d t;have ao:c≤m:=by
   rw[← d.oc];have:=List.length_filter_le (λi=>b.getD i false) (List.range m);simpa using this
  have ap:=tr.ml;have H:c=m:=by omega
  refine A 0 b c a g d (λi o _=>?_) t;have:=CA (λi=>b.getD i false) m (by rw[d.oc,H]) i o;simp only[dN]at this;cases z:b[i]? with
  |none=>rw[z]at this;cases this
  |some n=>rw[z]at this;simp at this;rw[this]
 | succ f al =>
  intro b c a g d t;by_cases r:∀i,i<m→iO m l i=false→b[i]?=some true
  ·exact A (f+1) b c a g d r t
  ·simp only[rR]at r;obtain⟨j,ab,ad,k⟩:=r;have k:b[j]?=some false:=by
    obtain⟨n,y⟩:∃n,b[j]?=some n:=⟨_,kp (by rw[d.gU];have:=tr.ml;omega)⟩
    cases n with
    |true=>exact absurd y k
    |false=>exact y
   refine⟨λag=>?_,λi aa=>?_⟩
   ·obtain⟨i,o⟩:=tr.nonempty d.gU (j+1) j (by omega) ab k;rw[ag]at o;cases o
   ·obtain⟨x,p,D,s⟩:=(re d.gU).1 aa;have R:i<m:=by
     rcases eW i m with u|L
     ·exact u
     ·exfalso;rcases eW i (dL l)with u|M
      ·have I:∀h,b[h]?=some true→∃am,l[h]?=some am:=λh ac=>tr.get (d.main h ac)
       have:=mN (S:=λh=>b[h]?=some true) d.cl (i+1) i j x (by omega) p s I (Hy L u ad);rw[k]at this;cases this
      ·obtain⟨an,aj,F,ak⟩:=tr.waits p (j:=j) (by omega) M;have:=s an aj F;rw[ak,k]at this;cases this
    have ah:mJ P l.toArray Q x a g (wpAny P .any l.toArray Q f (b.setIfInBounds i true)):=d.step tr E G N R p D s λB C K=>al _ (c+1) B C K (by omega)
    unfold wpOp;have af:l.toArray[i]?=some x:=by simpa using p
    rw[af];simp only[];rcases ah with⟨v,ai⟩|⟨v,ae⟩
    ·rw[bN v];exact .inl ai
    ·rw[cI (by simp[v])];exact ae
structure B5 (P:Program) (X:Cx) (nt:Nat) (fz:List Nat) (l:List Oper) (m:Nat) (en:Nat→DE) (va:Nat→D) (k:Nat) (e:DE) (h:Z) (g0:Gh) (L:Array Bool) (a:Act) (g:Gh):Prop where
 size:a.tmps.size=nt
 defers:a.defers=[]
 gU:L.size=l.length
 cl:∀(i:Nat) (o:Oper),L[i]?=some true→l[i]?=some o→∀x∈o.after.toList,Region.binds .any x=true→L[x.on]?=some true
 tl:∀i,k≤i→i<l.length→L[i]?=some false
 md:∀i,m≤i→i<k→L[i]?=some true
 pn:∀i,i<m→L[i]?≠some true→iO m l i=true
 ext:aS g0 g
 inv:Inv g h
 env:∀t d,(∀z p,z<m→L[z]?≠some true→l[z]?=some p→p.dst≠some t)→bC e t=some d→aB g (a.tmps.getD t undef) d
 py:∀z p t d,z<m→L[z]?≠some true→l[z]?=some p→t∈looks l p→bC (en z) t=some d→aB g (a.tmps.getD t undef) d
 wh:∀z p t,z<m→L[z]?≠some true→l[z]?=some p→p.dst=some t→bC e t=some (va z)
omit tr in
theorem yv{a:Array Bool}{i:Nat}(hi:i<a.size)(e:a[i]?=some false):∀(n:Nat),((List.range n).filter λb => !((a.setIfInBounds i true).getD b false)).length+(if i<n then 1 else 0)=((List.range n).filter λb => !(a.getD b false)).length
 |0=>by simp
 | n+1=>by
  have k:=yv hi e n;rw[mD,jS,jS,gB,gB,← k];by_cases f:i=n
  ·subst f;have c:(a.setIfInBounds i true).getD i false=true:=by
    rw[dN,pM hi];rfl
   have d:a.getD i false=false:=by rw[dN,e];rfl
   have g:([i].filter λb => !((a.setIfInBounds i true).getD b false))=[]:=by rw[jT,c];rfl
   have h:([i].filter λb => !(a.getD b false))=[i]:=by rw[jT,d];rfl
   rw[g,h,cI (Nat.lt_irrefl _),bN (su _)];simp
  ·have c:(a.setIfInBounds i true).getD n false=a.getD n false:=by
     rw[dN,ji f,← dN]
   have d:(i<n+1)↔(i<n):=by omega
   simp only[d];have j:([n].filter λb => !((a.setIfInBounds i true).getD b false))=([n].filter λb => !(a.getD b false)):=by
    rw[jT,jT,c];rfl
   rw[j];omega
omit tr in
theorem yu(p:Nat→Bool):∀(n:Nat),((List.range n).filter λa => !(p a)).length+((List.range n).filter p).length=n
 |0=>rfl
 | n+1=>by
  have b:=yu p n;rw[mD,jS,jS,gB,gB];cases hp:p n<;>simp[hp]<;>omega
omit tr in
theorem ra{a:Act}{dst:Option Nat}{v:Value}{t:Nat}(h:dst≠some t):(a.put dst v).tmps.getD t undef=a.tmps.getD t undef:=by
 cases dst with
 |none=>rfl
 | some d =>
  have c:d≠t:=λb=>h (by rw[b])
  simp only[Act.put,dN];rw[ji c]
omit tr in
theorem AV{a:Act}{v:Value}{t:Nat}(h:t<a.tmps.size):(a.put (some t) v).tmps.getD t undef=v:=by
 simp[Act.put,Array.getD,h]
theorem Hz (ba:bQ P X.T) (bb:fy P X call) {ax:Gh} (bf:eU ax X.gl) {Q:Exit→Act→World→Prop} {al:DE→Z→Option R} {r:R} {e0:DE}
  (bp:∀e h a g,aS ax g→eA nt g e a→Inv g h→(∀t,t∉eF l→bC e t=bC e0 t)→fR X call nt fz eK l (l.drop (dL l)) e h al=some r→wpList P l.toArray Q (l.drop (dL l)) a g.w) :
  ∀(N k:Nat) (e:DE) (h:Z) (n:Array Bool) (a:Act) (g:Gh),m≤k→k≤dL l→fR X call nt fz eK l (l.drop k) e h al=some r→(∀t,t∉eF l→bC e t=bC e0 t)→B5 P X nt fz l m en va k e h ax n a g →
   ((List.range m).filter λi => !(n.getD i false)).length+(l.length - k)≤N→wpAny P .any l.toArray Q N n a g.w:=by
 have cr:=tr.Ml;have cu:=tr.ml;intro N
 induction N with
 | zero =>
  intro k e h n a g bj bk F ai b b4;have a2:k=dL l:=by omega
  have ce:((List.range m).filter λi => !(n.getD i false))=[]:=gA (by omega);have ah:∀i,i<m→n[i]?=some true:=λi K=>by
   have:=(p4.1 ce) i (by simp[K]);simp only[kq,Bool.not_eq_false,dN]at this;cases z:n[i]? with
   |none=>rw[z]at this;cases this
   |some am=>rw[z]at this;simp at this;rw[this]
  subst a2;refine BI tr.mc tr.tail (l.drop (dL l)) (dL l) 0 n a g.w (aT _) rfl b.gU (λi K=>?_) (by simp;omega) (bp e h a g b.ext ⟨b.size,b.defers,λt C H=>b.env t C (λf p q v=>absurd (ah f q) v) H⟩ b.inv ai F);rcases eW i (dL l)with L|I
  ·rw[jx L];rcases eW i m with o|o
   ·exact ah i o
   ·exact b.md i o L
  ·rw[j4 (by omega)];exact b.tl i I K
 | succ N bu =>
  intro k e h n a g bj bk F ai b b4;by_cases az:k=dL l∧∀i,i<m→n[i]?=some true
  ·obtain⟨a2,ah⟩:=az;subst a2;refine BI tr.mc tr.tail (l.drop (dL l)) (dL l) (N+1) n a g.w (aT _) rfl b.gU (λi K=>?_) (by simp;omega) (bp e h a g b.ext ⟨b.size,b.defers,λt C H=>b.env t C (λf p q v=>absurd (ah f q) v) H⟩ b.inv ai F);rcases eW i (dL l)with L|I
   ·rw[jx L];rcases eW i m with o|o
    ·exact ah i o
    ·exact b.md i o L
   ·rw[j4 (by omega)];exact b.tl i I K
  have b5:∀c,n[c]?=some true→∃p,l[c]?=some p:=λc z=>⟨_,cA (by have:=(jh.1 z).1;rw[b.gU]at this;exact this)⟩
  have bw:∀i,i<m→n[i]?≠some true→n[i]?=some false:=λi K aj=>by
   obtain⟨am,A⟩:∃am,n[i]?=some am:=⟨_,kp (by rw[b.gU];omega)⟩
   cases am with
   |true=>exact absurd A aj
   |false=>exact A
  refine⟨λau=>?_,λi b7=>?_⟩
  ·by_cases q:∀i,i<m→n[i]?=some true
   ·have ct:k<dL l:=by
      rcases eW k (dL l)with L|I
      ·exact L
      ·exact absurd ⟨by omega,q⟩ az
    have bl:l[k]?=some l[k]:=cA (show k<l.length by omega);have:k∈Region.ready .any l.toArray n:=(re b.gU).2 ⟨_,bl,b.tl k (aT _) (by omega),λy B A=>by
     have:=tr.back bl y B A;rcases eW y.on m with o|o
     ·exact q _ o
     ·exact b.md _ o this⟩
    rw[au]at this;cases this
   ·simp only[rR]at q;obtain⟨j,bi,bx⟩:=q;obtain⟨i,K⟩:=tr.nonempty b.gU (j+1) j (by omega) bi (bw j bi bx);rw[au]at K;cases K
  ·obtain ⟨s,w,ap,H⟩:=(re b.gU).1 b7;have bg:i<n.size:=(jh.1 ap).1;have G:∀c,c≠i→(n.setIfInBounds i true)[c]?=n[c]?:=λc z=>ji (λE=>z E.symm)
   have ay:(n.setIfInBounds i true)[i]?=some true:=pM bg;have bc:∀(c:Nat) (p:Oper),(n.setIfInBounds i true)[c]?=some true→l[c]?=some p→∀y∈p.after.toList,Region.binds .any y=true→(n.setIfInBounds i true)[y.on]?=some true:=λc p z hp y B A=>by
    have bo:∀ak,n[ak]?=some true→(n.setIfInBounds i true)[ak]?=some true:=λak af=>by
     by_cases bq:ak=i
     ·subst bq;exact ay
     ·rw[G ak bq];exact af
    by_cases M:c=i
    ·subst M;rw[w]at hp;injection hp with hp;subst hp;exact bo _ (H y B A)
    ·rw[G c M]at z;exact bo _ (b.cl c p z hp y B A)
   have bd:=yv bg ap m;have cj:mJ P l.toArray Q s a g (wpAny P .any l.toArray Q N (n.setIfInBounds i true)):=by
    rcases eW i m with aa|I
    ·
     have aj:n[i]?≠some true:=by rw[ap];simp
     have bn:=b.pn i aa aj;obtain⟨p,t,hp,bm,ar,cs⟩:=tr.idle aa bn;rw[w]at hp;injection hp with hp;subst hp;have af:fO X.T fz s=false:=by unfold fO;rw[bm]
     have cg:ky X.T fz s=false:=by unfold ky;rw[bm]
     have ch:=AE af (tr.step i s aa w).1 (h2:=h) (λa9=>by rw[cg]at a9;cases a9);have ck:=((tr.step i s aa w).2.2 t ar).1;refine po ba bb ch b.inv (bf.ext b.ext) (λd C u x=>b.py i s d C aa aj w u x) λan bv ad a1 a5 _=>?_
     rw[bN aa]at bd;have ab:∀c,(n.setIfInBounds i true)[c]?≠some true→c≠i∧n[c]?≠some true:=λc z=>by
      by_cases M:c=i
      ·subst M;exact absurd ay z
      ·rw[G c M]at z;exact⟨M,z⟩
     refine bu k e h _ _ an bj bk F ai ⟨by rw[ar];simp[Act.put,b.size],by rw[ar];simp[Act.put,b.defers],by simp[b.gU],bc,λc o h2=>by rw[G c (by omega)];exact b.tl c o h2,λc o h2=>by rw[G c (by omega)];exact b.md c o h2,λc o h2=>b.pn c o (ab c h2).2,b.ext.trans ad,a1,λd C a4 x=>?_,λf p d C q v hp u x=>?_,λf p d q v hp ag=>b.wh f p d q (ab f v).2 hp ag⟩ (by omega)
     ·by_cases D:s.dst=some d
      ·have av:=b.wh i s d aa aj w D;rw[x]at av;injection av with av;rw[av,D,AV (by rw[ar]at D;injection D with D;subst D;rw[b.size];exact ck)];exact a5
      ·rw[ra D];refine(b.env d C (λf p q v hp=>?_) x).ext ad;by_cases br:f=i
       ·subst br;rw[w]at hp;injection hp with hp;subst hp;exact D
       ·exact a4 f p q (by rw[G f br];exact v) hp
     ·have bt:=ab f v;have b9:=b.pn f q bt.2;obtain⟨cw,cy,aq,_,_,b3⟩:=tr.idle q b9;rw[hp]at aq;injection aq with aq;subst aq;have a3:s.dst≠some d:=λE=>by
       have:=b3 d u i s aa w E;rw[bn]at this;cases this
      rw[ra a3];exact(b.py f p d C q bt.2 hp u x).ext ad
    ·
     have b6:i=k:=by
      rcases jr i k with o|o|o
      ·have:=b.md i I o;rw[ap]at this;cases this
      ·exact o
      ·exfalso;have b8:=b.tl k (aT _) (by have:=(bB.1 w).1;omega);have:∃y∈s.after.toList,Region.binds .any y=true∧y.on=k:=by
        rcases eW i (dL l)with h2|h2
        ·rcases tr.zZ I h2 o w with B|⟨B,_⟩
         ·exact B
         ·omega
        ·exact tr.waits w o h2
       obtain⟨y,B,A,cp⟩:=this;have:=H y B A;rw[cp,b8]at this;cases this
     subst b6;have a0:i<dL l:=by
      rcases eW i (dL l)with o|o
      ·exact o
      ·exfalso;refine az ⟨by omega,λf q=>?_⟩;obtain⟨y,B,A,a7⟩:=tr.waits w (j:=f) (by omega) o;rw[← a7];exact H y B A
     have bh:i<l.length:=by omega
     have b2:l.drop i=s::l.drop (i+1):=by
      rw[jk bh];have:l[i]?=some l[i]:=cA bh;rw[w]at this;injection this with this;rw[← this]
     have cd:iQ X call nt fz eK l s e h (λac ao=>fR X call nt fz eK l (l.drop (i+1)) ac ao al)=some r:=by
      rw[b2]at F;cases a6:l.drop (i+1)with
      |nil=>rw[a6]at F;simpa only[fR]using F
      | cons p cx =>
       rw[a6]at F;simp only[fR]at F;have cf:l[i+1]?=some p:=by
        have:(l.drop (i+1))[0]?=some p:=by rw[a6];rfl
        simpa using this
       rw[tr.Jd I a0 w cf]at F;exact F
     obtain⟨C,ao,au,bz⟩:=q7 cd;have cq:∀f p d,f<m→n[f]?≠some true→l[f]?=some p→d∈looks l s→p.dst≠some d:=λf p d q v hp u ag=>by
      have A:=tr.Ag i f s p d a0 q w hp u ag;exact v (mN (S:=λc=>n[c]?=some true) b.cl (i+1) i f s (by omega) w H b5 A)
     have ca:(if i<m then 1 else 0)=0:=cI (by omega);rw[ca]at bd;refine po ba bb au b.inv (bf.ext b.ext) (λd C u x=>b.env d C (λf p q v hp=>cq f p d q v hp u) x) λan bv ad a1 a5 _=>?_
     have ab:∀c,c<m→(n.setIfInBounds i true)[c]?=n[c]?:=λc z=>G c (by omega)
     have a8:∀ac,fR X call nt fz eK l (l.drop (i+1)) ac ao al=some r→(∀d,s.dst≠some d→bC ac d=bC e d)→(∀d,s.dst=some d→d<nt∧bC ac d=some C)→wpAny P .any l.toArray Q N (n.setIfInBounds i true) (a.put s.dst bv) an.w:=λac ci ae b0=>by
      refine bu (i+1) ac ao _ _ an (by omega) (by omega) ci (λd u=>?_) ⟨by cases z:s.dst<;>simp[Act.put,b.size],by cases z:s.dst<;>simp[Act.put,b.defers],by simp[b.gU],bc,λc o h2=>by rw[G c (by omega)];exact b.tl c (by omega) h2,λc o h2=>?_,λc o h2=>b.pn c o (by rw[← ab c o];exact h2),b.ext.trans ad,a1,λd aw a4 x=>?_,λf p d aw q v hp u x=>?_,λf p d q v hp ag=>?_⟩ (by omega)
      ·rw[ae d (λE=>u (by unfold eF;rw[iC];exact⟨s,dX w,E⟩))];exact ai d u
      ·by_cases M:c=i
       ·subst M;exact ay
       ·rw[G c M];exact b.md c o (by omega)
      ·by_cases D:s.dst=some d
       ·obtain⟨cn,cm⟩:=b0 d D;rw[cm]at x;injection x with x;rw[← x,D,AV (by rw[b.size];exact cn)];exact a5
       ·rw[ra D];rw[ae d D]at x;exact(b.env d aw (λf p q v hp=>a4 f p q (by rw[ab f q];exact v) hp) x).ext ad
      ·rw [ab f q]at v;have a3:s.dst≠some d:=λE=>by
        rcases tr.zZ I a0 (show f<i by omega) w with⟨y,B,A,a7⟩|⟨_,B⟩
        ·have:=H y B A;rw[a7]at this;exact v this
        ·exact B p d hp E u
       rw[ra a3];exact(b.py f p d aw q v hp u x).ext ad
      ·rw[ab f q]at v;rw[ae d λE=>by have:=tr.kW w hp E ag;omega];exact b.wh f p d q v hp ag
     rcases bz with⟨b1,ae⟩|⟨t,be,L,ae⟩
     ·exact a8 e ae (λ_ _=>rfl) (λd u=>by rw[b1]at u;cases u)
     ·refine a8 _ ae (λd u=>?_) (λd u=>?_)
      ·rw[gQ,cI (λE=>u (by rw[be,E]))]
      ·rw[be]at u;injection u with u;subst u;exact⟨L,by rw[gQ,bN rfl]⟩
   unfold wpOp;have cc:l.toArray[i]?=some s:=by simpa using w
   rw[cc];simp only[];rcases cj with⟨af,co⟩|⟨af,cb⟩
   ·rw[bN af];exact .inl co
   ·rw[cI (by simp[af])];exact cb
end
section
variable {P:Program} {X:Cx} {R:Type}
theorem DZ(H:bQ P X.T)(bl:P.follows .mixedOrders=true){call:bV}(ae:fy P X call){nt:Nat}{fz eK:List Nat}{m:Nat}{l:List Oper}{e:DE}{h:Z}{N:DE→Z→Option R}{r:R}(B:j5 X call nt fz eK m l e h N=some r)
  {Q:Exit→Act→World→Prop} {g:Gh} {a:Act} (hi:Inv g h) (af:eU g X.gl) (ah:eA nt g e a)
  (bn:∀e' h' g' y,N e' h'=some r→(∀t,t∉eF l→bC e' t=bC e t)→aS g g'→Inv g' h'→eA nt g' e' y→Q .normal y g'.w) {id:Nat}:(Code.region id l.toArray true).wp P Q a g.w:=by
 obtain⟨en,hp,va,HK,tr,i⟩:=D1 B;refine wp_region_any bl ?_;have C:=g.yJ;have b6:=tr.ml;have bc:jR P X nt fz l m e va HK g.draw (Array.replicate l.length false) 0 a g.draw:=by
  have A:∀b,(Array.replicate l.length false)[b]?≠some true:=λb hi=>by
   rw[Array.getElem?_replicate]at hi;split at hi<;>simp at hi
  have ao:∀b,(Array.replicate l.length false).getD b false=false:=λb=>by
   rw[dN,Array.getElem?_replicate];split<;>rfl
  refine⟨ah.size,ah.defers,by simp,λb j hi=>absurd hi (A b),λb hi=>absurd hi (A b),?_,aS.refl _,?_,λt ab _ B=>(ah.get t ab B).ext C,λb j t hi=>absurd hi (A b),λb j t hi=>absurd hi (A b),λb aj j c t M hi=>absurd hi (A b)⟩
  ·have:(List.range m).filter (λb=>(Array.replicate l.length false).getD b false)=[]:=by
     rw[p4];intro b _;rw[ao];simp
   rw[this];rfl
  ·have:((List.range m).filter (cZ X.T fz l)).filter (λb=>(Array.replicate l.length false).getD b false)=[]:=by
     rw[p4];intro b _;rw[ao];simp
   rw[this];simp only[fB,tr.zz];exact Gh.D2 hi
 have:=E4 tr H ae (af.ext C) (Q:=Q) (λa1 v b1 y g' k al b5=>?_) l.length (Array.replicate l.length false) 0 a g.draw bc (by omega)
 ·rw[lB];exact this
 ·have K:∀b,b<m→v[b]?≠some true→iO m l b=true:=λb hi D=>by
    cases bj:iO m l b with
    |true=>rfl
    |false=>exact absurd (al b hi bj) D
  have av:∀(b:Nat) (j:Oper),b<m→l[b]?=some j→dK X.T fz j ≠ .pure→v[b]?=some true:=λb j hi s i=>by
   apply rQ;intro D;obtain⟨c,t,o,I,_⟩:=tr.idle hi (K b hi D);rw[s]at o;injection o with o;subst o;exact i I
  have x:∀(d:Nat) (c:Oper),(l.take m)[d]?=some c→d<m∧l[d]?=some c:=λd c f=>by
   rw[eP]at f;split at f
   ·rename_i bk;exact⟨bk,f⟩
   ·cases f
  have ak:∀(d:Nat) (c:Oper),(l.take m)[d]?=some c→dK X.T fz c = .eR→v[d]?=some true:=λd c f i=>av d c (x d c f).1 (x d c f).2 (by rw[i];intro p;cases p)
  have bp:mG X.T fz g.draw g' y (l.take m):=⟨λd c t f i B=>k.vu d c t (ak d c f i) (x d c f).2 i B,λd L c F t M f E i aq a9 ba D=>k.yF d L c F t M (ak d c f i) (ak L F E aq) (x d c f).2 (x L F E).2 i aq a9 ba D⟩
  have bf:Inv g' (hp m):=by
   have ac:(((List.range m).filter (cZ X.T fz l)).filter λb=>v.getD b false)=(List.range m).filter (cZ X.T fz l):=by
    rw[si];intro b0 bv;obtain⟨z,q⟩:=fC.1 bv;simp at z;obtain⟨j,s⟩:=tr.get z;rw[dN,av b0 j z s (λi=>by unfold cZ fO at q;rw[s]at q;simp only[i]at q;cases q)];rfl
   have:=k.inv;rw[ac,tr.oL m (aT _)]at this;exact this
  obtain⟨ac,z,a3,bh,bw,bb,be,ai,bm,ar⟩:=vP H (l.take m) (en m) (hp m) g' _ i k.ext bf (k.sat tr) bp;rw[← bw];have b3:=yu (λb=>v.getD b false) m;have b4:=k.oc;have b2:=tr.Ml;refine Hz tr H ae (af.ext C) (e0:=e) (r:=r) (λe' h' ay a2 an br bg bi bt=>?_) a1 m ac z v y a3 (aT _) tr.mM bh (λt w=>?_) ⟨ai.size,ai.defers,k.gU,k.cl,λb q G=>?_,λb q G=>by omega,K,bb,be,ai.get,λax c t ab u ad o w a8=>bm _ _ (k.py tr u o (λaj bx M ap bq ag bu=>?_) t ab w a8),λax c t u ad o au=>?_⟩ (by omega)
  ·refine rq H ae (l.drop (dL l)) e' h' N bt a2 ay bg ((af.ext C).ext an) br λa0 q a4 az aw G a5 a6 a7=>bn a0 q a4 az aw (λt w=>?_) ((C.trans an).trans a5) a6 a7
   rw[G t (λp=>w ?_),bi t w];unfold eF at p ⊢;rw[iC]at p ⊢;obtain⟨c,bo,n⟩:=p;exact⟨c,jn bo,n⟩
  ·rw[ar t λj s _ p=>w (by unfold eF;rw[iC];exact⟨j,gb s,p⟩)];rw[tr.bA (t:=t) 0 m (iD _) (aT _) λd c aw L f ag=>w (by unfold eF;rw[iC];exact⟨c,dX f,ag⟩),tr.e0]
  ·obtain⟨aa,am⟩:∃aa,v[b]?=some aa:=⟨_,kp (by rw[k.gU];exact G)⟩
   cases aa with
   |false=>exact am
   |true=>have:=k.main b am;omega
  ·obtain⟨F,bz,n,_,_,bd⟩:=tr.idle u (K ax u ad);rw[o]at n;injection n with n;subst n;exact al aj ap (bd M bu aj bx ap bq ag)
  ·rw[ar t λj s i p=>?_]
   ·exact tr.val u o au u (aT _)
   ·obtain⟨d,f⟩:=lA s;obtain⟨b7,E⟩:=x d j f;have:=tr.kW E o p au;subst this;obtain⟨F,bz,n,I,_⟩:=tr.idle u (K _ u ad);rw[E]at n;injection n with n;subst n;rw[i]at I;cases I
end
def cv:Ex→Exit
 |.aO =>.normal
 |.ext i =>.exit i
 |.ret =>.ret
def kt(b:List Nat)(c:Code)(e e':DE):Prop:=∀a,a∈b→a∉eG c→bC e' a=bC e a
def fm:Nat→hH
 |0,_,_,_=>none
 | n+1,a,ds,h=>(a ds h).bind λr=>match r.1 with
  |.aO=>fm n a r.2.1 r.2.2
  |x=>some (x,r.2.1,r.2.2)
def mE(e:hH):Prop:=∀a b c d,e a b c=some d→∃f,fm f a b c=some d
theorem q0{e:DE}:∀{b:List Nat} {t:Nat} {d:D},bC (lq e b) t=some d→t∈b∧bC e t=some d
 |[],t,d,h=>by cases h
 | u::r,t,d,h=>by
  simp only[lq]at h;split at h
  ·rename_i x f;rw[gQ]at h;split at h
   ·rename_i c;subst c;injection h with h;subst h;exact⟨gq ..,f⟩
   ·obtain⟨a,h2⟩:=q0 h;exact⟨fH _ a,h2⟩
  ·obtain⟨a,h2⟩:=q0 h;exact⟨fH _ a,h2⟩
theorem q1{e:DE}:∀{f:List Nat} {t:Nat},t∈f→bC (lq e f) t=bC e t
 |[],t,h=>by cases h
 | u::r,t,h=>by
  simp only[lq];by_cases b:u=t
  ·subst b;split
   ·rename_i x c;rw[gQ,bN rfl,c]
   ·rename_i c;by_cases a:u∈r
    ·exact q1 a
    ·rw[c];cases g:bC (lq e r) u with
     |none=>rfl
     |some d=>exact absurd (q0 g).1 a
  ·have a:t∈r:=by
     rcases ga.1 h with h|h
     ·exact absurd h.symm b
     ·exact h
   split
   ·rw[gQ,cI b];exact q1 a
   ·exact q1 a
theorem Ac{e' c:DE}:∀{b:List Nat} {t:Nat} {d:D},bC (fT b (gT e' b) c) t=some d→(t∈b∧(bC e' t=some d∨d = .any))∨bC c t=some d
 |[],t,d,h =>.inr h
 | u::r,t,d,h=>by
  simp only[gT,fT,oK,pB]at h;rw[gQ]at h;split at h
  ·rename_i f;subst f;injection h with h;refine .inl ⟨gq ..,?_⟩;cases e:bC e' u with
   |none=>rw[e]at h;exact .inr h.symm
   |some x=>rw[e]at h;exact .inl (by rw[← h])
  ·rcases Ac h with⟨a,h2⟩|a
   ·exact .inl ⟨fH _ a,h2⟩
   ·exact .inr a
theorem Ad:∀{b:List Nat} {ds:List D} {a:DE} {t:Nat},t∉b→bC (fT b ds a) t=bC a t
 |[],_,_,_,_=>rfl
 | u::r,ds,a,t,h=>by
  simp only[fT];rw[ga,not_or]at h;rw[gQ,cI (λc=>h.1 c.symm)];exact Ad h.2
theorem I2{a:List Nat}{c:Code}{t:Nat}:t∈fP a c↔t∈a∧t∈eG c:=by
 unfold fP;rw[fC,kE]
theorem Aq{b:List Nat}{c:Code}{t:Nat}:t∈b.filter (λt => !(iP t (eG c)))↔t∈b∧t∉eG c:=by
 rw[fC];cases a:iP t (eG c)with
 |true=>simp[kE.1 a]
 | false =>
  have:t∉eG c:=λd=>by rw[kE.2 d]at a;cases a
  simp[this]
theorem ke{k:Nat}{f:List Nat}{c:Code}{e e':DE}{g:Gh}{a:Act}(p:kt f c e e')(d:eA k g e' a):eA k g (fT (fP f c) (gT e' (fP f c)) (jJ f c e)) a:=
 ⟨d.size,d.defers,λh i o=>by
  rcases Ac o with⟨j,b⟩|j
  ·rcases b with b|rfl
   ·exact d.get h i b
   ·exact .any _
  ·obtain⟨b,l⟩:=q0 j;obtain⟨m,n⟩:=Aq.1 b;exact d.get h i (by rw[p h m n];exact l)⟩
theorem k3{a:List Nat}{c:Code}{e:DE}{ds:List D}:kt a c e (fT (fP a c) ds (jJ a c e)):=λg d b=>by
 rw[Ad (λf=>b (I2.1 f).2)];exact q1 (Aq.2 ⟨d,b⟩)
section
variable {P:Program} {X:Cx}
theorem sU{R:Type}{d:D}{x y:Option R}{r:R}(h:aI d x y=some r):∃b,d = .bool b∧(if b then x else y)=some r:=by
 unfold aI at h;split at h
 ·exact⟨true,rfl,h⟩
 ·exact⟨false,rfl,h⟩
 ·cases h
theorem s4{l:List Oper}{id:Nat}{a:Bool}:eG (.region id l.toArray a)=eF l:=by simp[eG,eF]
theorem yj (a0:bQ P X.T) (bc:P.follows .mixedOrders=true) {am:bV} (a1:fy P X am) {loop:hH} (bb:mE loop) {v:lv}:∀(c:Code) (e:DE) (h:Z) (R:Type) (s:Ex→DE→Z→Option R) (r:R),cK X am loop v c e h R s=some r →
  ∀(Q:Exit→Act→World→Prop) (g:Gh) (a:Act),Inv g h→eU g X.gl→eA v.nt g e a→(∀x e' h' g' L,s x e' h'=some r→kt v.bA c e e'→aS g g'→Inv g' h'→eA v.nt g' e' L→Q (cv x) L g'.w)→c.wp P Q a g.w:=by
 intro c
 induction c with
 |skip=>intro e h R s r b Q g a n q m k;exact wp_skip (k .aO e h g a b (λ_ _ _=>rfl) (aS.refl g) n m)
 |label ax=>intro e h R s r b Q g a n q m k;exact wp_label (k .aO e h g a b (λ_ _ _=>rfl) (aS.refl g) n m)
 |ret=>intro e h R s r b Q g a n q m k;exact wp_ret (k .ret e h g a b (λ_ _ _=>rfl) (aS.refl g) n m)
 |exit G=>intro e h R s r b Q g a n q m k;exact wp_exit (k (.ext G) e h g a b (λ_ _ _=>rfl) (aS.refl g) n m)
 |goto ax=>intro e h R s r b;simp[cK]at b
 |scope y ag=>intro e h R s r b;simp[cK]at b
 |refuse a4=>intro e h R s r b;simp[cK]at b
 |rangeFunc bo br bn y bp bq=>intro e h R s r b;simp[cK]at b
 | region id bl a5 =>
  intro e h R s r b Q g a n q m k;obtain⟨ax⟩:=bl;simp only[cK]at b;cases a5 with
  | false =>
   refine wp_region_lit (rq a0 a1 ax e h (s .aO) b g a n q m λe' h' g' L d l ap aq ar=>?_);exact k .aO e' h' g' L d (λf _ C=>l f (by rw[s4]at C;exact C)) ap aq ar
  | true =>
   exact DZ a0 bc a1 b n q m λe' h' g' L d l ap aq ar=>k .aO e' h' g' L d (λf _ C=>l f (by rw[s4]at C;exact C)) ap aq ar
 | seq x N aj ak =>
  intro e h R s r b Q g a n q m k;simp only[cK]at b;refine wp_seq (aj e h R _ r b _ g a n q m λa6 o d j i av bg E t u=>?_);have aw:∀f,f∈v.bA→f∉eG (.seq x N)→bC o f=bC e f:=λf d l=>bg f d (λF=>l (by simp[eG,F]))
  cases a6 with
  | aO =>
   refine ak o d R s r av Q j i t (q.ext E) u λay ao l ab ah ba ae a9 ac af=>k ay ao l ab ah ba (λf d l=>?_) (E.trans a9) ac af
   rw[ae f d (λF=>l (by simp[eG,F])),aw f d l]
  |ext G=>exact k (.ext G) o d j i av aw E t u
  |ret=>exact k .ret o d j i av aw E t u
 | cond H x N aj ak =>
  intro e h R s r b Q g a n q m k;simp only[cK]at b;split at b
  ·cases b
  rename_i an a8;have ai:aB g (a.eval H) an:=oj q (λf an _ C=>m.get f an C) a8;split at b
  ·
   obtain⟨K,ad,b⟩:=gu.1 b;obtain⟨y,rfl,I⟩:=sU ad;have D:a.eval H = .bool y:=by
    generalize bh:a.eval H=bm at ai;cases ai;rfl
   have a3:∀(az:Code) (z:Ex) (o:DE) (d:Z) (j:Gh) (i:Act),(∀f,f∈eG az→f∈eG (.cond H x N))→some (z,gT o (fP v.bA (.cond H x N)),d)=some K→kt v.bA az e o→aS g j→Inv j d→eA v.nt j o i→Q (cv z) i j.w:=λaz z o d j i bi p A w t u=>by
    injection p with p;subst p;have bf:kt v.bA (.cond H x N) e o:=λf d l=>A f d (λF=>l (bi f F))
    exact k z _ d j i b k3 w t (ke bf u)
   cases y with
   |true=>exact wp_cond_true D (aj e h bP _ K I Q g a n q m λz o d j i p A w t u=>a3 x z o d j i (λf C=>by simp[eG,C]) p A w t u)
   |false=>exact wp_cond_false D (ak e h bP _ K I Q g a n q m λz o d j i p A w t u=>a3 N z o d j i (λf C=>by simp[eG,C]) p A w t u)
  ·obtain⟨y,rfl,I⟩:=sU b;have D:a.eval H = .bool y:=by
    generalize bh:a.eval H=bm at ai;cases ai;rfl
   cases y with
   |true=>exact wp_cond_true D (aj e h R s r I Q g a n q m λz o d j i p A w t u=>k z o d j i p (λf d l=>A f d (λF=>l (by simp[eG,F]))) w t u)
   |false=>exact wp_cond_false D (ak e h R s r I Q g a n q m λz o d j i p A w t u=>k z o d j i p (λf d l=>A f d (λF=>l (by simp[eG,F]))) w t u)
 | block id y ag =>
  intro e h R s r b Q g a n q m k;simp only[cK]at b;have a2:∀(x:Ex) (i:Act) (al:World),Q (cv (bO id x)) i al→Exit.inBlock id Q (cv x) i al:=λx i al D=>by
   cases x with
   |aO=>exact D
   |ret=>exact D
   | ext G =>
    simp only[cv,Exit.inBlock];by_cases au:G=id
    ·subst au;rw[bN rfl];simpa[bO,cv]using D
    ·rw[cI au];have:Nat.beq G id=false:=by
      cases I:Nat.beq G id with
      |false=>rfl
      |true=>exact absurd (gg I) au
     simpa[bO,this,cv]using D
  split at b
  ·obtain⟨K,ad,b⟩:=gu.1 b;refine wp_block (ag e h bP _ K ad _ g a n q m λz o d j i p A w t u=>a2 _ _ _ ?_);injection p with p;subst p;exact k (bO id z) _ d j i b k3 w t (ke A u)
  ·exact wp_block (ag e h R _ r b _ g a n q m λz o d j i p A w t u=>a2 _ _ _ (k (bO id z) o d j i p A w t u))
 | loop y ag =>
  intro e h R s r b Q g a n q m k;simp only[cK]at b;obtain⟨K,ad,b⟩:=gu.1 b;obtain⟨bj,bd⟩:=bb _ _ _ _ ad;refine wp_loop_ghost (λM a a4=>∃aa h' g',a4=g'.w∧aS g g'∧Inv g' h'∧eA v.nt g' (fT (fP v.bA y) aa (jJ v.bA y e)) a∧fm M (λaa h'=>cK X am loop v y (fT (fP v.bA y) aa (jJ v.bA y e)) h' bP λx e' a7=>some (x,gT e' (fP v.bA y),a7)) aa h'=some K) bj
   ⟨_,h,g,rfl,aS.refl g,n,ke (e':=e) (λ_ _ _=>rfl) m,bd⟩ ?_
  rintro M i al ⟨aa,d,j,rfl,E,t,u,B⟩;cases M with
  |zero=>cases B
  | succ M =>
   simp only[fm]at B;obtain⟨bk,be,B⟩:=gu.1 B;refine ag _ d bP _ bk be _ j i t (q.ext E) u λay ao l ab ah p A w ac af=>?_
   injection p with p;subst p;simp only at B;have ae:kt v.bA y e ao:=λf d l=>by
    rw[A f d l];exact k3 f d l
   cases ay with
   |aO=>exact⟨M,su M,_,l,ab,rfl,E.trans w,ac,ke ae af,B⟩
   | ext G =>
    injection B with B;subst B;exact k (.ext G) _ l ab ah b k3 (E.trans w) ac (ke ae af)
   | ret =>
    injection B with B;subst B;exact k .ret _ l ab ah b k3 (E.trans w) ac (ke ae af)
end
inductive Ok (n:Nat):D→Prop
 |any:Ok n .any
 |bJ:Ok n .bJ
 |bool (b):Ok n (.bool b)
 |int (k i):Ok n (.int k i)
 |str (s):Ok n (.str s)
 |fG:Ok n .fG
 |ptr (o i off) (h:o<n):Ok n (.ptr o i off)
 |aE (cs) (h:∀d∈cs,Ok n d):Ok n (.aE cs)
 |J:Ok n .J
 |sl (V full rows) (h:∀row∈rows,∀d∈row,Ok n d):Ok n (.sl V full rows)
 |S (V o r k) (h:o<n):Ok n (.S V o r k)
 |gS:Ok n .gS
 |fn (f a b) (ha:∀d∈a,Ok n d) (hb:∀d∈b,Ok n d):Ok n (.fn f a b)
 |hS:Ok n .hS
 |iface (t d) (h:Ok n d):Ok n (.iface t d)
 |agg (cs) (h:∀d∈cs,Ok n d):Ok n (.agg cs)
 |bU (ds) (h:∀d∈ds,Ok n d):Ok n (.bU ds)
 |raw (v):Ok n (.raw v)
theorem l5{a:Type}{l:List a}{x:a}(h:x∈l):∃i:Nat,l[i]?=some x:=lA h
theorem aB.Jf{g:Gh}{v:Value}{d:D}(h:aB g v d):Ok g.ms.length d:=by
 induction h with
 |any v=>exact .any
 |bJ=>exact .bJ
 |bool m=>exact .bool m
 |int C l=>exact .int C l
 |str G=>exact .str G
 |fG=>exact .fG
 |ptr q p ad E j=>exact .ptr _ _ _ (bB.1 j).1
 | aE m q s f u o n k e =>
  refine .aE _ λd c=>?_
  obtain⟨b,a⟩:=l5 c;exact e b d a
 |J=>exact .J
 | sl K l r ai P ah y aa t R ac ab Q f o n k e =>
  refine .sl _ _ _ λF z d c=>?_
  obtain⟨p,w⟩:=l5 z;obtain⟨b,a⟩:=l5 c;exact e p F w b d a
 |S q ae l r E j y X T t=>exact .S _ _ _ _ (bB.1 j).1
 |gS=>exact .gS
 | fn N first L I H u o ag af B A =>
  refine .fn _ _ _ (λd c=>?_) (λd c=>?_)
  ·obtain⟨b,a⟩:=l5 c;have i:=(bB.1 a).1;exact B b _ d (cA (show b<I.length by omega)) a
  ·obtain⟨b,a⟩:=l5 c;have i:=(bB.1 a).1;exact A b _ d (cA (show b<H.length by omega)) a
 |hS=>exact .hS
 |iface aj v d h e=>exact .iface _ _ e
 | agg f s x n k e =>
  refine .agg _ λd c=>?_
  obtain⟨b,a⟩:=l5 c;have i:=(bB.1 a).1;exact e b _ d (cA (show b<f.length by omega)) a
 | bU f M x k e =>
  refine .bU _ λd c=>?_
  obtain⟨b,a⟩:=l5 c;have i:=(bB.1 a).1;exact e b _ d (cA (show b<f.length by omega)) a
 |raw v=>exact .raw _
theorem aB.cut{g g':Gh}(F:g'.w=g.w){n:Nat}(I:∀(o:Nat) (m:Me),o<n→g.ms[o]?=some m→g'.ms[o]?=some m)(T:∀b,g'.L b→g.L b){v:Value}{d:D}(h:aB g v d)(a:Ok n d):aB g' v d:=by
 have H:∀b,g.fz b→g'.fz b:=λb r=>⟨by rw[F];exact r.1,λab=>r.2 (T b ab)⟩
 induction h with
 |any v=>exact .any v
 |bJ=>exact .bJ
 |bool b=>exact .bool b
 |int aj n=>exact .int aj n
 |str an=>exact .str an
 |fG=>exact .fG
 | ptr o q ak m C =>
  cases a with
  |ptr _ _ _ B=>exact .ptr o q ak m (I o m B C)
 | aE b o x k z l e E j =>
  cases a with
  |aE _ a=>exact .aE b o x k (λp=>H _ (z p)) (λc d i=>by rw[F];exact l c d i) e (λc d i=>j c d i (a d (dX i)))
 |J=>exact .J
 | sl M n u ao R am p ae y aa ag af G k l e E j =>
  cases a with
  |sl _ _ _ a=>exact .sl M n u ao R am p ae y aa ag af (λK=>⟨(G K).1,H _ (G K).2⟩) k (λq t s c d i=>by rw[F];exact l q t s c d i) e (λq t s c d i=>j q t s c d i (a t (dX s) d (dX i)))
 | S o al n u m C p ad ac y =>
  cases a with
  |S _ _ _ _ B=>exact .S o al n u m (I o m B C) p ad ac y
 |gS=>exact .gS
 | fn Q first N ar aq z l av au ai ah =>
  cases a with
  |fn _ _ _ X r=>exact .fn Q first N ar aq z l (λc v d e f=>ai c v d e f (X d (dX f))) (λc v d e f=>ah c v d e f (r d (dX f)))
 |hS=>exact .hS
 | iface ap v d h j =>
  cases a with
  |iface _ _ a=>exact .iface ap v d (j a)
 | agg k x A e E j =>
  cases a with
  |agg _ a=>exact .agg k x A e (λc v d e f=>j c v d e f (a d (dX f)))
 | bU k P A E j =>
  cases a with
  |bU _ a=>exact .bU k P A (λc v d e f=>j c v d e f (a d (dX f)))
 |raw v=>exact .raw _
section
variable {P:Program} {X:Cx}
def Cy(a h2:Z)(d:D):Prop:=Ok a.length d∧∀(b e f:Nat) (c:List (List D)),b<a.length→h2[b]?=some (.row e f c)→a[b]?=some (.row e f c)∨∀g∈c,∀d∈g,Ok a.length d
noncomputable def scope(a h2:Z)(d:D):Option (D × Z):=eD (Cy a h2 (bL a.length h2 4 d)) (some (bL a.length h2 4 d,h2.take a.length))
theorem Bi{l c:Gh}{i h2 h':Z}{v:Value}{d d':D}(x:Inv l i)(k:aS l c)(s:Inv c h2)(ah:aB c v d)(t:scope i h2 d=some (d',h')):∃g',g'.w=c.w∧aS l g'∧Inv g' h'∧aB g' v d':=by
 unfold scope eD at t;split at t
 case isFalse=>cases t
 rename_i M;injection t with t;injection t with z A;subst z;subst A;have av:l.ms.length≤c.ms.length:=by
  rcases p7 l.ms.length with ax|aw
  ·omega
  ·have o:l.ms.length - 1<l.ms.length:=by omega
   have:=k.ms _ _ (cA o);have:=(bB.1 this).1;omega
 have au:∀(a:Nat) (b:Me),a<i.length→c.ms[a]?=some b→l.ms[a]?=some b:=λa b h e=>by
  have o:a<l.ms.length:=by rw[x.len];exact h
  have N:=cA o;have:=k.ms _ _ N;rw[e]at this;rw[N,← this]
 let K:Nat→Prop:=λf=>c.L f∧((∃(a:Nat) (b:Me),a<i.length∧c.ms[a]?=some b∧b.b=f∧∃p r q,h2[a]?=some (.row p r q))∨∀(a:Nat) (b:Me),c.ms[a]?=some b→b.b≠f)
 let g1:Gh:=⟨c.w,c.ms,K⟩
 let g':Gh:=⟨c.w,c.ms.take i.length,K⟩
 have ai:aB g1 v (bL i.length h2 4 d):=tK (g:=c) (g1:=g1) (n0:=i.length) s rfl rfl (λf j=>j) 4 v d ah;have u:∀(a:Nat) (b:Me),a<i.length→g1.ms[a]?=some b→g'.ms[a]?=some b:=λa b h e=>by
  show(c.ms.take i.length)[a]?=some b;rw[eP,bN h];exact e
 have ab:∀{v d},aB c v d→Ok i.length d→aB g' v d:=λ{v d} ak ae=>aB.cut (g:=c) (g':=g') rfl (n:=i.length) (λa b h e=>u a b h e) (λf j=>j.1) ak ae
 have y:∀{a:Nat} {b:Me},g'.ms[a]?=some b→c.ms[a]?=some b:=λ{a b} e=>by
  have:(c.ms.take i.length)[a]?=some b:=e;rw[eP]at this;split at this
  ·exact this
  ·cases this
 have ac:aS l g':=⟨⟨k.os,k.tape,k.output,k.size,λa b e=>u a b (by rw[← x.len];exact(bB.1 e).1) (k.ms a b e),λf j=>⟨⟨(k.fz f j).1.1,λad=>(k.fz f j).1.2 ad.1⟩,(k.fz f j).2⟩⟩,
  λf j=>⟨⟨(k.cC f j).1.1,⟨(k.cC f j).1.2.1,.inr (k.cC f j).1.2.2⟩,λa b e=>(k.cC f j).1.2.2 a b (y e)⟩,(k.cC f j).2⟩⟩
 have F:∀{a:Nat} {H:Ob},(h2.take i.length)[a]?=some H→a<i.length∧h2[a]?=some H:=λ{a H} h=>by
  rw[eP]at h;split at h
  ·rename_i o;exact⟨o,h⟩
  ·cases h
 refine⟨g',rfl,ac,⟨?_,λa p r q h=>?_,λa an p r R ap q ao b am z A X B C=>?_,λf j=>?_,λa b e=>s.msb a b (y e)⟩,aB.cut (g:=g1) (g':=g') rfl (n:=i.length) (λa b h e=>u a b h e) (λf j=>j) ai M.1⟩
 ·show(c.ms.take i.length).length=(h2.take i.length).length;simp[s.len]
 ·obtain⟨o,h⟩:=F h;obtain⟨b,T,e,m⟩:=s.live a p r q h;refine⟨b,T,u a b o e,m.ff,m.fN,m.pos,⟨m.hL,.inl ⟨a,b,o,e,rfl,p,r,q,h⟩⟩,m.len,m.le,m.room,m.row,λP I G Q d E=>?_⟩;obtain⟨v,B,C,aa⟩:=m.cell P I G Q d E;refine⟨v,B,C,ab aa ?_⟩;rcases M.2 a p r q o h with aj|ag
  ·obtain⟨ay,aq,ar,af⟩:=x.live a p r q aj;obtain⟨az,_,_,al⟩:=af.cell P I G Q d E;have:=al.Jf
   rwa [x.len]at this
  ·exact ag I (dX G) d (dX E)
 ·exact s.inj a an p r R ap q ao b am (F z).2 (F A).2 (y X) (y B) C
 ·exact s.L f j.1
structure eT where
 body:Code
 res:List ResultVar
 A:lv
 sc:Bool
def gY(X:Cx)(h:Z)(e:DE):List ResultVar→Option (List D)
 |[]=>some []
 |.tmp t::r=>(bC e t).bind λd=>(gY X h e r).bind λds=>some (d::ds)
 |.cell t ty::r=>(bC e t).bind λp=>(aA X.T h ty p).bind λd=>(gY X h e r).bind λds=>some (d::ds)
def aD:List D→D
 |[d]=>d
 |ds =>.bU ds
noncomputable def jy(X:Cx)(c:bV)(e:hH)(fi:eT)(args:List D)(h:Z):Option (D × Z):=
 (match Nat.ble args.length fi.A.nt with
 |true=>cK X c e fi.A fi.body (fT (List.range args.length) args []) h (D × Z) λf d a=>dB f ((gY X a d fi.res).bind λb=>match fi.sc with
   |true=>scope h a (aD b)
   |false=>some (aD b,a))
 |false=>none)
structure bM (P:Program) (f:FuncId) (fi:eT):Prop where
 body:∃fn,P.funcs[f]?=some fn∧fn.body=some fi.body∧fn.ntmps=fi.A.nt∧fn.results.toList=fi.res
 enter:∀(as0:Array Value) (w:World),(callFunc f as0).run P w = .ok (.enter f as0) w
theorem vB(n:bQ P X.T){g:Gh}{h:Z}(hi:Inv g h){C:Nat}{e:DE}{a:Act}(j:eA C g e a):∀(v:List ResultVar) (ds:List D),gY X h e v=some ds→∃vs,(v.mapM (rn a.tmps)).run P g.w = .ok vs g.w∧aU g vs ds
 | [],ds,b=>by
  simp only[gY,iZ]at b;subst b;exact⟨[],by simp,.nil⟩
 | .tmp t::r,ds,b=>by
  simp only[gY]at b;obtain⟨d,l,b⟩:=gu.1 b;obtain⟨k,m,b⟩:=gu.1 b;injection b with b;subst b;obtain⟨vs,o,p⟩:=vB n hi j r k m;have f:=j.get t d l;exact⟨a.tmps.getD t undef::vs,by simp[rn,o],.cons f p⟩
 | .cell t F::r,ds,b=>by
  simp only[gY]at b;obtain⟨E,l,b⟩:=gu.1 b;obtain⟨d,c,b⟩:=gu.1 b;obtain⟨k,m,b⟩:=gu.1 b;injection b with b;subst b;obtain⟨vs,o,p⟩:=vB n hi j r k m;have f:=j.get t E l;obtain⟨x,s,A⟩:=yC n hi f c;have z:∃i,a.tmps.getD t undef = .pointer (some i):=by
   unfold aA at c;split at c
   ·split at c
    ·obtain⟨G,H,vs,u,_⟩:=f.qR;exact⟨_,u⟩
    ·generalize u:a.tmps.getD t undef=I at f;cases f;exact⟨_,rfl⟩
    ·cases c
   ·cases c
  obtain⟨i,q⟩:=z;rw[q]at s;have B:(loadVar F i).run P g.w = .ok x g.w:=by simpa[Instr.loadAt,Instr.sureAddr]using s
  have y:a.tmps[t]?.getD undef = .pointer (some i):=by rw[← q,dN]
  exact⟨x::vs,by simp[rn,y,asAddr,B,o],.cons A p⟩
theorem vC(o:bQ P X.T){g:Gh}{h:Z}(hi:Inv g h){r:Nat}{e:DE}{a:Act}(q:eA r g e a){b:Func}{ds:List D}(p:gY X h e b.results.toList=some ds):∃v,(results b a.tmps).run P g.w = .ok v g.w∧aB g v (aD ds):=by
 obtain⟨f,j,k⟩:=vB o hi q _ _ p;obtain⟨d,l⟩:∃d,b.results.toList=d:=⟨_,rfl⟩
 have n:b.results=d.toArray:=by rw[← l]
 rw[l]at j;refine⟨if s:f.toArray.size=1 then f.toArray[0]else .tuple f.toArray,?_,?_⟩
 ·rw[JC,n,List.mapM_toArray];simp only[eX,Sem.run_map,j,e9,gE]
 ·have t:=k.length;cases k with
  | nil =>
   rw[dif_neg (by simp)];exact .q4 .nil
  | cons i c =>
   cases c with
   |nil=>simpa[aD]using i
   | cons m c =>
    rw[dif_neg (by simp)];exact .q4 (.cons i (.cons m c))
theorem Gc (q:bQ P X.T) (ag:P.follows .mixedOrders=true) {A:bV} (Q:fy P X A) {L:hH} (af:mE L) {f:FuncId} {fi:eT} (aa:bM P f fi) {args:List D} {h h':Z} {d:D} (n:jy X A L fi args h=some (d,h'))
  {g:Gh} {vs:List Value} (hi:Inv g h) (ac:eU g X.gl) (I:aU g vs args):jN P f vs.toArray g.w λv w'=>∃g',g'.w=w'∧aS g g'∧Inv g' h'∧aB g' v d:=by
 obtain⟨C,ab,N,ah,K⟩:=aa.body;unfold jy at n;split at n
 case h_2=>cases n
 rename_i H;have H:=dE H;have av:=I.length;refine calls_of_wp ab N (yj q ag Q af fi.body _ h _ _ (d,h') n _ g _ hi ac ⟨by simp[ah];omega,rfl,λx l al=>?_⟩ λl i b m z r au E o t=>?_)
 ·
  have an:∀(k:List Nat) (a:List D),k.length=a.length→bC (fT k a []) x=some l→∃c:Nat,k[c]?=some x∧a[c]?=some l:=by
   intro k
   induction k with
   |nil=>intro a _ h;cases h
   | cons y aw am =>
    intro a G h;cases a with
    |nil=>cases G
    | cons d a =>
     simp only[fT,oK,pB]at h;rw[gQ]at h;split at h
     ·rename_i aj;injection h with h;exact⟨0,by simp[aj],by simp[h]⟩
     ·obtain⟨c,p,b⟩:=am a (by simpa using G) h;exact⟨c+1,by simpa using p,by simpa using b⟩
  obtain⟨c,p,b⟩:=an _ _ (by simp) al;have ae:c=x:=by
   have:=(bB.1 p).2;simpa using this
  subst ae;have ar:=(bB.1 b).1;have F:vs[c]?=some (vs[c]'(by omega)):=cA (by omega);have:(vs.toArray++Array.replicate (C.ntmps - vs.toArray.size) undef).getD c undef=vs[c]'(by omega):=by
   rw[dN,rL (by simp;omega)];simp[F]
  rw[this];exact I.get c _ l F b
 ·have B:(match fi.sc with|true=>(gY X b i fi.res).bind λa=>scope h b (aD a)|false=>(gY X b i fi.res).bind λa=>some (aD a,b))=some (d,h')→z.defers=[]∧∃v,(results C z.tmps).run P m.w = .ok v m.w∧∃y,Ending.returned v = .returned y∧∃g',g'.w=m.w∧aS g g'∧Inv g' h'∧aB g' y d:=λe=>by
    refine⟨t.defers,?_⟩;split at e
    ·obtain⟨a,j,e⟩:=gu.1 e;rw[← K]at j;obtain⟨v,u,s⟩:=vC q o t j;obtain⟨g',ak,R,ad,ai⟩:=Bi hi E o s e;exact⟨v,u,v,rfl,g',ak,R,ad,ai⟩
    ·obtain⟨a,j,e⟩:=gu.1 e;rw[← K]at j;obtain⟨v,u,s⟩:=vC q o t j;injection e with e;injection e with ao ap;subst ao;subst ap;exact⟨v,u,v,rfl,m,rfl,E,o,s⟩
  have M:(match fi.sc with|true=>(gY X b i fi.res).bind λa=>scope h b (aD a)|false=>(gY X b i fi.res).bind λa=>some (aD a,b))=(gY X b i fi.res).bind λa=>match fi.sc with|true=>scope h b (aD a)|false=>some (aD a,b):=by
   cases fi.sc<;>rfl
  cases l with
  |ext c=>cases r
  |aO=>exact B (by rw[M];exact r)
  |ret=>exact B (by rw[M];exact r)
end
end Go.Pi

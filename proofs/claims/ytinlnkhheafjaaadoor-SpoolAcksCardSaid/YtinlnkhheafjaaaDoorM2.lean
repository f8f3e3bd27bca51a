/- Part 2 of the texts that the theorem needs: an interpreter on data, proved sound; the functions on data; laws about them. -/
import Derived.Test.YtinlnkhheafjaaaDoorM1
set_option linter.unusedSimpArgs false
set_option linter.unusedVariables false
set_option linter.unnecessarySimpa false
namespace Go.Eng
abbrev kR:=@decide_eq_false
abbrev rI:=@Classical.byContradiction
abbrev ue:=@Classical.not_forall
abbrev uG:=@List.length_filter_le
end Go.Eng
namespace Go.Pi
open Go.Eng
theorem Fx(p:Nat→Bool):∀(m:Nat),((List.range m).filter p).length=m→∀i,i<m→p i=true:=λm h i d=>by
 have b:(List.range m).filter p=List.range m:=by
  apply pR.2;intro a c;rcases e9 ((List.range m).filter p).length (List.range m).length with e|f
  ·simp at e;omega
  ·cases hp:p a with
   |true=>rfl
   | false =>
    exfalso;have:((List.range m).filter p).length<(List.range m).length:=by
     apply List.length_filter_lt_length_iff_exists.2;exact⟨a,c,by simp[hp]⟩
    omega
 exact pR.1 b i (by simp[d])
def om(T:bD)(fz:List Nat)(j g:Gh)(a:Act)(e:List Oper):Prop:=
 (∀(d:Nat) (b:Oper) (c:Nat),e[d]?=some b→dP T fz b = .fa→b.dst=some c→kL T j g b (a.tmps.getD c undef)) ∧
 ∀(d h:Nat) (b f:Oper) (c i:Nat),e[d]?=some b→e[h]?=some f→dP T fz b = .fa→dP T fz f = .fa→b.dst=some c→f.dst=some i→d≠h→a.tmps.getD c undef≠a.tmps.getD i undef
structure p5 (pr:Nat→Prop) (n:Nat) (g:Gh) (e:DE) (a:Act):Prop where
 size:a.tmps.size=n
 defers:a.defers=[]
 get:∀t d,pr t→bK e t=some d→aB g (a.tmps.getD t undef) d
theorem om.tail{T:bD}{fz:List Nat}{e g:Gh}{a:Act}{o:Oper}{f:List Oper}(h:om T fz e g a (o::f)):om T fz e g a f:=
 ⟨λb c d hp=>h.1 (b+1) c d (by simpa using hp),λb n c p d q hp m i j k l r=>h.2 (b+1) (n+1) c p d q (by simpa using hp) (by simpa using m) i j k l (by omega)⟩
section
variable {P:Program} {X:Cx} {R:Type}
theorem yj (an:cC P X.T) {fz:List Nat} {nt:Nat} {r:R} {D:Gh} {a:Act} {aj:Nat→Prop}:∀(u:List Oper) (e:DE) (h:Z) (g:Gh) (y:DE→Z→Option R),jm X fz u e h y=some r→aT D g→Inv g h→p5 aj nt g e a→om X.T fz D g a u →
  ∃e' h' g',y e' h'=some r∧g'.w=g.w∧aT D g'∧Inv g' h'∧p5 aj nt g' e' a∧(∀v d,aB g v d→aB g' v d)∧∀t,(∀o∈u,dP X.T fz o = .fa→o.dst≠some t)→bK e' t=bK e t
 |[],e,h,g,y,p,n,hi,H,_=>⟨e,h,g,p,rfl,n,hi,H,λ_ _ G=>G,λ_ _=>rfl⟩
 | o :: u, e,h,g,y,p,n,hi,H,hp=>by
  have skip:jm X fz u e h y=some r→∃e' h' g',y e' h'=some r∧g'.w=g.w∧aT D g'∧Inv g' h'∧p5 aj nt g' e' a∧(∀v d,aB g v d→aB g' v d)∧∀t,(∀b∈o::u,dP X.T fz b = .fa→b.dst≠some t)→bK e' t=bK e t:=λp=>by
   obtain⟨e',h',g',ay,az,a0,a1,a2,a3,a4⟩:=yj an u e h g y p n hi H hp.tail;exact⟨e',h',g',ay,az,a0,a1,a2,a3,λt b7=>a4 t λb q=>b7 b (fG _ q)⟩
  unfold jm at p;split at p
  case h_2=>exact skip p
  rename_i ak t aq b3 ao;split at p
  case h_2=>cases p
  rename_i j a9;obtain⟨cf,ac,z,I,K,b5,be,cg,ae,a8,bv,ch,bu⟩:=hp.1 0 o t rfl aq ao;rw[b3]at I;injection I with I;subst I;rw[a9]at K;injection K with K;subst K
  let k:Gh:=⟨g.w,g.ms++[⟨z,j.V,1,1⟩],g.L⟩
  have af:k.ms[h.length]?=some ⟨z,j.V,1,1⟩:=by
   show(g.ms++_)[h.length]?=_;rw[← hi.len];simp
  have ar:∀(b:Nat) (m:Me),g.ms[b]?=some m→k.ms[b]?=some m:=λb m c=>by
   show(g.ms++_)[b]?=some m;rw[dY (aZ.1 c).1];exact c
  have E:∀(b:Nat) (m:Me),k.ms[b]?=some m→(b<h.length∧g.ms[b]?=some m)∨(b=h.length∧m=⟨z,j.V,1,1⟩):=λb m c=>by
   have ab:(g.ms++[(⟨z,j.V,1,1⟩:Me)])[b]?=some m:=c;rcases ka b g.ms.length with B|heq|bz
   ·rw[dY B]at ab;exact .inl ⟨by rw[← hi.len];exact B,ab⟩
   ·subst heq;simp at ab;exact .inr ⟨hi.len,ab.symm⟩
   ·exfalso;have:=(aZ.1 ab).1;simp at this;omega
  have ap:iB g k:=⟨rfl,rfl,rfl,aS _,ar,λz bt=>⟨bt,rfl⟩⟩
  have bw:aT D k:=⟨⟨n.os,n.tape,n.output,n.size,λb m c=>ar b m (n.ms b m c),λM Q=>⟨(n.fz M Q).1,(n.fz M Q).2⟩⟩,λM Q=>by
   obtain⟨aw,cc⟩:=n.lim M Q;refine⟨⟨aw.1,aw.2.1,λb m c=>?_⟩,cc⟩;rcases E b m c with⟨_,c⟩|⟨_,rfl⟩
   ·exact aw.2.2 b m c
   ·have:=Q.1;show z≠M;omega⟩
  have ad:∀(b:Nat) (ai:Ob),(aL h ak j.V [j.zero])[b]?=some ai→(b<h.length∧h[b]?=some ai)∨(b=h.length∧ai = .row ak j.V [j.zero]):=λb ai F=>by
   unfold aL at F;rcases ka b h.length with B|heq|bz
   ·rw[dY B]at F;exact .inl ⟨B,F⟩
   ·subst heq;simp at F;exact .inr ⟨rfl,F.symm⟩
   ·exfalso;have:=(aZ.1 F).1;simp at this;omega
  have b0:Inv k (aL h ak j.V [j.zero]):=by
   refine⟨by show(g.ms++[_]).length=(h++[_]).length;simp[hi.len],λb al a6 r1 q=>?_,λb x al a6 bi ce r1 cd ax ah am l f i N=>?_,hi.L,λb m c=>?_⟩
   ·rcases ad b _ q with⟨B,q⟩|⟨rfl,heq⟩
    ·obtain⟨m,bm,c,s⟩:=hi.live b al a6 r1 q;exact⟨m,bm,ar b m c,s.fy,s.fR,s.pos,s.hL,s.len,s.le,s.room,s.row,λac a5 l au d f=>by
      obtain⟨v,i,N,bq⟩:=s.cell ac a5 l au d f;exact⟨v,i,N,bq.hF ap⟩⟩
    ·injection heq with bn bo bp;subst bn;subst bo;subst bp;refine⟨_,a8,af,⟨(0,0),bv,.inl rfl⟩,rfl,b5,ae.2.1,rfl,aS _,by show 1*j.V≤a8.size;omega,λa5 G=>?_,λac a5 l au d f=>?_⟩
     ·simp at G;subst G;exact an.EI a9
     ·cases ac with
      | zero =>
       simp at l;subst l;obtain⟨v,bj,bk,bl⟩:=bu au d f;exact⟨v,by simpa using bj,bk,bl k⟩
      |succ ac=>simp at l
   ·rcases ad b _ am with⟨B,am⟩|⟨rfl,heq⟩
    ·rcases E b ax f with⟨_,f⟩|⟨bc,_⟩
     ·rcases ad x _ l with⟨b1,l⟩|⟨rfl,bx⟩
      ·rcases E x ah i with⟨_,i⟩|⟨bc,_⟩
       ·exact hi.inj b x al a6 bi ce r1 cd ax ah am l f i N
       ·omega
      ·exfalso;rw[af]at i;injection i with i;subst i;exact ae.2.2 b ax f N
     ·omega
    ·rcases ad x _ l with⟨b1,l⟩|⟨rfl,bx⟩
     ·rcases E x ah i with⟨_,i⟩|⟨bc,_⟩
      ·exfalso;rw[af]at f;injection f with f;subst f;exact ae.2.2 x ah i N.symm
      ·omega
     ·rfl
   ·rcases E b m c with⟨_,c⟩|⟨_,rfl⟩
    ·exact hi.msb b m c
    ·exact ae.1
  have b6:p5 aj nt k ((t,.ptr h.length 0 0)::e) a:=by
   refine⟨H.size,H.defers,λC d ag A=>?_⟩;rw[ib]at A;by_cases bd:t=C
   ·subst bd;rw[bE rfl]at A;injection A with A;subst A;rw[be];have:=aB.ptr (g:=k) h.length 0 0 ⟨z,j.V,1,1⟩ af;simpa using this
   ·rw[bV bd]at A;exact(H.get C d ag A).hF ap
  have b4:om X.T fz D k a u:=by
   refine⟨λb bg C q bb ba=>?_,hp.tail.2⟩;obtain⟨bh,b8,a7,I,K,b9,bf,ca,av,cb⟩:=hp.1 (b+1) bg C (by simpa using q) bb ba;have b2:=hp.2 0 (b+1) o bg t C rfl (by simpa using q) aq bb ao ba (by omega);refine⟨bh,b8,a7,I,K,b9,bf,ca,⟨av.1,av.2.1,λx m c=>?_⟩,cb⟩;rcases E x m c with⟨_,c⟩|⟨_,rfl⟩
   ·exact av.2.2 x m c
   ·intro aa;apply b2;rw[be,bf];have aa:z=a7:=aa;rw[aa]
  obtain⟨e',h',g',ay,az,a0,a1,a2,a3,a4⟩:=yj an u _ _ k y p bw b0 b6 b4;refine⟨e',h',g',ay,az,a0,a1,a2,λv d G=>a3 v d (G.hF ap),λC ag=>?_⟩;rw[a4 C λb q=>ag b (fG _ q),ib,bV (λaa=>ag o (gO ..) aq (by rw[ao,aa]))]
end
section
variable {P:Program} {X:Cx} {R:Type} {call:cE} {nt:Nat} {fz eZ:List Nat} {l:List Oper} {m:Nat} {e:DE} {h:Z} {en:Nat→DE} {hp:Nat→Z} {va:Nat→D} {HK:Nat→Z} (tr:Tr X call nt fz eZ l m e h en hp va HK)
include tr
theorem kH.sat{r g:Gh}{n:Array Bool}{c:Nat}{a:Act}(f:kH P X nt fz l m e va HK r n c a g):p5 (λt=>∀z p,z<m→n[z]?≠some true→l[z]?=some p→p.dst≠some t) nt g (en m) a:=by
 refine⟨f.size,f.defers,λt q hp i=>?_⟩;by_cases d:t∈eO (l.take m)
 ·unfold eO at d;rw[ja]at d;obtain⟨p,v,k⟩:=d;obtain⟨o,b⟩:=mZ v;rw[eY]at b;split at b
  ·rename_i j;have h:=tr.val j b k j (aS _);rw[i]at h;injection h with h;rw[h];refine f.done o p t ?_ b k;apply rI;intro u;exact hp o p j u b k
  ·cases b
 ·have:=tr.aX (t:=t) 0 m (il _) (aS _) λA p y s x w=>d (by
    unfold eO;rw[ja];exact⟨p,eB (by rw[eY,bE s];exact x),w⟩)
  rw[this,tr.e0]at i;exact f.base t q d i
theorem kH.ru{w g:Gh}{r:Array Bool}{c:Nat}{a:Act}(s:kH P X nt fz l m e va HK w r c a g){i:Nat}{o:Oper}(hi:i<m)(u:l[i]?=some o)
  (y:∀j p t,j<m→l[j]?=some p→p.dst=some t→t∈looks l o→r[j]?=some true):∀t d,t∈looks l o→bK (en i) t=some d→aB g (a.tmps.getD t undef) d:=λt d v n=>by
 by_cases f:t∈eO (l.take m)
 ·unfold eO at f;rw[ja]at f;obtain⟨p,A,h⟩:=f;obtain⟨j,b⟩:=mZ A;rw[eY]at b;split at b
  ·rename_i q;have x:=tr.look i j o p t hi q u b v h;have z:=u4 tr.nO u x;have k:=tr.val q b h z (Nat.le_of_lt hi);rw[n]at k;injection k with k;rw[k];exact s.done j p t (y j p t q b h v) b h
  ·cases b
 ·have:=tr.aX (t:=t) 0 i (il _) (by omega) λD p E F C B=>f (by
    unfold eO;rw[ja];exact⟨p,eB (by rw[eY,bE (show D<m by omega)];exact C),B⟩)
  rw[this,tr.e0]at n;exact s.base t d f n
theorem Tr.CJ{k j:Nat}{o:Oper}(s:m≤k)(h2:k<dQ l)(f:j<k)(e:l[k]?=some o):
  (∃x∈o.after.toList,Region.binds .any x=true∧x.on=j)∨(j<m∧∀p t,l[j]?=some p→o.dst=some t→t∉looks l p):=by
 rcases tr.late with u|d
 ·omega
 unfold qR at d;simp only[dU]at d;have:=(ff.1 d.1.1) k (by simp[h2]);simp only[n4]at this;rcases this with a|a
 ·have:=dL a;omega
 ·have:=(ff.1 a) j (by simp[f]);simp only[n4,dU]at this;rcases this with a|⟨a,b⟩
  ·left;have c:=lM.1 a;unfold jh at c;have i:l.toArray[k]?=some o:=by simpa using e
   rw[i]at c;simp only[eJ,fo]at c;obtain⟨x,⟨q,g⟩,r⟩:=c;exact⟨x,q,g,r⟩
  ·right;refine⟨dL a,λp t hp h n=>?_⟩;unfold Ds at b;rw[e,hp]at b;simp only[h]at b;rw[lM.2 n]at b;cases b
theorem Tr.idle{j:Nat}(q:j<m)(e:jL m l j=true):
  ∃p t,l[j]?=some p∧dP X.T fz p = .pure∧p.dst=some t∧∀i∈looks l p,∀c h,c<m→l[c]?=some h→h.dst=some i→jL m l c=false:=by
 rcases tr.late with A|g
 ·exfalso;unfold jL at e;rw[zZ]at e;obtain⟨r,b,k⟩:=e;simp only[dU,kC]at k;have:r<dQ l:=by simpa using b
  have a:Nat.blt r m=true:=iU (by omega);rw[k.1]at a;cases a
 unfold qR at g;simp only[dU]at g;have:=(ff.1 g.1.2) j (by simp[q]);rw[e]at this;simp only[fU,rH,dU]at this;obtain⟨p,hp⟩:=tr.get q;obtain⟨d,a⟩:=this;unfold xq at d;rw[hp]at d;simp only[dU]at d;obtain⟨⟨b,z⟩,n⟩:=d;have b:dP X.T fz p = .pure:=by
  generalize dP X.T fz p=y at b;cases y<;>first|rfl|cases b
 cases o:p.dst with
 |none=>rw[o]at n;cases n
 | some t =>
  refine⟨p,t,hp,b,o,λi x c h w v u=>?_⟩;unfold EH at a;rw[hp]at a;have s:=(ff.1 a) i x;have f:=(ff.1 s) c (by simp[w]);rw[v]at f;simp only[u]at f;simpa using f
theorem Tr.MM{k:Nat}{o p:Oper}(e:m≤k)(h2:k<dQ l)(d:l[k]?=some o)(hp:l[k+1]?=some p):oT fz o p=none:=by
 rcases tr.late with f|b
 ·omega
 unfold qR at b;simp only[dU]at b;have:=(ff.1 b.2) k (by simp[h2]);simp only[n4]at this;rcases this with a|a
 ·have:=dL a;omega
 ·unfold Dq at a;rw[d,hp]at a;simp only at a;cases c:oT fz o p with
  |none=>rfl
  |some g=>rw[c]at a;cases a
theorem Tr.waits{i j:Nat}{o:Oper}(c:l[i]?=some o)(n:j<i)(p:dQ l≤i):∃x∈o.after.toList,Region.binds .any x=true∧x.on=j:=by
 have g:=(aZ.1 c).1;have e:jM j (jh l.toArray i)=true→∃x∈o.after.toList,Region.binds .any x=true∧x.on=j:=λa=>by
  have b:=lM.1 a;unfold jh at b;have h:l.toArray[i]?=some o:=by simpa using c
  rw[h]at b;simp only[eJ,fo]at b;obtain⟨x,⟨k,f⟩,m⟩:=b;exact⟨x,k,f,m⟩
 have d:=(ff.1 tr.tail) i (by simp[g]);simp only[n4]at d;rcases d with a|a
 ·have:=dL a;omega
 ·exact e ((ff.1 a) j (by simp;omega))
omit tr in
theorem K5{i j:Nat}(d:m≤i)(c:i<dQ l)(b:jL m l j=false):hI (h9 l) i j=true:=by
 cases a:hI (h9 l) i j with
 |true=>rfl
 | false =>
  exfalso;have:jL m l j=true:=by
   unfold jL;rw[zZ];refine⟨i,by simp[c],?_⟩;rw[a];have:Nat.blt i m=false:=by
    cases a:Nat.blt i m with
    |false=>rfl
    |true=>have:=dL a;omega
   rw[this];rfl
  rw[b]at this;cases this
omit tr in
theorem tu{a:Array Bool}{i:Nat}(p:a.size=l.length):i∈Region.ready .any l.toArray a↔∃o,l[i]?=some o∧a[i]?=some false∧∀x∈o.after.toList,Region.binds .any x=true→a[x.on]?=some true:=by
 unfold Region.ready;rw[fo];constructor
 ·rintro⟨m,c⟩;have g:i<l.length:=by simpa using m
  have b:l[i]?=some l[i]:=cA g;have h:l.toArray[i]?=some l[i]:=by simpa using b
  rw[h]at c;simp only[gH,gP,dU,kC]at c;refine⟨l[i],b,?_,λx j f=>?_⟩
  ·obtain⟨e,d⟩:∃e,a[i]?=some e:=⟨_,ln (by omega)⟩
   have:=c.1;rw[dS,d]at this;rw[d];simp at this;rw[this]
  ·have:=(tZ.1 c.2) x (by simpa using j);rw[f]at this;simp only[fU,rH]at this;rw[dS]at this;cases k:a[x.on]? with
   |none=>rw[k]at this;cases this
   |some e=>rw[k]at this;simp at this;rw[this]
 ·rintro⟨o,b,d,n⟩;have g:=(aZ.1 b).1;refine⟨by simpa using g,?_⟩;have h:l.toArray[i]?=some o:=by simpa using b
  rw[h];simp only[gH,gP,dU,kC];refine⟨by rw[dS,d];rfl,tZ.2 λx j=>?_⟩;cases f:Region.binds .any x with
  |false=>rfl
  | true =>
   simp only[fU,rH];rw[dS,n x (by simpa using j) f];rfl
theorem Tr.back{k:Nat}{p:Oper}(hp:l[k]?=some p):∀x∈p.after.toList,Region.binds .any x=true→x.on<k:=λx f b=>by
 have a:=tr.nO;simp only[mD,dU]at a;have d:=(aZ.1 hp).1;have:=(ff.1 a.2) k (by simp[d]);have c:x.on∈jh l.toArray k:=by
  unfold jh;have e:l.toArray[k]?=some p:=by simpa using hp
  rw[e];simp only[eJ,fo];exact⟨x,⟨f,b⟩,rfl⟩
 exact dL ((ff.1 this) _ c)
theorem Tr.nonempty{b:Array Bool}(d:b.size=l.length):∀(n i:Nat),i<n→i<m→b[i]?=some false→∃i,i∈Region.ready .any l.toArray b
 |0,i,h,_,_=>by omega
 | n+1,i,s,hi,j=>by
  obtain⟨o,g⟩:=tr.get hi;by_cases e:∀a∈o.after.toList,Region.binds .any a=true→b[a.on]?=some true
  ·exact⟨i,(tu d).2 ⟨o,g,j,e⟩⟩
  ·simp only[ue]at e;obtain⟨a,q,k,p⟩:=e;have r:=tr.back g a q k;obtain⟨c,f⟩:∃c,b[a.on]?=some c:=⟨_,ln (by rw[d];have:=tr.ml;omega)⟩
   refine Tr.nonempty d n a.on (by omega) (by omega) ?_;cases c with
   |false=>exact f
   |true=>exact absurd f p
theorem Is (E:cC P X.T) (G:fV P X call) {q:Gh} (N:eR q X.gl) {Q:Exit→Act→World→Prop}
  (A:∀f b c a g,kH P X nt fz l m e va HK q b c a g→(∀i,i<m→jL m l i=false→b[i]?=some true)→l.length≤f+c→wpAny P .any l.toArray Q f b a g.w):∀(f:Nat) (b:Array Bool) (c:Nat) (a:Act) (g:Gh),kH P X nt fz l m e va HK q b c a g→l.length≤f+c→wpAny P .any l.toArray Q f b a g.w:=by
 intro f
 induction f with
 | zero =>
  intro b c a g d t;have ao:c≤m:=by
   rw[← d.lz];have:=uG (λi=>b.getD i false) (List.range m);simpa using this
  have ap:=tr.ml;have H:c=m:=by omega
  refine A 0 b c a g d (λi o _=>?_) t;have:=Fx (λi=>b.getD i false) m (by rw[d.lz,H]) i o;simp only[dS]at this;cases z:b[i]? with
  |none=>rw[z]at this;cases this
  |some n=>rw[z]at this;simp at this;rw[this]
 | succ f al =>
  intro b c a g d t;by_cases r:∀i,i<m→jL m l i=false→b[i]?=some true
  ·exact A (f+1) b c a g d r t
  ·simp only[ue]at r;obtain⟨j,ab,ad,k⟩:=r;have k:b[j]?=some false:=by
    obtain⟨n,y⟩:∃n,b[j]?=some n:=⟨_,ln (by rw[d.ik];have:=tr.ml;omega)⟩
    cases n with
    |true=>exact absurd y k
    |false=>exact y
   refine⟨λag=>?_,λi aa=>?_⟩
   ·obtain⟨i,o⟩:=tr.nonempty d.ik (j+1) j (by omega) ab k;rw[ag]at o;cases o
   ·obtain⟨x,p,D,s⟩:=(tu d.ik).1 aa;have R:i<m:=by
     rcases e9 i m with u|L
     ·exact u
     ·exfalso;rcases e9 i (dQ l)with u|M
      ·have I:∀h,b[h]?=some true→∃am,l[h]?=some am:=λh ac=>tr.get (d.main h ac)
       have:=ou (S:=λh=>b[h]?=some true) d.cl (i+1) i j x (by omega) p s I (K5 L u ad);rw[k]at this;cases this
      ·obtain⟨an,aj,F,ak⟩:=tr.waits p (j:=j) (by omega) M;have:=s an aj F;rw[ak,k]at this;cases this
    have ah:ot P l.toArray Q x a g (wpAny P .any l.toArray Q f (b.setIfInBounds i true)):=d.step tr E G N R p D s λB C K=>al _ (c+1) B C K (by omega)
    unfold wpOp;have af:l.toArray[i]?=some x:=by simpa using p
    rw[af];simp only[];rcases ah with⟨v,ai⟩|⟨v,ae⟩
    ·rw[bE v];exact .inl ai
    ·rw[bV (by simp[v])];exact ae
structure EY (P:Program) (X:Cx) (nt:Nat) (fz:List Nat) (l:List Oper) (m:Nat) (en:Nat→DE) (va:Nat→D) (k:Nat) (e:DE) (h:Z) (g0:Gh) (L:Array Bool) (a:Act) (g:Gh):Prop where
 size:a.tmps.size=nt
 defers:a.defers=[]
 ik:L.size=l.length
 cl:∀(i:Nat) (o:Oper),L[i]?=some true→l[i]?=some o→∀x∈o.after.toList,Region.binds .any x=true→L[x.on]?=some true
 tl:∀i,k≤i→i<l.length→L[i]?=some false
 md:∀i,m≤i→i<k→L[i]?=some true
 pn:∀i,i<m→L[i]?≠some true→jL m l i=true
 ext:aT g0 g
 inv:Inv g h
 env:∀t d,(∀z p,z<m→L[z]?≠some true→l[z]?=some p→p.dst≠some t)→bK e t=some d→aB g (a.tmps.getD t undef) d
 ru:∀z p t d,z<m→L[z]?≠some true→l[z]?=some p→t∈looks l p→bK (en z) t=some d→aB g (a.tmps.getD t undef) d
 yC:∀z p t,z<m→L[z]?≠some true→l[z]?=some p→p.dst=some t→bK e t=some (va z)
omit tr in
theorem A3{a:Array Bool}{i:Nat}(hi:i<a.size)(e:a[i]?=some false):∀(n:Nat),((List.range n).filter λb => !((a.setIfInBounds i true).getD b false)).length+(if i<n then 1 else 0)=((List.range n).filter λb => !(a.getD b false)).length
 |0=>by simp
 | n+1=>by
  have k:=A3 hi e n;rw[ng,j6,j6,gh,gh,← k];by_cases f:i=n
  ·subst f;have c:(a.setIfInBounds i true).getD i false=true:=by
    rw[dS,rE hi];rfl
   have d:a.getD i false=false:=by rw[dS,e];rfl
   have g:([i].filter λb => !((a.setIfInBounds i true).getD b false))=[]:=by rw[ju,c];rfl
   have h:([i].filter λb => !(a.getD b false))=[i]:=by rw[ju,d];rfl
   rw[g,h,bV (Nat.lt_irrefl _),bE (uN _)];simp
  ·have c:(a.setIfInBounds i true).getD n false=a.getD n false:=by
     rw[dS,j4 f,← dS]
   have d:(i<n+1)↔(i<n):=by omega
   simp only[d];have j:([n].filter λb => !((a.setIfInBounds i true).getD b false))=([n].filter λb => !(a.getD b false)):=by
    rw[ju,ju,c];rfl
   rw[j];omega
omit tr in
theorem A2(p:Nat→Bool):∀(n:Nat),((List.range n).filter λa => !(p a)).length+((List.range n).filter p).length=n
 |0=>rfl
 | n+1=>by
  have b:=A2 p n;rw[ng,j6,j6,gh,gh];cases hp:p n<;>simp[hp]<;>omega
omit tr in
theorem ts{a:Act}{dst:Option Nat}{v:Value}{t:Nat}(h:dst≠some t):(a.put dst v).tmps.getD t undef=a.tmps.getD t undef:=by
 cases dst with
 |none=>rfl
 | some d =>
  have c:d≠t:=λb=>h (by rw[b])
  simp only[Act.put,dS];rw[j4 c]
omit tr in
theorem DK{a:Act}{v:Value}{t:Nat}(h:t<a.tmps.size):(a.put (some t) v).tmps.getD t undef=v:=by
 simp[Act.put,Array.getD,h]
theorem K6 (ba:cC P X.T) (bb:fV P X call) {ax:Gh} (bf:eR ax X.gl) {Q:Exit→Act→World→Prop} {al:DE→Z→Option R} {r:R} {e0:DE}
  (bp:∀e h a g,aT ax g→eG nt g e a→Inv g h→(∀t,t∉eO l→bK e t=bK e0 t)→gv X call nt fz eZ l (l.drop (dQ l)) e h al=some r→wpList P l.toArray Q (l.drop (dQ l)) a g.w) :
  ∀(N k:Nat) (e:DE) (h:Z) (n:Array Bool) (a:Act) (g:Gh),m≤k→k≤dQ l→gv X call nt fz eZ l (l.drop k) e h al=some r→(∀t,t∉eO l→bK e t=bK e0 t)→EY P X nt fz l m en va k e h ax n a g →
   ((List.range m).filter λi => !(n.getD i false)).length+(l.length - k)≤N→wpAny P .any l.toArray Q N n a g.w:=by
 have cr:=tr.Ml;have cu:=tr.ml;intro N
 induction N with
 | zero =>
  intro k e h n a g bj bk F ai b b4;have a2:k=dQ l:=by omega
  have ce:((List.range m).filter λi => !(n.getD i false))=[]:=gE (by omega);have ah:∀i,i<m→n[i]?=some true:=λi K=>by
   have:=(rU.1 ce) i (by simp[K]);simp only[kC,Bool.not_eq_false,dS]at this;cases z:n[i]? with
   |none=>rw[z]at this;cases this
   |some am=>rw[z]at this;simp at this;rw[this]
  subst a2;refine ED tr.nO tr.tail (l.drop (dQ l)) (dQ l) 0 n a g.w (aS _) rfl b.ik (λi K=>?_) (by simp;omega) (bp e h a g b.ext ⟨b.size,b.defers,λt C H=>b.env t C (λf p q v=>absurd (ah f q) v) H⟩ b.inv ai F);rcases e9 i (dQ l)with L|I
  ·rw[ki L];rcases e9 i m with o|o
   ·exact ah i o
   ·exact b.md i o L
  ·rw[kR (by omega)];exact b.tl i I K
 | succ N bu =>
  intro k e h n a g bj bk F ai b b4;by_cases az:k=dQ l∧∀i,i<m→n[i]?=some true
  ·obtain⟨a2,ah⟩:=az;subst a2;refine ED tr.nO tr.tail (l.drop (dQ l)) (dQ l) (N+1) n a g.w (aS _) rfl b.ik (λi K=>?_) (by simp;omega) (bp e h a g b.ext ⟨b.size,b.defers,λt C H=>b.env t C (λf p q v=>absurd (ah f q) v) H⟩ b.inv ai F);rcases e9 i (dQ l)with L|I
   ·rw[ki L];rcases e9 i m with o|o
    ·exact ah i o
    ·exact b.md i o L
   ·rw[kR (by omega)];exact b.tl i I K
  have b5:∀c,n[c]?=some true→∃p,l[c]?=some p:=λc z=>⟨_,cA (by have:=(gL.1 z).1;rw[b.ik]at this;exact this)⟩
  have bw:∀i,i<m→n[i]?≠some true→n[i]?=some false:=λi K aj=>by
   obtain⟨am,A⟩:∃am,n[i]?=some am:=⟨_,ln (by rw[b.ik];omega)⟩
   cases am with
   |true=>exact absurd A aj
   |false=>exact A
  refine⟨λau=>?_,λi b7=>?_⟩
  ·by_cases q:∀i,i<m→n[i]?=some true
   ·have ct:k<dQ l:=by
      rcases e9 k (dQ l)with L|I
      ·exact L
      ·exact absurd ⟨by omega,q⟩ az
    have bl:l[k]?=some l[k]:=cA (show k<l.length by omega);have:k∈Region.ready .any l.toArray n:=(tu b.ik).2 ⟨_,bl,b.tl k (aS _) (by omega),λy B A=>by
     have:=tr.back bl y B A;rcases e9 y.on m with o|o
     ·exact q _ o
     ·exact b.md _ o this⟩
    rw[au]at this;cases this
   ·simp only[ue]at q;obtain⟨j,bi,bx⟩:=q;obtain⟨i,K⟩:=tr.nonempty b.ik (j+1) j (by omega) bi (bw j bi bx);rw[au]at K;cases K
  ·obtain ⟨s,w,ap,H⟩:=(tu b.ik).1 b7;have bg:i<n.size:=(gL.1 ap).1;have G:∀c,c≠i→(n.setIfInBounds i true)[c]?=n[c]?:=λc z=>j4 (λE=>z E.symm)
   have ay:(n.setIfInBounds i true)[i]?=some true:=rE bg;have bc:∀(c:Nat) (p:Oper),(n.setIfInBounds i true)[c]?=some true→l[c]?=some p→∀y∈p.after.toList,Region.binds .any y=true→(n.setIfInBounds i true)[y.on]?=some true:=λc p z hp y B A=>by
    have bo:∀ak,n[ak]?=some true→(n.setIfInBounds i true)[ak]?=some true:=λak af=>by
     by_cases bq:ak=i
     ·subst bq;exact ay
     ·rw[G ak bq];exact af
    by_cases M:c=i
    ·subst M;rw[w]at hp;injection hp with hp;subst hp;exact bo _ (H y B A)
    ·rw[G c M]at z;exact bo _ (b.cl c p z hp y B A)
   have bd:=A3 bg ap m;have cj:ot P l.toArray Q s a g (wpAny P .any l.toArray Q N (n.setIfInBounds i true)):=by
    rcases e9 i m with aa|I
    ·
     have aj:n[i]?≠some true:=by rw[ap];simp
     have bn:=b.pn i aa aj;obtain⟨p,t,hp,bm,ar,cs⟩:=tr.idle aa bn;rw[w]at hp;injection hp with hp;subst hp;have af:gn X.T fz s=false:=by unfold gn;rw[bm]
     have cg:lH X.T fz s=false:=by unfold lH;rw[bm]
     have ch:=Du af (tr.step i s aa w).1 (h2:=h) (λa9=>by rw[cg]at a9;cases a9);have ck:=((tr.step i s aa w).2.2 t ar).1;refine ra ba bb ch b.inv (bf.ext b.ext) (λd C u x=>b.ru i s d C aa aj w u x) λan bv ad a1 a5 _=>?_
     rw[bE aa]at bd;have ab:∀c,(n.setIfInBounds i true)[c]?≠some true→c≠i∧n[c]?≠some true:=λc z=>by
      by_cases M:c=i
      ·subst M;exact absurd ay z
      ·rw[G c M]at z;exact⟨M,z⟩
     refine bu k e h _ _ an bj bk F ai ⟨by rw[ar];simp[Act.put,b.size],by rw[ar];simp[Act.put,b.defers],by simp[b.ik],bc,λc o h2=>by rw[G c (by omega)];exact b.tl c o h2,λc o h2=>by rw[G c (by omega)];exact b.md c o h2,λc o h2=>b.pn c o (ab c h2).2,b.ext.trans ad,a1,λd C a4 x=>?_,λf p d C q v hp u x=>?_,λf p d q v hp ag=>b.yC f p d q (ab f v).2 hp ag⟩ (by omega)
     ·by_cases D:s.dst=some d
      ·have av:=b.yC i s d aa aj w D;rw[x]at av;injection av with av;rw[av,D,DK (by rw[ar]at D;injection D with D;subst D;rw[b.size];exact ck)];exact a5
      ·rw[ts D];refine(b.env d C (λf p q v hp=>?_) x).ext ad;by_cases br:f=i
       ·subst br;rw[w]at hp;injection hp with hp;subst hp;exact D
       ·exact a4 f p q (by rw[G f br];exact v) hp
     ·have bt:=ab f v;have b9:=b.pn f q bt.2;obtain⟨cw,cy,aq,_,_,b3⟩:=tr.idle q b9;rw[hp]at aq;injection aq with aq;subst aq;have a3:s.dst≠some d:=λE=>by
       have:=b3 d u i s aa w E;rw[bn]at this;cases this
      rw[ts a3];exact(b.ru f p d C q bt.2 hp u x).ext ad
    ·
     have b6:i=k:=by
      rcases ka i k with o|o|o
      ·have:=b.md i I o;rw[ap]at this;cases this
      ·exact o
      ·exfalso;have b8:=b.tl k (aS _) (by have:=(aZ.1 w).1;omega);have:∃y∈s.after.toList,Region.binds .any y=true∧y.on=k:=by
        rcases e9 i (dQ l)with h2|h2
        ·rcases tr.CJ I h2 o w with B|⟨B,_⟩
         ·exact B
         ·omega
        ·exact tr.waits w o h2
       obtain⟨y,B,A,cp⟩:=this;have:=H y B A;rw[cp,b8]at this;cases this
     subst b6;have a0:i<dQ l:=by
      rcases e9 i (dQ l)with o|o
      ·exact o
      ·exfalso;refine az ⟨by omega,λf q=>?_⟩;obtain⟨y,B,A,a7⟩:=tr.waits w (j:=f) (by omega) o;rw[← a7];exact H y B A
     have bh:i<l.length:=by omega
     have b2:l.drop i=s::l.drop (i+1):=by
      rw[j5 bh];have:l[i]?=some l[i]:=cA bh;rw[w]at this;injection this with this;rw[← this]
     have cd:jN X call nt fz eZ l s e h (λac ao=>gv X call nt fz eZ l (l.drop (i+1)) ac ao al)=some r:=by
      rw[b2]at F;cases a6:l.drop (i+1)with
      |nil=>rw[a6]at F;simpa only[gv]using F
      | cons p cx =>
       rw[a6]at F;simp only[gv]at F;have cf:l[i+1]?=some p:=by
        have:(l.drop (i+1))[0]?=some p:=by rw[a6];rfl
        simpa using this
       rw[tr.MM I a0 w cf]at F;exact F
     obtain⟨C,ao,au,bz⟩:=tp cd;have cq:∀f p d,f<m→n[f]?≠some true→l[f]?=some p→d∈looks l s→p.dst≠some d:=λf p d q v hp u ag=>by
      have A:=tr.C3 i f s p d a0 q w hp u ag;exact v (ou (S:=λc=>n[c]?=some true) b.cl (i+1) i f s (by omega) w H b5 A)
     have ca:(if i<m then 1 else 0)=0:=bV (by omega);rw[ca]at bd;refine ra ba bb au b.inv (bf.ext b.ext) (λd C u x=>b.env d C (λf p q v hp=>cq f p d q v hp u) x) λan bv ad a1 a5 _=>?_
     have ab:∀c,c<m→(n.setIfInBounds i true)[c]?=n[c]?:=λc z=>G c (by omega)
     have a8:∀ac,gv X call nt fz eZ l (l.drop (i+1)) ac ao al=some r→(∀d,s.dst≠some d→bK ac d=bK e d)→(∀d,s.dst=some d→d<nt∧bK ac d=some C)→wpAny P .any l.toArray Q N (n.setIfInBounds i true) (a.put s.dst bv) an.w:=λac ci ae b0=>by
      refine bu (i+1) ac ao _ _ an (by omega) (by omega) ci (λd u=>?_) ⟨by cases z:s.dst<;>simp[Act.put,b.size],by cases z:s.dst<;>simp[Act.put,b.defers],by simp[b.ik],bc,λc o h2=>by rw[G c (by omega)];exact b.tl c (by omega) h2,λc o h2=>?_,λc o h2=>b.pn c o (by rw[← ab c o];exact h2),b.ext.trans ad,a1,λd aw a4 x=>?_,λf p d aw q v hp u x=>?_,λf p d q v hp ag=>?_⟩ (by omega)
      ·rw[ae d (λE=>u (by unfold eO;rw[ja];exact⟨s,eB w,E⟩))];exact ai d u
      ·by_cases M:c=i
       ·subst M;exact ay
       ·rw[G c M];exact b.md c o (by omega)
      ·by_cases D:s.dst=some d
       ·obtain⟨cn,cm⟩:=b0 d D;rw[cm]at x;injection x with x;rw[← x,D,DK (by rw[b.size];exact cn)];exact a5
       ·rw[ts D];rw[ae d D]at x;exact(b.env d aw (λf p q v hp=>a4 f p q (by rw[ab f q];exact v) hp) x).ext ad
      ·rw [ab f q]at v;have a3:s.dst≠some d:=λE=>by
        rcases tr.CJ I a0 (show f<i by omega) w with⟨y,B,A,a7⟩|⟨_,B⟩
        ·have:=H y B A;rw[a7]at this;exact v this
        ·exact B p d hp E u
       rw[ts a3];exact(b.ru f p d aw q v hp u x).ext ad
      ·rw[ab f q]at v;rw[ae d λE=>by have:=tr.mc w hp E ag;omega];exact b.yC f p d q v hp ag
     rcases bz with⟨b1,ae⟩|⟨t,be,L,ae⟩
     ·exact a8 e ae (λ_ _=>rfl) (λd u=>by rw[b1]at u;cases u)
     ·refine a8 _ ae (λd u=>?_) (λd u=>?_)
      ·rw[ib,bV (λE=>u (by rw[be,E]))]
      ·rw[be]at u;injection u with u;subst u;exact⟨L,by rw[ib,bE rfl]⟩
   unfold wpOp;have cc:l.toArray[i]?=some s:=by simpa using w
   rw[cc];simp only[];rcases cj with⟨af,co⟩|⟨af,cb⟩
   ·rw[bE af];exact .inl co
   ·rw[bV (by simp[af])];exact cb
end
section
variable {P:Program} {X:Cx} {R:Type}
theorem Ha(H:cC P X.T)(bl:P.follows .mixedOrders=true){call:cE}(ae:fV P X call){nt:Nat}{fz eZ:List Nat}{m:Nat}{l:List Oper}{e:DE}{h:Z}{N:DE→Z→Option R}{r:R}(B:kS X call nt fz eZ m l e h N=some r)
  {Q:Exit→Act→World→Prop} {g:Gh} {a:Act} (hi:Inv g h) (af:eR g X.gl) (ah:eG nt g e a)
  (bn:∀e' h' g' y,N e' h'=some r→(∀t,t∉eO l→bK e' t=bK e t)→aT g g'→Inv g' h'→eG nt g' e' y→Q .normal y g'.w) {id:Nat}:(Code.region id l.toArray true).wp P Q a g.w:=by
 obtain⟨en,hp,va,HK,tr,i⟩:=Hc B;refine wp_region_any bl ?_;have C:=g.Bi;have b6:=tr.ml;have bc:kH P X nt fz l m e va HK g.draw (Array.replicate l.length false) 0 a g.draw:=by
  have A:∀b,(Array.replicate l.length false)[b]?≠some true:=λb hi=>by
   rw[Array.getElem?_replicate]at hi;split at hi<;>simp at hi
  have ao:∀b,(Array.replicate l.length false).getD b false=false:=λb=>by
   rw[dS,Array.getElem?_replicate];split<;>rfl
  refine⟨ah.size,ah.defers,by simp,λb j hi=>absurd hi (A b),λb hi=>absurd hi (A b),?_,aT.refl _,?_,λt ab _ B=>(ah.get t ab B).ext C,λb j t hi=>absurd hi (A b),λb j t hi=>absurd hi (A b),λb aj j c t M hi=>absurd hi (A b)⟩
  ·have:(List.range m).filter (λb=>(Array.replicate l.length false).getD b false)=[]:=by
     rw[rU];intro b _;rw[ao];simp
   rw[this];rfl
  ·have:((List.range m).filter (dD X.T fz l)).filter (λb=>(Array.replicate l.length false).getD b false)=[]:=by
     rw[rU];intro b _;rw[ao];simp
   rw[this];simp only[e8,tr.Cd];exact Gh.Hd hi
 have:=Is tr H ae (af.ext C) (Q:=Q) (λa1 v b1 y g' k al b5=>?_) l.length (Array.replicate l.length false) 0 a g.draw bc (by omega)
 ·rw[jy];exact this
 ·have K:∀b,b<m→v[b]?≠some true→jL m l b=true:=λb hi D=>by
    cases bj:jL m l b with
    |true=>rfl
    |false=>exact absurd (al b hi bj) D
  have av:∀(b:Nat) (j:Oper),b<m→l[b]?=some j→dP X.T fz j ≠ .pure→v[b]?=some true:=λb j hi s i=>by
   apply rI;intro D;obtain⟨c,t,o,I,_⟩:=tr.idle hi (K b hi D);rw[s]at o;injection o with o;subst o;exact i I
  have x:∀(d:Nat) (c:Oper),(l.take m)[d]?=some c→d<m∧l[d]?=some c:=λd c f=>by
   rw[eY]at f;split at f
   ·rename_i bk;exact⟨bk,f⟩
   ·cases f
  have ak:∀(d:Nat) (c:Oper),(l.take m)[d]?=some c→dP X.T fz c = .fa→v[d]?=some true:=λd c f i=>av d c (x d c f).1 (x d c f).2 (by rw[i];intro p;cases p)
  have bp:om X.T fz g.draw g' y (l.take m):=⟨λd c t f i B=>k.xR d c t (ak d c f i) (x d c f).2 i B,λd L c F t M f E i aq a9 ba D=>k.Bd d L c F t M (ak d c f i) (ak L F E aq) (x d c f).2 (x L F E).2 i aq a9 ba D⟩
  have bf:Inv g' (hp m):=by
   have ac:(((List.range m).filter (dD X.T fz l)).filter λb=>v.getD b false)=(List.range m).filter (dD X.T fz l):=by
    rw[pR];intro b0 bv;obtain⟨z,q⟩:=fo.1 bv;simp at z;obtain⟨j,s⟩:=tr.get z;rw[dS,av b0 j z s (λi=>by unfold dD gn at q;rw[s]at q;simp only[i]at q;cases q)];rfl
   have:=k.inv;rw[ac,tr.qK m (aS _)]at this;exact this
  obtain⟨ac,z,a3,bh,bw,bb,be,ai,bm,ar⟩:=yj H (l.take m) (en m) (hp m) g' _ i k.ext bf (k.sat tr) bp;rw[← bw];have b3:=A2 (λb=>v.getD b false) m;have b4:=k.lz;have b2:=tr.Ml;refine K6 tr H ae (af.ext C) (e0:=e) (r:=r) (λe' h' ay a2 an br bg bi bt=>?_) a1 m ac z v y a3 (aS _) tr.mM bh (λt w=>?_) ⟨ai.size,ai.defers,k.ik,k.cl,λb q G=>?_,λb q G=>by omega,K,bb,be,ai.get,λax c t ab u ad o w a8=>bm _ _ (k.ru tr u o (λaj bx M ap bq ag bu=>?_) t ab w a8),λax c t u ad o au=>?_⟩ (by omega)
  ·refine tE H ae (l.drop (dQ l)) e' h' N bt a2 ay bg ((af.ext C).ext an) br λa0 q a4 az aw G a5 a6 a7=>bn a0 q a4 az aw (λt w=>?_) ((C.trans an).trans a5) a6 a7
   rw[G t (λp=>w ?_),bi t w];unfold eO at p ⊢;rw[ja]at p ⊢;obtain⟨c,bo,n⟩:=p;exact⟨c,j8 bo,n⟩
  ·rw[ar t λj s _ p=>w (by unfold eO;rw[ja];exact⟨j,gV s,p⟩)];rw[tr.aX (t:=t) 0 m (il _) (aS _) λd c aw L f ag=>w (by unfold eO;rw[ja];exact⟨c,eB f,ag⟩),tr.e0]
  ·obtain⟨aa,am⟩:∃aa,v[b]?=some aa:=⟨_,ln (by rw[k.ik];exact G)⟩
   cases aa with
   |false=>exact am
   |true=>have:=k.main b am;omega
  ·obtain⟨F,bz,n,_,_,bd⟩:=tr.idle u (K ax u ad);rw[o]at n;injection n with n;subst n;exact al aj ap (bd M bu aj bx ap bq ag)
  ·rw[ar t λj s i p=>?_]
   ·exact tr.val u o au u (aS _)
   ·obtain⟨d,f⟩:=mZ s;obtain⟨b7,E⟩:=x d j f;have:=tr.mc E o p au;subst this;obtain⟨F,bz,n,I,_⟩:=tr.idle u (K _ u ad);rw[E]at n;injection n with n;subst n;rw[i]at I;cases I
end
def cv:Ex→Exit
 |.aO =>.normal
 |.ext i =>.exit i
 |.ret =>.ret
def lv(b:List Nat)(c:Code)(e e':DE):Prop:=∀a,a∈b→a∉eP c→bK e' a=bK e a
def fI:Nat→iT
 |0,_,_,_=>none
 | n+1,a,ds,h=>(a ds h).bind λr=>match r.1 with
  |.aO=>fI n a r.2.1 r.2.2
  |x=>some (x,r.2.1,r.2.2)
def oj(e:iT):Prop:=∀a b c d,e a b c=some d→∃f,fI f a b c=some d
theorem tc{e:DE}:∀{b:List Nat} {t:Nat} {d:D},bK (mH e b) t=some d→t∈b∧bK e t=some d
 |[],t,d,h=>by cases h
 | u::r,t,d,h=>by
  simp only[mH]at h;split at h
  ·rename_i x f;rw[ib]at h;split at h
   ·rename_i c;subst c;injection h with h;subst h;exact⟨gO ..,f⟩
   ·obtain⟨a,h2⟩:=tc h;exact⟨fG _ a,h2⟩
  ·obtain⟨a,h2⟩:=tc h;exact⟨fG _ a,h2⟩
theorem tf{e:DE}:∀{f:List Nat} {t:Nat},t∈f→bK (mH e f) t=bK e t
 |[],t,h=>by cases h
 | u::r,t,h=>by
  simp only[mH];by_cases b:u=t
  ·subst b;split
   ·rename_i x c;rw[ib,bE rfl,c]
   ·rename_i c;by_cases a:u∈r
    ·exact tf a
    ·rw[c];cases g:bK (mH e r) u with
     |none=>rfl
     |some d=>exact absurd (tc g).1 a
  ·have a:t∈r:=by
     rcases eI.1 h with h|h
     ·exact absurd h.symm b
     ·exact h
   split
   ·rw[ib,bV b];exact tf a
   ·exact tf a
theorem CZ{e' c:DE}:∀{b:List Nat} {t:Nat} {d:D},bK (gw b (ie e' b) c) t=some d→(t∈b∧(bK e' t=some d∨d = .any))∨bK c t=some d
 |[],t,d,h =>.inr h
 | u::r,t,d,h=>by
  simp only[ie,gw,qJ,rz]at h;rw[ib]at h;split at h
  ·rename_i f;subst f;injection h with h;refine .inl ⟨gO ..,?_⟩;cases e:bK e' u with
   |none=>rw[e]at h;exact .inr h.symm
   |some x=>rw[e]at h;exact .inl (by rw[← h])
  ·rcases CZ h with⟨a,h2⟩|a
   ·exact .inl ⟨fG _ a,h2⟩
   ·exact .inr a
theorem C0:∀{b:List Nat} {ds:List D} {a:DE} {t:Nat},t∉b→bK (gw b ds a) t=bK a t
 |[],_,_,_,_=>rfl
 | u::r,ds,a,t,h=>by
  simp only[gw];rw[eI,not_or]at h;rw[ib,bV (λc=>h.1 c.symm)];exact C0 h.2
theorem My{a:List Nat}{c:Code}{t:Nat}:t∈gu a c↔t∈a∧t∈eP c:=by
 unfold gu;rw[fo,lM]
theorem Df{b:List Nat}{c:Code}{t:Nat}:t∈b.filter (λt => !(jM t (eP c)))↔t∈b∧t∉eP c:=by
 rw[fo];cases a:jM t (eP c)with
 |true=>simp[lM.1 a]
 | false =>
  have:t∉eP c:=λd=>by rw[lM.2 d]at a;cases a
  simp[this]
theorem kZ{k:Nat}{f:List Nat}{c:Code}{e e':DE}{g:Gh}{a:Act}(p:lv f c e e')(d:eG k g e' a):eG k g (gw (gu f c) (ie e' (gu f c)) (kz f c e)) a:=
 ⟨d.size,d.defers,λh i o=>by
  rcases CZ o with⟨j,b⟩|j
  ·rcases b with b|rfl
   ·exact d.get h i b
   ·exact .any _
  ·obtain⟨b,l⟩:=tc j;obtain⟨m,n⟩:=Df.1 b;exact d.get h i (by rw[p h m n];exact l)⟩
theorem mn{a:List Nat}{c:Code}{e:DE}{ds:List D}:lv a c e (gw (gu a c) ds (kz a c e)):=λg d b=>by
 rw[C0 (λf=>b (My.1 f).2)];exact tf (Df.2 ⟨d,b⟩)
section
variable {P:Program} {X:Cx}
theorem vd{R:Type}{d:D}{x y:Option R}{r:R}(h:aK d x y=some r):∃b,d = .bool b∧(if b then x else y)=some r:=by
 unfold aK at h;split at h
 ·exact⟨true,rfl,h⟩
 ·exact⟨false,rfl,h⟩
 ·cases h
theorem vm{l:List Oper}{id:Nat}{a:Bool}:eP (.region id l.toArray a)=eO l:=by simp[eP,eO]
theorem AP (a0:cC P X.T) (bc:P.follows .mixedOrders=true) {am:cE} (a1:fV P X am) {loop:iT} (bb:oj loop) {v:mP}:∀(c:Code) (e:DE) (h:Z) (R:Type) (s:Ex→DE→Z→Option R) (r:R),cK X am loop v c e h R s=some r →
  ∀(Q:Exit→Act→World→Prop) (g:Gh) (a:Act),Inv g h→eR g X.gl→eG v.nt g e a→(∀x e' h' g' L,s x e' h'=some r→lv v.aX c e e'→aT g g'→Inv g' h'→eG v.nt g' e' L→Q (cv x) L g'.w)→c.wp P Q a g.w:=by
 intro c
 induction c with
 |skip=>intro e h R s r b Q g a n q m k;exact wp_skip (k .aO e h g a b (λ_ _ _=>rfl) (aT.refl g) n m)
 |label ax=>intro e h R s r b Q g a n q m k;exact wp_label (k .aO e h g a b (λ_ _ _=>rfl) (aT.refl g) n m)
 |ret=>intro e h R s r b Q g a n q m k;exact wp_ret (k .ret e h g a b (λ_ _ _=>rfl) (aT.refl g) n m)
 |exit G=>intro e h R s r b Q g a n q m k;exact wp_exit (k (.ext G) e h g a b (λ_ _ _=>rfl) (aT.refl g) n m)
 |goto ax=>intro e h R s r b;simp[cK]at b
 |scope y ag=>intro e h R s r b;simp[cK]at b
 |refuse a4=>intro e h R s r b;simp[cK]at b
 |rangeFunc bo br bn y bp bq=>intro e h R s r b;simp[cK]at b
 | region id bl a5 =>
  intro e h R s r b Q g a n q m k;obtain⟨ax⟩:=bl;simp only[cK]at b;cases a5 with
  | false =>
   refine wp_region_lit (tE a0 a1 ax e h (s .aO) b g a n q m λe' h' g' L d l ap aq ar=>?_);exact k .aO e' h' g' L d (λf _ C=>l f (by rw[vm]at C;exact C)) ap aq ar
  | true =>
   exact Ha a0 bc a1 b n q m λe' h' g' L d l ap aq ar=>k .aO e' h' g' L d (λf _ C=>l f (by rw[vm]at C;exact C)) ap aq ar
 | seq x N aj ak =>
  intro e h R s r b Q g a n q m k;simp only[cK]at b;refine wp_seq (aj e h R _ r b _ g a n q m λa6 o d j i av bg E t u=>?_);have aw:∀f,f∈v.aX→f∉eP (.seq x N)→bK o f=bK e f:=λf d l=>bg f d (λF=>l (by simp[eP,F]))
  cases a6 with
  | aO =>
   refine ak o d R s r av Q j i t (q.ext E) u λay ao l ab ah ba ae a9 ac af=>k ay ao l ab ah ba (λf d l=>?_) (E.trans a9) ac af
   rw[ae f d (λF=>l (by simp[eP,F])),aw f d l]
  |ext G=>exact k (.ext G) o d j i av aw E t u
  |ret=>exact k .ret o d j i av aw E t u
 | cond H x N aj ak =>
  intro e h R s r b Q g a n q m k;simp only[cK]at b;split at b
  ·cases b
  rename_i an a8;have ai:aB g (a.eval H) an:=qn q (λf an _ C=>m.get f an C) a8;split at b
  ·
   obtain⟨K,ad,b⟩:=gG.1 b;obtain⟨y,rfl,I⟩:=vd ad;have D:a.eval H = .bool y:=by
    generalize bh:a.eval H=bm at ai;cases ai;rfl
   have a3:∀(az:Code) (z:Ex) (o:DE) (d:Z) (j:Gh) (i:Act),(∀f,f∈eP az→f∈eP (.cond H x N))→some (z,ie o (gu v.aX (.cond H x N)),d)=some K→lv v.aX az e o→aT g j→Inv j d→eG v.nt j o i→Q (cv z) i j.w:=λaz z o d j i bi p A w t u=>by
    injection p with p;subst p;have bf:lv v.aX (.cond H x N) e o:=λf d l=>A f d (λF=>l (bi f F))
    exact k z _ d j i b mn w t (kZ bf u)
   cases y with
   |true=>exact wp_cond_true D (aj e h bT _ K I Q g a n q m λz o d j i p A w t u=>a3 x z o d j i (λf C=>by simp[eP,C]) p A w t u)
   |false=>exact wp_cond_false D (ak e h bT _ K I Q g a n q m λz o d j i p A w t u=>a3 N z o d j i (λf C=>by simp[eP,C]) p A w t u)
  ·obtain⟨y,rfl,I⟩:=vd b;have D:a.eval H = .bool y:=by
    generalize bh:a.eval H=bm at ai;cases ai;rfl
   cases y with
   |true=>exact wp_cond_true D (aj e h R s r I Q g a n q m λz o d j i p A w t u=>k z o d j i p (λf d l=>A f d (λF=>l (by simp[eP,F]))) w t u)
   |false=>exact wp_cond_false D (ak e h R s r I Q g a n q m λz o d j i p A w t u=>k z o d j i p (λf d l=>A f d (λF=>l (by simp[eP,F]))) w t u)
 | block id y ag =>
  intro e h R s r b Q g a n q m k;simp only[cK]at b;have a2:∀(x:Ex) (i:Act) (al:World),Q (cv (bJ id x)) i al→Exit.inBlock id Q (cv x) i al:=λx i al D=>by
   cases x with
   |aO=>exact D
   |ret=>exact D
   | ext G =>
    simp only[cv,Exit.inBlock];by_cases au:G=id
    ·subst au;rw[bE rfl];simpa[bJ,cv]using D
    ·rw[bV au];have:Nat.beq G id=false:=by
      cases I:Nat.beq G id with
      |false=>rfl
      |true=>exact absurd (gF I) au
     simpa[bJ,this,cv]using D
  split at b
  ·obtain⟨K,ad,b⟩:=gG.1 b;refine wp_block (ag e h bT _ K ad _ g a n q m λz o d j i p A w t u=>a2 _ _ _ ?_);injection p with p;subst p;exact k (bJ id z) _ d j i b mn w t (kZ A u)
  ·exact wp_block (ag e h R _ r b _ g a n q m λz o d j i p A w t u=>a2 _ _ _ (k (bJ id z) o d j i p A w t u))
 | loop y ag =>
  intro e h R s r b Q g a n q m k;simp only[cK]at b;obtain⟨K,ad,b⟩:=gG.1 b;obtain⟨bj,bd⟩:=bb _ _ _ _ ad;refine wp_loop_ghost (λM a a4=>∃aa h' g',a4=g'.w∧aT g g'∧Inv g' h'∧eG v.nt g' (gw (gu v.aX y) aa (kz v.aX y e)) a∧fI M (λaa h'=>cK X am loop v y (gw (gu v.aX y) aa (kz v.aX y e)) h' bT λx e' a7=>some (x,ie e' (gu v.aX y),a7)) aa h'=some K) bj
   ⟨_,h,g,rfl,aT.refl g,n,kZ (e':=e) (λ_ _ _=>rfl) m,bd⟩ ?_
  rintro M i al ⟨aa,d,j,rfl,E,t,u,B⟩;cases M with
  |zero=>cases B
  | succ M =>
   simp only[fI]at B;obtain⟨bk,be,B⟩:=gG.1 B;refine ag _ d bT _ bk be _ j i t (q.ext E) u λay ao l ab ah p A w ac af=>?_
   injection p with p;subst p;simp only at B;have ae:lv v.aX y e ao:=λf d l=>by
    rw[A f d l];exact mn f d l
   cases ay with
   |aO=>exact⟨M,uN M,_,l,ab,rfl,E.trans w,ac,kZ ae af,B⟩
   | ext G =>
    injection B with B;subst B;exact k (.ext G) _ l ab ah b mn (E.trans w) ac (kZ ae af)
   | ret =>
    injection B with B;subst B;exact k .ret _ l ab ah b mn (E.trans w) ac (kZ ae af)
end
inductive Ok (n:Nat):D→Prop
 |any:Ok n .any
 |bG:Ok n .bG
 |bool (b):Ok n (.bool b)
 |int (k i):Ok n (.int k i)
 |str (s):Ok n (.str s)
 |gb:Ok n .gb
 |ptr (o i off) (h:o<n):Ok n (.ptr o i off)
 |aD (cs) (h:∀d∈cs,Ok n d):Ok n (.aD cs)
 |J:Ok n .J
 |sl (V full rows) (h:∀row∈rows,∀d∈row,Ok n d):Ok n (.sl V full rows)
 |S (V o r k) (h:o<n):Ok n (.S V o r k)
 |ic:Ok n .ic
 |fn (f a b) (ha:∀d∈a,Ok n d) (hb:∀d∈b,Ok n d):Ok n (.fn f a b)
 |iY:Ok n .iY
 |iface (t d) (h:Ok n d):Ok n (.iface t d)
 |agg (cs) (h:∀d∈cs,Ok n d):Ok n (.agg cs)
 |bN (ds) (h:∀d∈ds,Ok n d):Ok n (.bN ds)
 |raw (v):Ok n (.raw v)
theorem nI{a:Type}{l:List a}{x:a}(h:x∈l):∃i:Nat,l[i]?=some x:=mZ h
theorem aB.MQ{g:Gh}{v:Value}{d:D}(h:aB g v d):Ok g.ms.length d:=by
 induction h with
 |any v=>exact .any
 |bG=>exact .bG
 |bool m=>exact .bool m
 |int C l=>exact .int C l
 |str G=>exact .str G
 |gb=>exact .gb
 |ptr q p ad E j=>exact .ptr _ _ _ (aZ.1 j).1
 | aD m q s f u o n k e =>
  refine .aD _ λd c=>?_
  obtain⟨b,a⟩:=nI c;exact e b d a
 |J=>exact .J
 | sl K l r ai P ah y aa t R ac ab Q f o n k e =>
  refine .sl _ _ _ λF z d c=>?_
  obtain⟨p,w⟩:=nI z;obtain⟨b,a⟩:=nI c;exact e p F w b d a
 |S q ae l r E j y X T t=>exact .S _ _ _ _ (aZ.1 j).1
 |ic=>exact .ic
 | fn N first L I H u o ag af B A =>
  refine .fn _ _ _ (λd c=>?_) (λd c=>?_)
  ·obtain⟨b,a⟩:=nI c;have i:=(aZ.1 a).1;exact B b _ d (cA (show b<I.length by omega)) a
  ·obtain⟨b,a⟩:=nI c;have i:=(aZ.1 a).1;exact A b _ d (cA (show b<H.length by omega)) a
 |iY=>exact .iY
 |iface aj v d h e=>exact .iface _ _ e
 | agg f s x n k e =>
  refine .agg _ λd c=>?_
  obtain⟨b,a⟩:=nI c;have i:=(aZ.1 a).1;exact e b _ d (cA (show b<f.length by omega)) a
 | bN f M x k e =>
  refine .bN _ λd c=>?_
  obtain⟨b,a⟩:=nI c;have i:=(aZ.1 a).1;exact e b _ d (cA (show b<f.length by omega)) a
 |raw v=>exact .raw _
theorem aB.cut{g g':Gh}(F:g'.w=g.w){n:Nat}(I:∀(o:Nat) (m:Me),o<n→g.ms[o]?=some m→g'.ms[o]?=some m)(T:∀b,g'.L b→g.L b){v:Value}{d:D}(h:aB g v d)(a:Ok n d):aB g' v d:=by
 have H:∀b,g.fz b→g'.fz b:=λb r=>⟨by rw[F];exact r.1,λab=>r.2 (T b ab)⟩
 induction h with
 |any v=>exact .any v
 |bG=>exact .bG
 |bool b=>exact .bool b
 |int aj n=>exact .int aj n
 |str an=>exact .str an
 |gb=>exact .gb
 | ptr o q ak m C =>
  cases a with
  |ptr _ _ _ B=>exact .ptr o q ak m (I o m B C)
 | aD b o x k z l e E j =>
  cases a with
  |aD _ a=>exact .aD b o x k (λp=>H _ (z p)) (λc d i=>by rw[F];exact l c d i) e (λc d i=>j c d i (a d (eB i)))
 |J=>exact .J
 | sl M n u ao R am p ae y aa ag af G k l e E j =>
  cases a with
  |sl _ _ _ a=>exact .sl M n u ao R am p ae y aa ag af (λK=>⟨(G K).1,H _ (G K).2⟩) k (λq t s c d i=>by rw[F];exact l q t s c d i) e (λq t s c d i=>j q t s c d i (a t (eB s) d (eB i)))
 | S o al n u m C p ad ac y =>
  cases a with
  |S _ _ _ _ B=>exact .S o al n u m (I o m B C) p ad ac y
 |ic=>exact .ic
 | fn Q first N ar aq z l av au ai ah =>
  cases a with
  |fn _ _ _ X r=>exact .fn Q first N ar aq z l (λc v d e f=>ai c v d e f (X d (eB f))) (λc v d e f=>ah c v d e f (r d (eB f)))
 |iY=>exact .iY
 | iface ap v d h j =>
  cases a with
  |iface _ _ a=>exact .iface ap v d (j a)
 | agg k x A e E j =>
  cases a with
  |agg _ a=>exact .agg k x A e (λc v d e f=>j c v d e f (a d (eB f)))
 | bN k P A E j =>
  cases a with
  |bN _ a=>exact .bN k P A (λc v d e f=>j c v d e f (a d (eB f)))
 |raw v=>exact .raw _
section
variable {P:Program} {X:Cx}
def Fv(a h2:Z)(d:D):Prop:=Ok a.length d∧∀(b e f:Nat) (c:List (List D)),b<a.length→h2[b]?=some (.row e f c)→a[b]?=some (.row e f c)∨∀g∈c,∀d∈g,Ok a.length d
noncomputable def scope(a h2:Z)(d:D):Option (D × Z):=eL (Fv a h2 (bP a.length h2 4 d)) (some (bP a.length h2 4 d,h2.take a.length))
theorem Eb{l c:Gh}{i h2 h':Z}{v:Value}{d d':D}(x:Inv l i)(k:aT l c)(s:Inv c h2)(ah:aB c v d)(t:scope i h2 d=some (d',h')):∃g',g'.w=c.w∧aT l g'∧Inv g' h'∧aB g' v d':=by
 unfold scope eL at t;split at t
 case isFalse=>cases t
 rename_i M;injection t with t;injection t with z A;subst z;subst A;have av:l.ms.length≤c.ms.length:=by
  rcases rY l.ms.length with ax|aw
  ·omega
  ·have o:l.ms.length - 1<l.ms.length:=by omega
   have:=k.ms _ _ (cA o);have:=(aZ.1 this).1;omega
 have au:∀(a:Nat) (b:Me),a<i.length→c.ms[a]?=some b→l.ms[a]?=some b:=λa b h e=>by
  have o:a<l.ms.length:=by rw[x.len];exact h
  have N:=cA o;have:=k.ms _ _ N;rw[e]at this;rw[N,← this]
 let K:Nat→Prop:=λf=>c.L f∧((∃(a:Nat) (b:Me),a<i.length∧c.ms[a]?=some b∧b.b=f∧∃p r q,h2[a]?=some (.row p r q))∨∀(a:Nat) (b:Me),c.ms[a]?=some b→b.b≠f)
 let g1:Gh:=⟨c.w,c.ms,K⟩
 let g':Gh:=⟨c.w,c.ms.take i.length,K⟩
 have ai:aB g1 v (bP i.length h2 4 d):=vW (g:=c) (g1:=g1) (n0:=i.length) s rfl rfl (λf j=>j) 4 v d ah;have u:∀(a:Nat) (b:Me),a<i.length→g1.ms[a]?=some b→g'.ms[a]?=some b:=λa b h e=>by
  show(c.ms.take i.length)[a]?=some b;rw[eY,bE h];exact e
 have ab:∀{v d},aB c v d→Ok i.length d→aB g' v d:=λ{v d} ak ae=>aB.cut (g:=c) (g':=g') rfl (n:=i.length) (λa b h e=>u a b h e) (λf j=>j.1) ak ae
 have y:∀{a:Nat} {b:Me},g'.ms[a]?=some b→c.ms[a]?=some b:=λ{a b} e=>by
  have:(c.ms.take i.length)[a]?=some b:=e;rw[eY]at this;split at this
  ·exact this
  ·cases this
 have ac:aT l g':=⟨⟨k.os,k.tape,k.output,k.size,λa b e=>u a b (by rw[← x.len];exact(aZ.1 e).1) (k.ms a b e),λf j=>⟨⟨(k.fz f j).1.1,λad=>(k.fz f j).1.2 ad.1⟩,(k.fz f j).2⟩⟩,
  λf j=>⟨⟨(k.lim f j).1.1,⟨(k.lim f j).1.2.1,.inr (k.lim f j).1.2.2⟩,λa b e=>(k.lim f j).1.2.2 a b (y e)⟩,(k.lim f j).2⟩⟩
 have F:∀{a:Nat} {H:Ob},(h2.take i.length)[a]?=some H→a<i.length∧h2[a]?=some H:=λ{a H} h=>by
  rw[eY]at h;split at h
  ·rename_i o;exact⟨o,h⟩
  ·cases h
 refine⟨g',rfl,ac,⟨?_,λa p r q h=>?_,λa an p r R ap q ao b am z A X B C=>?_,λf j=>?_,λa b e=>s.msb a b (y e)⟩,aB.cut (g:=g1) (g':=g') rfl (n:=i.length) (λa b h e=>u a b h e) (λf j=>j) ai M.1⟩
 ·show(c.ms.take i.length).length=(h2.take i.length).length;simp[s.len]
 ·obtain⟨o,h⟩:=F h;obtain⟨b,T,e,m⟩:=s.live a p r q h;refine⟨b,T,u a b o e,m.fy,m.fR,m.pos,⟨m.hL,.inl ⟨a,b,o,e,rfl,p,r,q,h⟩⟩,m.len,m.le,m.room,m.row,λP I G Q d E=>?_⟩;obtain⟨v,B,C,aa⟩:=m.cell P I G Q d E;refine⟨v,B,C,ab aa ?_⟩;rcases M.2 a p r q o h with aj|ag
  ·obtain⟨ay,aq,ar,af⟩:=x.live a p r q aj;obtain⟨az,_,_,al⟩:=af.cell P I G Q d E;have:=al.MQ
   rwa [x.len]at this
  ·exact ag I (eB G) d (eB E)
 ·exact s.inj a an p r R ap q ao b am (F z).2 (F A).2 (y X) (y B) C
 ·exact s.L f j.1
structure fc where
 body:Code
 res:List ResultVar
 A:mP
 sc:Bool
def iw(X:Cx)(h:Z)(e:DE):List ResultVar→Option (List D)
 |[]=>some []
 |.tmp t::r=>(bK e t).bind λd=>(iw X h e r).bind λds=>some (d::ds)
 |.cell t ty::r=>(bK e t).bind λp=>(aA X.T h ty p).bind λd=>(iw X h e r).bind λds=>some (d::ds)
def aE:List D→D
 |[d]=>d
 |ds =>.bN ds
noncomputable def kl(X:Cx)(c:cE)(e:iT)(fi:fc)(args:List D)(h:Z):Option (D × Z):=
 (match Nat.ble args.length fi.A.nt with
 |true=>cK X c e fi.A fi.body (gw (List.range args.length) args []) h (D × Z) λf d a=>cZ f ((iw X a d fi.res).bind λb=>match fi.sc with
   |true=>scope h a (aE b)
   |false=>some (aE b,a))
 |false=>none)
structure bM (P:Program) (f:FuncId) (fi:fc):Prop where
 body:∃fn,P.funcs[f]?=some fn∧fn.body=some fi.body∧fn.ntmps=fi.A.nt∧fn.results.toList=fi.res
 enter:∀(as0:Array Value) (w:World),(callFunc f as0).run P w = .ok (.enter f as0) w
theorem xX(n:cC P X.T){g:Gh}{h:Z}(hi:Inv g h){C:Nat}{e:DE}{a:Act}(j:eG C g e a):∀(v:List ResultVar) (ds:List D),iw X h e v=some ds→∃vs,(v.mapM (tB a.tmps)).run P g.w = .ok vs g.w∧aW g vs ds
 | [],ds,b=>by
  simp only[iw,jT]at b;subst b;exact⟨[],by simp,.nil⟩
 | .tmp t::r,ds,b=>by
  simp only[iw]at b;obtain⟨d,l,b⟩:=gG.1 b;obtain⟨k,m,b⟩:=gG.1 b;injection b with b;subst b;obtain⟨vs,o,p⟩:=xX n hi j r k m;have f:=j.get t d l;exact⟨a.tmps.getD t undef::vs,by simp[tB,o],.cons f p⟩
 | .cell t F::r,ds,b=>by
  simp only[iw]at b;obtain⟨E,l,b⟩:=gG.1 b;obtain⟨d,c,b⟩:=gG.1 b;obtain⟨k,m,b⟩:=gG.1 b;injection b with b;subst b;obtain⟨vs,o,p⟩:=xX n hi j r k m;have f:=j.get t E l;obtain⟨x,s,A⟩:=Ba n hi f c;have z:∃i,a.tmps.getD t undef = .pointer (some i):=by
   unfold aA at c;split at c
   ·split at c
    ·obtain⟨G,H,vs,u,_⟩:=f.sU;exact⟨_,u⟩
    ·generalize u:a.tmps.getD t undef=I at f;cases f;exact⟨_,rfl⟩
    ·cases c
   ·cases c
  obtain⟨i,q⟩:=z;rw[q]at s;have B:(loadVar F i).run P g.w = .ok x g.w:=by simpa[Instr.loadAt,Instr.sureAddr]using s
  have y:a.tmps[t]?.getD undef = .pointer (some i):=by rw[← q,dS]
  exact⟨x::vs,by simp[tB,y,asAddr,B,o],.cons A p⟩
theorem xY(o:cC P X.T){g:Gh}{h:Z}(hi:Inv g h){r:Nat}{e:DE}{a:Act}(q:eG r g e a){b:Func}{ds:List D}(p:iw X h e b.results.toList=some ds):∃v,(results b a.tmps).run P g.w = .ok v g.w∧aB g v (aE ds):=by
 obtain⟨f,j,k⟩:=xX o hi q _ _ p;obtain⟨d,l⟩:∃d,b.results.toList=d:=⟨_,rfl⟩
 have n:b.results=d.toArray:=by rw[← l]
 rw[l]at j;refine⟨if s:f.toArray.size=1 then f.toArray[0]else .tuple f.toArray,?_,?_⟩
 ·rw[Nk,n,List.mapM_toArray];simp only[fg,Sem.run_map,j,fp,gZ]
 ·have t:=k.length;cases k with
  | nil =>
   rw[dif_neg (by simp)];exact .tj .nil
  | cons i c =>
   cases c with
   |nil=>simpa[aE]using i
   | cons m c =>
    rw[dif_neg (by simp)];exact .tj (.cons i (.cons m c))
theorem JJ (q:cC P X.T) (ag:P.follows .mixedOrders=true) {A:cE} (Q:fV P X A) {L:iT} (af:oj L) {f:FuncId} {fi:fc} (aa:bM P f fi) {args:List D} {h h':Z} {d:D} (n:kl X A L fi args h=some (d,h'))
  {g:Gh} {vs:List Value} (hi:Inv g h) (ac:eR g X.gl) (I:aW g vs args):kD P f vs.toArray g.w λv w'=>∃g',g'.w=w'∧aT g g'∧Inv g' h'∧aB g' v d:=by
 obtain⟨C,ab,N,ah,K⟩:=aa.body;unfold kl at n;split at n
 case h_2=>cases n
 rename_i H;have H:=dL H;have av:=I.length;refine calls_of_wp ab N (AP q ag Q af fi.body _ h _ _ (d,h') n _ g _ hi ac ⟨by simp[ah];omega,rfl,λx l al=>?_⟩ λl i b m z r au E o t=>?_)
 ·
  have an:∀(k:List Nat) (a:List D),k.length=a.length→bK (gw k a []) x=some l→∃c:Nat,k[c]?=some x∧a[c]?=some l:=by
   intro k
   induction k with
   |nil=>intro a _ h;cases h
   | cons y aw am =>
    intro a G h;cases a with
    |nil=>cases G
    | cons d a =>
     simp only[gw,qJ,rz]at h;rw[ib]at h;split at h
     ·rename_i aj;injection h with h;exact⟨0,by simp[aj],by simp[h]⟩
     ·obtain⟨c,p,b⟩:=am a (by simpa using G) h;exact⟨c+1,by simpa using p,by simpa using b⟩
  obtain⟨c,p,b⟩:=an _ _ (by simp) al;have ae:c=x:=by
   have:=(aZ.1 p).2;simpa using this
  subst ae;have ar:=(aZ.1 b).1;have F:vs[c]?=some (vs[c]'(by omega)):=cA (by omega);have:(vs.toArray++Array.replicate (C.ntmps - vs.toArray.size) undef).getD c undef=vs[c]'(by omega):=by
   rw[dS,ua (by simp;omega)];simp[F]
  rw[this];exact I.get c _ l F b
 ·have B:(match fi.sc with|true=>(iw X b i fi.res).bind λa=>scope h b (aE a)|false=>(iw X b i fi.res).bind λa=>some (aE a,b))=some (d,h')→z.defers=[]∧∃v,(results C z.tmps).run P m.w = .ok v m.w∧∃y,Ending.returned v = .returned y∧∃g',g'.w=m.w∧aT g g'∧Inv g' h'∧aB g' y d:=λe=>by
    refine⟨t.defers,?_⟩;split at e
    ·obtain⟨a,j,e⟩:=gG.1 e;rw[← K]at j;obtain⟨v,u,s⟩:=xY q o t j;obtain⟨g',ak,R,ad,ai⟩:=Eb hi E o s e;exact⟨v,u,v,rfl,g',ak,R,ad,ai⟩
    ·obtain⟨a,j,e⟩:=gG.1 e;rw[← K]at j;obtain⟨v,u,s⟩:=xY q o t j;injection e with e;injection e with ao ap;subst ao;subst ap;exact⟨v,u,v,rfl,m,rfl,E,o,s⟩
  have M:(match fi.sc with|true=>(iw X b i fi.res).bind λa=>scope h b (aE a)|false=>(iw X b i fi.res).bind λa=>some (aE a,b))=(iw X b i fi.res).bind λa=>match fi.sc with|true=>scope h b (aE a)|false=>some (aE a,b):=by
   cases fi.sc<;>rfl
  cases l with
  |ext c=>cases r
  |aO=>exact B (by rw[M];exact r)
  |ret=>exact B (by rw[M];exact r)
end
end Go.Pi

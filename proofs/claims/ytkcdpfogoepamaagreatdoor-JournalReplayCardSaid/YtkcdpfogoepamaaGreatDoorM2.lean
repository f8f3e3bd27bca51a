/- Part 2 of the texts that the theorem needs: an interpreter on data, proved sound; the functions on data; laws about them. -/
import Derived.Test.YtkcdpfogoepamaaGreatDoorM1
set_option linter.unusedSimpArgs false
set_option linter.unusedVariables false
set_option linter.unnecessarySimpa false
namespace Go.Eng
abbrev jK:=@Nat.ble_eq_true_of_le
abbrev oe:=@List.filter_append
abbrev sy:=@List.range_succ
abbrev BO:=@List.filter_congr
abbrev BP:=@List.filter_eq_self
abbrev B5:=@Nat.le_of_lt
abbrev B7:=@Nat.sub_self
abbrev LI:=@Nat.lt_succ_self
end Go.Eng
namespace Go.Pi
open Go.Eng
theorem NZ(p:Nat→Bool):∀(m i:Nat),i<m→p i=true→((List.range m).filter p)[((List.range i).filter p).length]?=some i
 |0,i,h,_=>by omega
 | m+1,i,h,hp=>by
  rw[sy,oe];rcases gG i m with a|b
  ·have:=NZ p m i a hp;rw[fg (bR.1 this).1];exact this
  ·have:i=m:=by omega
   subst this;rw[gO (bB _),B7];simp[hp]
theorem xX(p:Nat→Bool):∀(m i:Nat),i≤m→(((List.range m).filter p).filter λw=>Nat.blt w i).length=((List.range i).filter p).length
 | 0,i,h=>by
  have:i=0:=by omega
  subst this;rfl
 | m+1,i,h=>by
  rw[sy,oe,oe,bF];rcases gG m i with g|e
  ·have:i=m+1:=by omega
   subst this;rw[sy,oe,bF];have d:∀(a:Nat),a≤m+1→((List.range a).filter p).filter (λw=>Nat.blt w (m+1))=(List.range a).filter p:=λa j=>by
    rw[BP];intro w b;have:=(kG.1 b).1;simp at this;exact jK (by omega)
   rw[d m (by omega)];congr 1;by_cases c:p m=true
   ·simp[c,Nat.blt]
   ·simp[c]
  ·rw[xX p m i e];have:(([m].filter p).filter λw=>Nat.blt w i)=[]:=by
    rw[xa];intro w b;have:=(kG.1 b).1;simp at this;subst this;intro f;have:=fQ f;omega
   rw[this];rfl
theorem NY{p a:Nat→Bool}(l:List Nat)(h:∀x∈l,p x=true→a x=true):(l.filter p).length≤(l.filter a).length:=by
 induction l with
 |nil=>simp
 | cons x f d =>
  have:=d λe c=>h e (kF _ c)
  rw[oh,oh];by_cases hp:p x=true
  ·have b:=h x (k0 ..) hp;rw[bO hp,bO b];simpa using this
  ·rw[cC hp];split
   ·simp;omega
   ·exact this
section
variable {P:Program} {X:Cx} {R:Type}
theorem My{l:List Oper}{e:DE}{d:List J}:∀{c:List (Nat × Nat)} {x:Option R} {r:R},nD X l e d c x=some r→(∀a∈c,∃o,l[a.1]?=some o∧again X l o e (d.getD a.2 []))∧x=some r
 |[],x,r,h=>⟨by simp,h⟩
 | (i, k)::c,x,r,h=>by
  simp only[nD]at h;split at h
  ·rename_i o j;unfold dY at h;split at h
   ·rename_i g;obtain⟨f,h2⟩:=My h;refine⟨λa b=>?_,h2⟩;rcases fc.1 b with rfl|b
    ·exact⟨o,j,g⟩
    ·exact f a b
   ·cases h
  ·cases h
theorem PQ{call:fb}{fz hV:List Nat}{l:List Oper}{o:Oper}{e:DE}{h h':J}{d:D}(b:jt X.T fz o=false)(a:iY X call fz hV l o e h=some (d,h')):h'=h:=by
 unfold iY at a;unfold jt at b;split at a
 ·cases a
 have f:∀{i:Option D},(i.bind λd=>some (d,h))=some (d,h')→h'=h:=λ{i} j=>by
  obtain⟨k,_,g⟩:=kq.1 j;injection g with g;injection g with _ g;exact g.symm
 split at a
 ·split at a
  ·exact f a
  ·exact f a
  ·rename_i c;rw[c]at b;cases b
  ·rename_i c;rw[c]at b;cases b
  ·exact f a
 ·split at a
  ·cases a
  split at a
  ·cases a
  split at a
  ·exact f a
  ·exact f a
  ·rename_i c;rw[c]at b;cases b
  ·rename_i c;rw[c]at b;cases b
  ·cases a
theorem NB{e e':DE}:∀{xs:List Operand},(∀t,.tmp t∈xs→eI e t=eI e' t)→mg X e xs=mg X e' xs
 |[],_=>rfl
 | x::r,h=>by
  have b:po X e x=po X e' x:=by
   cases x with
   |tmp t=>exact h t (k0 ..)
   |const f=>rfl
   |global d=>rfl
   |func c=>rfl
  simp only[mg,b,NB λt a=>h t (kF _ a)]
theorem a2v{call:fb}{fz hV:List Nat}{l:List Oper}{o:Oper}{e e':DE}{h:J}(b:∀t,t∈looks l o→eI e t=eI e' t):iY X call fz hV l o e h=iY X call fz hV l o e' h:=by
 unfold iY;rw[NB λt a=>b t (List.mem_append_left _ (mc.2 ⟨.tmp t,a,rfl⟩))];cases mg X e' o.op.operands.toList with
 |none=>rfl
 | some i =>
  simp only[];cases c:o.guard with
  |none=>rfl
  | some f =>
   obtain⟨d,g⟩:=f;simp only[];cases a:(l[d]?).bind (·.dst)with
   |none=>rfl
   | some t =>
    simp only[];rw[b t (by unfold looks;rw[c];exact List.mem_append_right _ (by simp[a]))]
theorem PO {call:fb} {fz hV:List Nat} {l:List Oper} {o:Oper} {e:DE} {h h' h2:J} {d:D} (b:jt X.T fz o=false) (a:iY X call fz hV l o e h=some (d,h')) (q:pF X.T fz o=true→again X l o e h2∧∀t,o.dst=some t→eI e t=some d):iY X call fz hV l o e h2=some (d,h2):=by
 unfold iY at a ⊢;have n:∀{u:Option D},(u.bind λd=>some (d,h))=some (d,h')→(u.bind λd=>some (d,h2))=some (d,h2):=λ{u} x=>by
  obtain⟨G,y,j⟩:=kq.1 x;injection j with j;injection j with j _;subst j;rw[y];rfl
 have v:pF X.T fz o=true→∃t,o.dst=some t:=λw=>by
  have:=(q w).1;unfold again at this;split at this
  ·rename_i t _ g;exact⟨t,g⟩
  ·exact this.elim
 cases k:mg X e o.op.operands.toList with
 |none=>rw[k]at a;cases a
 | some E =>
  rw[k]at a;simp only[]at a ⊢;cases m:o.guard with
  | none =>
   rw[m]at a;simp only[]at a ⊢;cases c:gm X.T fz o with
   |pure=>rw[c]at a;exact n a
   | read =>
    have i:pF X.T fz o=true:=by unfold pF;rw[c]
    obtain⟨t,g⟩:=v i;obtain⟨f,p⟩:=q i;unfold again at f;rw[k,g,m]at f;simp only[]at f ⊢;rw[f,p t g];rfl
   |write=>unfold jt at b;rw[c]at b;cases b
   |call=>unfold jt at b;rw[c]at b;cases b
   |h3=>rw[c]at a;exact n a
  | some A =>
   obtain⟨z,C⟩:=A;rw[m]at a;simp only[]at a ⊢;cases r:(l[z]?).bind (·.dst)with
   |none=>rw[r]at a;cases a
   | some B =>
    rw[r]at a;simp only[]at a ⊢;cases s:eI e B with
    |none=>rw[s]at a;cases a
    | some F =>
     rw[s]at a;simp only[]at a ⊢;cases c:gm X.T fz o with
     |pure=>rw[c]at a;exact n a
     | read =>
      have i:pF X.T fz o=true:=by unfold pF;rw[c]
      obtain⟨t,g⟩:=v i;obtain⟨f,p⟩:=q i;unfold again at f;rw[k,g,m]at f;simp only[r,s]at f ⊢;rw[f,p t g];rfl
     |write=>unfold jt at b;rw[c]at b;cases b
     |call=>unfold jt at b;rw[c]at b;cases b
     |h3=>rw[c]at a;cases a
structure Tr (X:Cx) (call:fb) (nt:Nat) (fz hV:List Nat) (l:List Oper) (m:Nat) (e:DE) (h:J) (en:Nat→DE) (hp:Nat→J) (va:Nat→D) (HK:Nat→J):Prop where
 e0:en 0=e
 mM:m≤gv l
 Ml:gv l≤l.length
 rU:qM nt l=true
 tail:H3 (gv l) l=true
 step:∀(i:Nat) (o:Oper),i<m→l[i]?=some o→iY X call fz hV l o (en i) (hp i)=some (va i,hp (i+1))∧(o.dst=none→en (i+1)=en i)∧(∀t,o.dst=some t→t<nt∧en (i+1)=(t,va i)::en i)
 Pr:∀(i j:Nat) (o p:Oper) (t:Nat),i<gv l→j<m→l[i]?=some o→l[j]?=some p→t∈looks l o→p.dst=some t→kg (ks l) i j=true
 Oo:HK 0=h
 ZU:hp 0=h
 ZT:∀(i:Nat) (o:Oper),i<m→l[i]?=some o→jt X.T fz o=true→HK (((List.range i).filter (fE X.T fz l)).length+1)=hp (i+1)
 chain:∀(i j:Nat) (o p:Oper),i<j→j<m→l[i]?=some o→l[j]?=some p→jt X.T fz o=true→jt X.T fz p=true→kg (ks l) j i=true
 win:∀(i k:Nat) (o:Oper),(i,k)∈As X.T fz m l→l[i]?=some o→again X l o (en m) (HK k)
 late:m=gv l∨vO X.T fz m l=true
theorem T6{call:fb}{nt:Nat}{fz hV:List Nat}{m:Nat}{l:List Oper}{e:DE}{h:J}{u:DE→J→Option R}{r:R}(k:oK X call nt fz hV m l e h u=some r):
  ∃en hp va HK,Tr X call nt fz hV l m e h en hp va HK∧(lZ X fz (l.take m) (en m) (hp m) λe h=>jx X call nt fz hV l (l.drop m) e h u)=some r:=by
 unfold oK at k;split at k
 ·cases k
 rename_i q;unfold M0 at q;simp only[gJ]at q;obtain⟨⟨⟨⟨⟨⟨n,j⟩,L⟩,N⟩,I⟩,B⟩,G⟩:=q;have n:=fQ n;have j:=fQ j;have ah:m≤l.length:=fD n j;obtain⟨en,hp,va,ac,ad,ae,z⟩:=QW _ e h [h] _ k;have H:(l.take m).length=m:=by simp;omega
 rw[H]at z;obtain⟨w,F⟩:=My z;have x:∀a,a<m→(l.take m)[a]?=l[a]?:=λa b=>by rw[gw,bO b]
 have A:(List.range m).filter (fE X.T fz (l.take m))=(List.range m).filter (fE X.T fz l):=by
  apply BO;intro a b;simp at b;unfold fE;rw[x a b]
 rw[A]at w;refine⟨en,hp,va,λt=>(h::((List.range m).filter (fE X.T fz l)).map λa=>hp (a+1)).getD t [],⟨ac,n,j,L,N,λa g b c=>ae a g (by rw[x a b];exact c),λa f g ab af b y c s M K=>?_,by simp,ad,λa g b c P=>?_,λa f g ab ag y c s Q aa=>?_,λa t g D c=>?_,by simpa using G⟩,F⟩
 ·have i:=(iL.1 I) a (by simp[b]);rw[c]at i;have o:=(iL.1 i) af M;have p:=(iL.1 o) f (by simp[y]);rw[s]at p;simp only[K]at p;simpa using p
 ·have:=NZ (fE X.T fz l) m a b (by unfold fE;rw[c];exact P);simp only[List.getD_cons_succ];rw[sw,eE,this];rfl
 ·have C:a∈(List.range m).filter (fE X.T fz l):=kG.2 ⟨by simp;omega,by unfold fE;rw[c];exact Q⟩;have E:f∈(List.range m).filter (fE X.T fz l):=kG.2 ⟨by simp;omega,by unfold fE;rw[s];exact aa⟩;have i:=(iL.1 B) f E;have o:=(iL.1 i) a C;have:Nat.blt a f=true:=jK (by omega);simpa[this]using o
 ·obtain⟨ai,d,v⟩:=w (a,t) D;simp only at d v;rw[c]at d;injection d with d;subst d;simpa using v
section tr
variable {call:fb} {nt:Nat} {fz hV:List Nat} {l:List Oper} {m:Nat} {e:DE} {h:J} {en:Nat→DE} {hp:Nat→J} {va:Nat→D} {HK:Nat→J} (tr:Tr X call nt fz hV l m e h en hp va HK)
include tr
theorem Tr.ml:m≤l.length:=fD tr.mM tr.Ml
theorem Tr.look(i j:Nat)(o p:Oper)(t:Nat)(hi:i<m)(b:j<m)(c:l[i]?=some o)(hp:l[j]?=some p)(d:t∈looks l o)(a:p.dst=some t):kg (ks l) i j=true:=tr.Pr i j o p t (nv hi tr.mM) b c hp d a
theorem Tr.get{i:Nat}(hi:i<m):∃o,l[i]?=some o:=⟨_,dG (nv hi tr.ml)⟩
theorem Tr.cL{t:Nat}:∀(i j:Nat),i≤j→j≤m→(∀a o,i≤a→a<j→l[a]?=some o→o.dst≠some t)→eI (en j) t=eI (en i) t
 | i,0,n,p,_=>by
  have:i=0:=by omega
  subst this;rfl
 | i,j+1,n,p,f=>by
  rcases gG j i with r|e
  ·have:i=j+1:=by omega
   subst this;rfl
  ·obtain⟨o,g⟩:=tr.get (i:=j) (by omega);obtain⟨_,b,d⟩:=tr.step j o (by omega) g;have h:=Tr.cL i j e (by omega) λa o b d=>f a o b (by omega)
   cases c:o.dst with
   |none=>rw[b c];exact h
   | some q =>
    rw[(d q c).2,lF,cC]
    ·exact h
    ·intro k;exact f j o e (by omega) g (by rw[c,k])
theorem Tr.qn{i j:Nat}{o p:Oper}{t:Nat}(b:l[i]?=some o)(c:l[j]?=some p)(a:o.dst=some t)(h2:p.dst=some t):i=j:=by
 have:=tr.rU;simp only[qM,gJ]at this;exact MX this.1.1 b c a h2
theorem Tr.val{i:Nat}{o:Oper}{t:Nat}(hi:i<m)(b:l[i]?=some o)(a:o.dst=some t){j:Nat}(c:i<j)(d:j≤m):eI (en j) t=some (va i):=by
 have:=tr.cL (t:=t) (i+1) j c d λn k g h f e=>by
  have:=tr.qn b f a e;omega
 rw[this,((tr.step i o hi b).2.2 t a).2,lF,bO rfl]
theorem Tr.a1M{i:Nat}{o:Oper}(hi:i<m)(a:l[i]?=some o){t:Nat}(e:t∈looks l o):eI (en m) t=eI (en i) t:=
 tr.cL i m (by omega) (bB _) λg f h b d c=>by
  have:=Cq tr.rU a (tr.look i g o f t hi b a d e c);omega
theorem Tr.vD:∀(i:Nat),i≤m→HK ((List.range i).filter (fE X.T fz l)).length=hp i
 |0,_=>by simp[tr.Oo,tr.ZU]
 | i+1,hi=>by
  obtain⟨o,a⟩:=tr.get (i:=i) (by omega);have d:=Tr.vD i (by omega);rw[sy,oe,bF];cases b:jt X.T fz o with
  | true =>
   have c:fE X.T fz l i=true:=by unfold fE;rw[a];exact b
   have:=tr.ZT i o (by omega) a b;simpa[c]using this
  | false =>
   have c:fE X.T fz l i=false:=by unfold fE;rw[a];exact b
   have:=PQ b (tr.step i o (by omega) a).1;rw[this];simpa[c]using d
structure oa (P:Program) (X:Cx) (nt:Nat) (fz:List Nat) (l:List Oper) (m:Nat) (e:DE) (va:Nat→D) (HK:Nat→J) (g0:Gh) (L:Array Bool) (c:Nat) (a:Act) (g:Gh):Prop where
 size:a.tmps.size=nt
 defers:a.defers=[]
 kH:L.size=l.length
 cl:∀(i:Nat) (o:Oper),L[i]?=some true→l[i]?=some o→∀x∈o.after.toList,Region.binds .any x=true→L[x.on]?=some true
 main:∀i,L[i]?=some true→i<m
 xB:((List.range m).filter λi=>L.getD i false).length=c
 ext:eA g0 g
 inv:Inv g (HK (((List.range m).filter (fE X.T fz l)).filter λi=>L.getD i false).length)
 base:∀t d,t∉iz (l.take m)→eI e t=some d→aV g (a.tmps.getD t undef) d
 done:∀(i:Nat) (o:Oper) (t:Nat),L[i]?=some true→l[i]?=some o→o.dst=some t→aV g (a.tmps.getD t undef) (va i)
 Hg:∀(i:Nat) (o:Oper) (t:Nat),L[i]?=some true→l[i]?=some o→gm X.T fz o = .h3→o.dst=some t→ox X.T g0 g o (a.tmps.getD t undef)
 MW:∀(i j:Nat) (o p:Oper) (t u:Nat),L[i]?=some true→L[j]?=some true→l[i]?=some o→l[j]?=some p→gm X.T fz o = .h3→gm X.T fz p = .h3→o.dst=some t→p.dst=some u→i≠j→a.tmps.getD t undef≠a.tmps.getD u undef
theorem oa.step(bq:eL P X.T)(br:j4 P X call){an:Gh}(bu:jn an X.gl){f:Array Bool}{c:Nat}{a:Act}{g:Gh}(q:oa P X nt fz l m e va HK an f c a g){i:Nat}{o:Oper}(hi:i<m)(s:l[i]?=some o)(aq:f[i]?=some false)
  (bd:∀x∈o.after.toList,Region.binds .any x=true→f[x.on]?=some true) {Q:Exit→Act→World→Prop} {next:Act→World→Prop}
  (bz:∀a0 g',oa P X nt fz l m e va HK an (f.setIfInBounds i true) (c+1) a0 g'→next a0 g'.w):uI P l.toArray Q o a g next:=by
 have a7:i<f.size:=by rw[q.kH];exact nv hi tr.ml
 have W:∀d,f.getD d false=true↔f[d]?=some true:=λd=>by
  rw[gE];cases f[d]? with
  |none=>simp
  |some bl=>simp
 have a1:f.getD i false=false:=by rw[gE,aq];rfl
 have a5:∀K,f[K]?=some true→∃j,l[K]?=some j:=λK C=>tr.get (q.main K C)
 have al:∀I,kg (ks l) i I=true→f[I]?=some true:=λI G=>sK (S:=λK=>f[K]?=some true) q.cl (i+1) i I o (by omega) s bd a5 G
 have bi:∀b j,l[b]?=some j→f[b]?=some true→kg (ks l) b i=false:=λb j E ar=>by
  cases n:kg (ks l) b i with
  |false=>rfl
  | true =>
   exfalso;have:=sK (S:=λK=>f[K]?=some true) q.cl (b+1) b i j (by omega) E (q.cl b j ar E) a5 n;rw[aq]at this;cases this
 obtain⟨aa,cb,a4⟩:=tr.step i o hi s;have b4:∀t B,t∈looks l o→eI (en i) t=some B→aV g (a.tmps.getD t undef) B:=λt B w F=>by
  by_cases af:t∈iz (l.take m)
  ·unfold iz at af;rw[mc]at af;obtain⟨j,b1,A⟩:=af;obtain⟨I,G⟩:=j7 b1;rw[gw]at G;split at G
   ·rename_i ba;have n:=tr.look i I o j t hi ba s G w A;have bw:=Cq tr.rU s n;have ak:=tr.val ba G A bw (B5 hi);rw[F]at ak;injection ak with ak;rw[ak];exact q.done I j t (al I n) G A
   ·cases G
  ·have:=tr.cL (t:=t) 0 i (mI _) (by omega) λd j k u r D=>af (by
     unfold iz;rw[mc];exact⟨j,eW (by rw[gw,bO (show d<m by omega)];exact r),D⟩)
   rw[this,tr.e0]at F;exact q.base t B af F
 have av:∀b,b∈(List.range m).filter (fE X.T fz l)↔b<m∧fE X.T fz l b=true:=λb=>by simp[kG]
 obtain ⟨ao,b3,bn⟩:∃ao,iY X call fz hV l o (en i) (HK (((List.range m).filter (fE X.T fz l)).filter λb=>f.getD b false).length)=some (va i,ao)∧ao=HK (((List.range m).filter (fE X.T fz l)).filter λb=>(f.setIfInBounds i true).getD b false).length:=by
  have bk:∀b,(f.setIfInBounds i true).getD b false=(f.getD b false||Nat.beq b i):=λb=>by
   by_cases N:i=b
   ·subst N;rw[gE,wE a7];simp
   ·rw[gE,ng N,← gE];have:Nat.beq b i=false:=by
     cases n:Nat.beq b i with
     |false=>rfl
     |true=>exact absurd (kI n).symm N
    rw[this,Bool.or_false]
  cases E:jt X.T fz o with
  | true =>
   have N:fE X.T fz l i=true:=by unfold fE;rw[s];exact E
   have a8:∀b,b∈(List.range m).filter (fE X.T fz l)→(f.getD b false=Nat.blt b i):=λb H=>by
    obtain⟨k,u⟩:=(av b).1 H;obtain⟨j,h⟩:=tr.get k;have bg:jt X.T fz j=true:=by unfold fE at u;rw[h]at u;exact u
    rcases sA b i with R|heq|a6
    ·have:=al b (tr.chain b i j o R hi h s bg E);rw[(W b).2 this];exact(jK (by omega)).symm
    ·subst heq;rw[a1];cases n:Nat.blt b b with
     |false=>rfl
     |true=>have:=fQ n;omega
    ·have a3:=tr.chain i b o j a6 k s h E bg;cases bo:f.getD b false with
     | false =>
      cases n:Nat.blt b i with
      |false=>rfl
      |true=>have:=fQ n;omega
     | true =>
      have:=bi b j h ((W b).1 bo);rw[this]at a3;cases a3
   have am:(((List.range m).filter (fE X.T fz l)).filter λb=>f.getD b false)=(((List.range m).filter (fE X.T fz l)).filter λb=>Nat.blt b i):=BO a8;have ab:(((List.range m).filter (fE X.T fz l)).filter λb=>(f.setIfInBounds i true).getD b false)=(((List.range m).filter (fE X.T fz l)).filter λb=>Nat.blt b (i+1)):=BO λb H=>by
    rw[bk,a8 b H];rcases sA b i with R|heq|a6
    ·have k:Nat.blt b i=true:=jK (by omega);have u:Nat.blt b (i+1)=true:=jK (by omega);rw[k,u];rfl
    ·subst heq;have u:Nat.blt b (b+1)=true:=jK (by omega);rw[u];simp
    ·have k:Nat.blt b i=false:=by
       cases n:Nat.blt b i with
       |false=>rfl
       |true=>have:=fQ n;omega
     have u:Nat.blt b (i+1)=false:=by
      cases n:Nat.blt b (i+1)with
      |false=>rfl
      |true=>have:=fQ n;omega
     have ap:Nat.beq b i=false:=by
      cases n:Nat.beq b i with
      |false=>rfl
      |true=>have:=kI n;omega
     rw[k,u,ap];rfl
   rw[am,ab,xX _ m i (by omega),xX _ m (i+1) (by omega),tr.vD i (by omega),tr.vD (i+1) (by omega)];exact⟨_,aa,rfl⟩
  | false =>
   have N:fE X.T fz l i=false:=by unfold fE;rw[s];exact E
   have ab:(((List.range m).filter (fE X.T fz l)).filter λb=>(f.setIfInBounds i true).getD b false)=(((List.range m).filter (fE X.T fz l)).filter λb=>f.getD b false):=BO λb H=>by
    rw[bk];have:Nat.beq b i=false:=by
     cases n:Nat.beq b i with
     |false=>rfl
     | true =>
      have:=kI n;subst this;rw[((av b).1 H).2]at N;cases N
    rw[this,Bool.or_false]
   rw[ab];refine⟨_,?_,rfl⟩;have bt:∀u,iY X call fz hV l o (en i) u=iY X call fz hV l o (en m) u:=λu=>a2v λt w=>(tr.a1M hi s w).symm
   rw[bt]at aa ⊢;by_cases bb:(((List.range m).filter (fE X.T fz l)).filter λb=>f.getD b false).length=((List.range i).filter (fE X.T fz l)).length
   ·rw[bb,tr.vD i (by omega)];have:=PQ E aa;rw[this]at aa;exact aa
   ·refine PO E aa λbp=>⟨tr.win i _ o ?_ s,λt w=>tr.val hi s w (by omega) (bB _)⟩
    unfold As;rw[List.mem_flatMap];refine⟨i,by simp[hi],?_⟩;rw[s];simp only[bp];rw[g8];refine⟨_,kG.2 ⟨List.mem_range.2 (Nat.lt_succ_of_le (NY _ λb H ar=>?_)),?_⟩,rfl⟩
    ·obtain⟨j,h⟩:=tr.get ((av b).1 H).1;rw[bi b j h ((W b).1 ar)];rfl
    ·simp only[gJ,o4];refine⟨jK (NY _ λb H n=>(W b).2 (al b n)),?_⟩;have b0:(((List.range m).filter (fE X.T fz l)).filter λb=>Nat.blt b i).length=((List.range i).filter (fE X.T fz l)).length:=xX _ m i (by omega);rw[b0];cases n:Nat.beq _ _ with
     |false=>rfl
     |true=>exact absurd (kI n) bb
 refine zB bq br b3 q.inv (bu.ext q.ext) b4 λg' L ai bv b2 D=>bz _ g' ?_
 have M:∀d,(f.setIfInBounds i true)[d]?=some true→d=i∨f[d]?=some true:=λd r=>by
  by_cases v:i=d
  ·exact .inl v.symm
  ·rw[ng v]at r;exact .inr r
 have a2:∀d,f[d]?=some true→(f.setIfInBounds i true)[d]?=some true:=λd r=>by
  by_cases v:i=d
  ·subst v;rw[aq]at r;cases r
  ·rw[ng v];exact r
 have aj:∀t,o.dst≠some t→(a.put o.dst L).tmps.getD t undef=a.tmps.getD t undef:=λt w=>by
  cases ac:o.dst with
  |none=>rfl
  | some y =>
   have az:y≠t:=λp=>w (by rw[ac,p])
   simp only[Act.put,gE];rw[ng az]
 have ax:∀t,o.dst=some t→(a.put o.dst L).tmps.getD t undef=L:=λt w=>by
  have R:=(a4 t w).1;rw[w];simp[Act.put,Array.getD,q.size,R]
 have bf:∀(d:Nat) (j:Oper) (y:Nat),f[d]?=some true→l[d]?=some j→gm X.T fz j = .h3→j.dst=some y→gm X.T fz o = .h3→L≠a.tmps.getD y undef:=λd j y r h C ae bx p=>by
  obtain⟨_,_,bl,_,_,_,bm,ca,_,_⟩:=D bx;obtain⟨_,_,b9,_,_,_,b6,_,b7,_⟩:=q.Hg d j y r h C ae;rw[bm,b6]at p;injection p with p;injection p with p;injection p with p;have:=b7.1;omega
 have be:∀t,o.dst≠some t→∀B,aV g (a.tmps.getD t undef) B→aV g' ((a.put o.dst L).tmps.getD t undef) B:=λt w B F=>by
  cases ac:o.dst with
  |none=>exact F.ext ai
  | some y =>
   have az:y≠t:=λp=>w (by rw[ac,p])
   have:(a.put (some y) L).tmps.getD t undef=a.tmps.getD t undef:=by
    simp only[Act.put,gE];rw[ng az]
   rw[this];exact F.ext ai
 refine⟨by cases ac:o.dst<;>simp[Act.put,q.size],by cases ac:o.dst<;>simp[Act.put,q.defers],by simp[q.kH],λd j r h x bh n=>?_,λd r=>?_,?_,q.ext.trans ai,by rw[← bn];exact bv,λt B w F=>?_,λd j t r h D=>?_,λd j t r h C ae=>?_,λd ag j bj t y r bc h A C au ah ad aw=>?_⟩
 ·rcases M d r with rfl|r
  ·rw[s]at h;injection h with h;subst h;exact a2 _ (bd x bh n)
  ·exact a2 _ (q.cl d j r h x bh n)
 ·rcases M d r with rfl|r
  ·exact hi
  ·exact q.main d r
 ·have b8:∀(z:Nat),((List.range z).filter λd=>(f.setIfInBounds i true).getD d false).length=((List.range z).filter λd=>f.getD d false).length+(if i<z then 1 else 0):=by
    intro z
    induction z with
    |zero=>simp
    | succ z b5 =>
     rw[sy,oe,oe,bF,bF,b5];by_cases a9:i=z
     ·subst a9;have k:(f.setIfInBounds i true).getD i false=true:=by
       rw[gE,wE a7];rfl
      have am:([i].filter λd=>(f.setIfInBounds i true).getD d false)=[i]:=by rw[oh,k];rfl
      have ab:([i].filter λd=>f.getD d false)=[]:=by rw[oh,a1];rfl
      rw[am,ab,cC (Nat.lt_irrefl _),bO (LI _)];simp
     ·have k:(f.setIfInBounds i true).getD z false=f.getD z false:=by
        rw[gE,ng a9,← gE]
      have u:(i<z+1)↔(i<z):=by omega
      simp only[u];have ap:([z].filter λd=>(f.setIfInBounds i true).getD d false)=([z].filter λd=>f.getD d false):=by
       rw[oh,oh,k];rfl
      rw[ap];omega
  rw[b8 m,bO hi,q.xB]
 ·refine be t (λp=>w ?_) B (q.base t B w F);unfold iz;rw[mc];exact⟨o,eW (by rw[gw,bO hi];exact s),p⟩
 ·by_cases v:d=i
  ·subst v;rw[s]at h;injection h with h;subst h;have R:=(a4 t D).1;rw[D];have:(a.put (some t) L).tmps.getD t undef=L:=by simp[Act.put,Array.getD,q.size,R]
   rw[this];exact b2
  ·rcases M d r with k|k
   ·exact absurd k v
   ·exact be t (λp=>v (tr.qn h s D p)) _ (q.done d j t k h D)
 ·by_cases v:d=i
  ·subst v;rw[s]at h;injection h with h;subst h;rw[ax t ae];exact(D C).ji q.ext.size
  ·rcases M d r with k|k
   ·exact absurd k v
   ·rw[aj t λp=>v (tr.qn h s ae p)];exact(q.Hg d j t k h C ae).ext ai
 ·by_cases v:d=i
  ·subst v;rw[s]at h;injection h with h;subst h;rcases M ag bc with k|k
   ·exact absurd k.symm aw
   ·rw[ax t ah,aj y λp=>aw (tr.qn s A p ad)];exact bf ag bj y k A au ad C
  ·rcases M d r with k|k
   ·exact absurd k v
   ·rw [aj t λp=>v (tr.qn h s ah p)];by_cases ay:ag=i
    ·subst ay;rw[s]at A;injection A with A;subst A;rw[ax y ad];exact λp=>bf d j t k h C ah au p.symm
    ·rcases M ag bc with u|u
     ·exact absurd u ay
     ·rw[aj y λp=>ay (tr.qn A s ad p)];exact q.MW d ag j bj t y k u h A C au ah ad aw
end tr
end
end Go.Pi
namespace Go.Eng
abbrev g2:=@decide_eq_false
abbrev n4:=@Classical.byContradiction
abbrev IH:=@Classical.not_forall
end Go.Eng
namespace Go.Pi
open Go.Eng
theorem RP(p:Nat→Bool):∀(m:Nat),((List.range m).filter p).length=m→∀i,i<m→p i=true:=λm h i d=>by
 have b:(List.range m).filter p=List.range m:=by
  apply BP.2;intro a c;rcases gG ((List.range m).filter p).length (List.range m).length with e|f
  ·simp at e;omega
  ·cases hp:p a with
   |true=>rfl
   | false =>
    exfalso;have:((List.range m).filter p).length<(List.range m).length:=by
     apply List.length_filter_lt_length_iff_exists.2;exact⟨a,c,by simp[hp]⟩
    omega
 exact BP.1 b i (by simp[d])
def sC(T:dR)(fz:List Nat)(j g:Gh)(a:Act)(e:List Oper):Prop:=
 (∀(d:Nat) (b:Oper) (c:Nat),e[d]?=some b→gm T fz b = .h3→b.dst=some c→ox T j g b (a.tmps.getD c undef)) ∧
 ∀(d h:Nat) (b f:Oper) (c i:Nat),e[d]?=some b→e[h]?=some f→gm T fz b = .h3→gm T fz f = .h3→b.dst=some c→f.dst=some i→d≠h→a.tmps.getD c undef≠a.tmps.getD i undef
structure uH (pr:Nat→Prop) (n:Nat) (g:Gh) (e:DE) (a:Act):Prop where
 size:a.tmps.size=n
 defers:a.defers=[]
 get:∀t d,pr t→eI e t=some d→aV g (a.tmps.getD t undef) d
theorem sC.tail{T:dR}{fz:List Nat}{e g:Gh}{a:Act}{o:Oper}{f:List Oper}(h:sC T fz e g a (o::f)):sC T fz e g a f:=
 ⟨λb c d hp=>h.1 (b+1) c d (by simpa using hp),λb n c p d q hp m i j k l r=>h.2 (b+1) (n+1) c p d q (by simpa using hp) (by simpa using m) i j k l (by omega)⟩
section
variable {P:Program} {X:Cx} {R:Type}
theorem HS (an:eL P X.T) {fz:List Nat} {nt:Nat} {r:R} {D:Gh} {a:Act} {aj:Nat→Prop}:∀(u:List Oper) (e:DE) (h:J) (g:Gh) (y:DE→J→Option R),lZ X fz u e h y=some r→eA D g→Inv g h→uH aj nt g e a→sC X.T fz D g a u →
  ∃e' h' g',y e' h'=some r∧g'.w=g.w∧eA D g'∧Inv g' h'∧uH aj nt g' e' a∧(∀v d,aV g v d→aV g' v d)∧∀t,(∀o∈u,gm X.T fz o = .h3→o.dst≠some t)→eI e' t=eI e t
 |[],e,h,g,y,p,n,hi,H,_=>⟨e,h,g,p,rfl,n,hi,H,λ_ _ G=>G,λ_ _=>rfl⟩
 | o :: u, e,h,g,y,p,n,hi,H,hp=>by
  have skip:lZ X fz u e h y=some r→∃e' h' g',y e' h'=some r∧g'.w=g.w∧eA D g'∧Inv g' h'∧uH aj nt g' e' a∧(∀v d,aV g v d→aV g' v d)∧∀t,(∀b∈o::u,gm X.T fz b = .h3→b.dst≠some t)→eI e' t=eI e t:=λp=>by
   obtain⟨e',h',g',ay,az,a0,a1,a2,a3,a4⟩:=HS an u e h g y p n hi H hp.tail;exact⟨e',h',g',ay,az,a0,a1,a2,a3,λt b8=>a4 t λb q=>b8 b (kF _ q)⟩
  unfold lZ at p;split at p
  case h_2=>exact skip p
  rename_i ak t aq b4 ao;split at p
  case h_2=>cases p
  rename_i j ba;obtain⟨cg,ac,z,I,K,b6,bf,ch,ae,a9,bw,ci,bv⟩:=hp.1 0 o t rfl aq ao;rw[b4]at I;injection I with I;subst I;rw[ba]at K;injection K with K;subst K
  let k:Gh:=⟨g.w,g.ms++[⟨z,j.V,1,1⟩],g.L⟩
  have af:k.ms[h.length]?=some ⟨z,j.V,1,1⟩:=by
   show(g.ms++_)[h.length]?=_;rw[← hi.len];simp
  have ar:∀(b:Nat) (m:Me),g.ms[b]?=some m→k.ms[b]?=some m:=λb m c=>by
   show(g.ms++_)[b]?=some m;rw[fg (bR.1 c).1];exact c
  have E:∀(b:Nat) (m:Me),k.ms[b]?=some m→(b<h.length∧g.ms[b]?=some m)∨(b=h.length∧m=⟨z,j.V,1,1⟩):=λb m c=>by
   have ab:(g.ms++[(⟨z,j.V,1,1⟩:Me)])[b]?=some m:=c;rcases sA b g.ms.length with B|heq|b0
   ·rw[fg B]at ab;exact .inl ⟨by rw[← hi.len];exact B,ab⟩
   ·subst heq;simp at ab;exact .inr ⟨hi.len,ab.symm⟩
   ·exfalso;have:=(bR.1 ab).1;simp at this;omega
  have ap:nh g k:=⟨rfl,rfl,rfl,bB _,ar,λz bu=>⟨bu,rfl⟩⟩
  have bx:eA D k:=⟨⟨n.os,n.tape,n.output,n.size,λb m c=>ar b m (n.ms b m c),λM Q=>⟨(n.fz M Q).1,(n.fz M Q).2⟩⟩,λM Q=>by
   obtain⟨aw,cd⟩:=n.eY M Q;refine⟨⟨aw.1,aw.2.1,λb m c=>?_⟩,cd⟩;rcases E b m c with⟨_,c⟩|⟨_,rfl⟩
   ·exact aw.2.2 b m c
   ·have:=Q.1;show z≠M;omega⟩
  have ad:∀(b:Nat) (ai:Ob),(aG h ak j.V [j.zero])[b]?=some ai→(b<h.length∧h[b]?=some ai)∨(b=h.length∧ai = .row ak j.V [j.zero]):=λb ai F=>by
   unfold aG at F;rcases sA b h.length with B|heq|b0
   ·rw[fg B]at F;exact .inl ⟨B,F⟩
   ·subst heq;simp at F;exact .inr ⟨rfl,F.symm⟩
   ·exfalso;have:=(bR.1 F).1;simp at this;omega
  have b1:Inv k (aG h ak j.V [j.zero]):=by
   refine⟨by show(g.ms++[_]).length=(h++[_]).length;simp[hi.len],λb al a7 a5 q=>?_,λb x al a7 bj cf a5 ce ax ah am l f i N=>?_,hi.L,λb m c=>?_⟩
   ·rcases ad b _ q with⟨B,q⟩|⟨rfl,heq⟩
    ·obtain⟨m,bn,c,s⟩:=hi.live b al a7 a5 q;exact⟨m,bn,ar b m c,s.iv,s.kt,s.pos,s.hL,s.len,s.le,s.room,s.row,λac a6 l au d f=>by
      obtain⟨v,i,N,br⟩:=s.cell ac a6 l au d f;exact⟨v,i,N,br.lT ap⟩⟩
    ·injection heq with bo bp bq;subst bo;subst bp;subst bq;refine⟨_,a9,af,⟨(0,0),bw,.inl rfl⟩,rfl,b6,ae.2.1,rfl,bB _,by show 1*j.V≤a9.size;omega,λa6 G=>?_,λac a6 l au d f=>?_⟩
     ·simp at G;subst G;exact an.RA ba
     ·cases ac with
      | zero =>
       simp at l;subst l;obtain⟨v,bk,bl,bm⟩:=bv au d f;exact⟨v,by simpa using bk,bl,bm k⟩
      |succ ac=>simp at l
   ·rcases ad b _ am with⟨B,am⟩|⟨rfl,heq⟩
    ·rcases E b ax f with⟨_,f⟩|⟨bd,_⟩
     ·rcases ad x _ l with⟨b2,l⟩|⟨rfl,bz⟩
      ·rcases E x ah i with⟨_,i⟩|⟨bd,_⟩
       ·exact hi.inj b x al a7 bj cf a5 ce ax ah am l f i N
       ·omega
      ·exfalso;rw[af]at i;injection i with i;subst i;exact ae.2.2 b ax f N
     ·omega
    ·rcases ad x _ l with⟨b2,l⟩|⟨rfl,bz⟩
     ·rcases E x ah i with⟨_,i⟩|⟨bd,_⟩
      ·exfalso;rw[af]at f;injection f with f;subst f;exact ae.2.2 x ah i N.symm
      ·omega
     ·rfl
   ·rcases E b m c with⟨_,c⟩|⟨_,rfl⟩
    ·exact hi.msb b m c
    ·exact ae.1
  have b7:uH aj nt k ((t,.ptr h.length 0 0)::e) a:=by
   refine⟨H.size,H.defers,λC d ag A=>?_⟩;rw[lF]at A;by_cases be:t=C
   ·subst be;rw[bO rfl]at A;injection A with A;subst A;rw[bf];have:=aV.ptr (g:=k) h.length 0 0 ⟨z,j.V,1,1⟩ af;simpa using this
   ·rw[cC be]at A;exact(H.get C d ag A).lT ap
  have b5:sC X.T fz D k a u:=by
   refine⟨λb bh C q bc bb=>?_,hp.tail.2⟩;obtain⟨bi,b9,a8,I,K,ca,bg,cb,av,cc⟩:=hp.1 (b+1) bh C (by simpa using q) bc bb;have b3:=hp.2 0 (b+1) o bh t C rfl (by simpa using q) aq bc ao bb (by omega);refine⟨bi,b9,a8,I,K,ca,bg,cb,⟨av.1,av.2.1,λx m c=>?_⟩,cc⟩;rcases E x m c with⟨_,c⟩|⟨_,rfl⟩
   ·exact av.2.2 x m c
   ·intro aa;apply b3;rw[bf,bg];have aa:z=a8:=aa;rw[aa]
  obtain⟨e',h',g',ay,az,a0,a1,a2,a3,a4⟩:=HS an u _ _ k y p bx b1 b7 b5;refine⟨e',h',g',ay,az,a0,a1,a2,λv d G=>a3 v d (G.lT ap),λC ag=>?_⟩;rw[a4 C λb q=>ag b (kF _ q),lF,cC (λaa=>ag o (k0 ..) aq (by rw[ao,aa]))]
end
section
variable {P:Program} {X:Cx} {R:Type} {call:fb} {nt:Nat} {fz hV:List Nat} {l:List Oper} {m:Nat} {e:DE} {h:J} {en:Nat→DE} {hp:Nat→J} {va:Nat→D} {HK:Nat→J} (tr:Tr X call nt fz hV l m e h en hp va HK)
include tr
theorem oa.sat{r g:Gh}{n:Array Bool}{c:Nat}{a:Act}(f:oa P X nt fz l m e va HK r n c a g):uH (λt=>∀z p,z<m→n[z]?≠some true→l[z]?=some p→p.dst≠some t) nt g (en m) a:=by
 refine⟨f.size,f.defers,λt q hp i=>?_⟩;by_cases d:t∈iz (l.take m)
 ·unfold iz at d;rw[mc]at d;obtain⟨p,v,k⟩:=d;obtain⟨o,b⟩:=j7 v;rw[gw]at b;split at b
  ·rename_i j;have h:=tr.val j b k j (bB _);rw[i]at h;injection h with h;rw[h];refine f.done o p t ?_ b k;apply n4;intro u;exact hp o p j u b k
  ·cases b
 ·have:=tr.cL (t:=t) 0 m (mI _) (bB _) λA p y s x w=>d (by
    unfold iz;rw[mc];exact⟨p,eW (by rw[gw,bO s];exact x),w⟩)
  rw[this,tr.e0]at i;exact f.base t q d i
theorem oa.wm{w g:Gh}{r:Array Bool}{c:Nat}{a:Act}(s:oa P X nt fz l m e va HK w r c a g){i:Nat}{o:Oper}(hi:i<m)(u:l[i]?=some o)
  (y:∀j p t,j<m→l[j]?=some p→p.dst=some t→t∈looks l o→r[j]?=some true):∀t d,t∈looks l o→eI (en i) t=some d→aV g (a.tmps.getD t undef) d:=λt d v n=>by
 by_cases f:t∈iz (l.take m)
 ·unfold iz at f;rw[mc]at f;obtain⟨p,A,h⟩:=f;obtain⟨j,b⟩:=j7 A;rw[gw]at b;split at b
  ·rename_i q;have x:=tr.look i j o p t hi q u b v h;have z:=Cq tr.rU u x;have k:=tr.val q b h z (B5 hi);rw[n]at k;injection k with k;rw[k];exact s.done j p t (y j p t q b h v) b h
  ·cases b
 ·have:=tr.cL (t:=t) 0 i (mI _) (by omega) λD p E F C B=>f (by
    unfold iz;rw[mc];exact⟨p,eW (by rw[gw,bO (show D<m by omega)];exact C),B⟩)
  rw[this,tr.e0]at n;exact s.base t d f n
theorem Tr.O0{k j:Nat}{o:Oper}(s:m≤k)(h2:k<gv l)(f:j<k)(e:l[k]?=some o):
  (∃x∈o.after.toList,Region.binds .any x=true∧x.on=j)∨(j<m∧∀p t,l[j]?=some p→o.dst=some t→t∉looks l p):=by
 rcases tr.late with u|d
 ·omega
 unfold vO at d;simp only[gJ]at d;have:=(iL.1 d.1.1) k (by simp[h2]);simp only[o5]at this;rcases this with a|a
 ·have:=fQ a;omega
 ·have:=(iL.1 a) j (by simp[f]);simp only[o5,gJ]at this;rcases this with a|⟨a,b⟩
  ·left;have c:=pQ.1 a;unfold lS at c;have i:l.toArray[k]?=some o:=by simpa using e
   rw[i]at c;simp only[g8,kG]at c;obtain⟨x,⟨q,g⟩,r⟩:=c;exact⟨x,q,g,r⟩
  ·right;refine⟨fQ a,λp t hp h n=>?_⟩;unfold PG at b;rw[e,hp]at b;simp only[h]at b;rw[pQ.2 n]at b;cases b
theorem Tr.idle{j:Nat}(o:j<m)(e:mn m l j=true):
  ∃p t,l[j]?=some p∧gm X.T fz p = .pure∧p.dst=some t∧∀u∈looks l p,∀c h,c<m→l[c]?=some h→h.dst=some u→mn m l c=false:=by
 rcases tr.late with A|g
 ·exfalso;unfold mn at e;rw[BL]at e;obtain⟨q,b,i⟩:=e;simp only[gJ,o4]at i;have:q<gv l:=by simpa using b
  have a:Nat.blt q m=true:=jK (by omega);rw[i.1]at a;cases a
 unfold vO at g;simp only[gJ]at g;have:=(iL.1 g.1.2) j (by simp[o]);rw[e]at this;simp only[fy,ui,gJ]at this;obtain⟨p,hp⟩:=tr.get o;obtain⟨d,a⟩:=this;unfold Gz at d;rw[hp]at d;simp only[gJ]at d;obtain⟨⟨b,z⟩,k⟩:=d;have b:gm X.T fz p = .pure:=by
  generalize gm X.T fz p=y at b;cases y<;>first|rfl|cases b
 cases n:p.dst with
 |none=>rw[n]at k;cases k
 | some t =>
  refine⟨p,t,hp,b,n,λu x c h w v s=>?_⟩;unfold Rx at a;rw[hp]at a;have r:=(iL.1 a) u x;have f:=(iL.1 r) c (by simp[w]);rw[v]at f;simp only[s]at f;simpa using f
theorem Tr.a2r{k:Nat}{o p:Oper}(e:m≤k)(h2:k<gv l)(d:l[k]?=some o)(hp:l[k+1]?=some p):ti fz o p=none:=by
 rcases tr.late with f|b
 ·omega
 unfold vO at b;simp only[gJ]at b;have:=(iL.1 b.2) k (by simp[h2]);simp only[o5]at this;rcases this with a|a
 ·have:=fQ a;omega
 ·unfold PF at a;rw[d,hp]at a;simp only at a;cases c:ti fz o p with
  |none=>rfl
  |some g=>rw[c]at a;cases a
theorem Tr.waits{i j:Nat}{o:Oper}(c:l[i]?=some o)(n:j<i)(p:gv l≤i):∃x∈o.after.toList,Region.binds .any x=true∧x.on=j:=by
 have g:=(bR.1 c).1;have e:mu j (lS l.toArray i)=true→∃x∈o.after.toList,Region.binds .any x=true∧x.on=j:=λa=>by
  have b:=pQ.1 a;unfold lS at b;have h:l.toArray[i]?=some o:=by simpa using c
  rw[h]at b;simp only[g8,kG]at b;obtain⟨x,⟨k,f⟩,m⟩:=b;exact⟨x,k,f,m⟩
 have d:=(iL.1 tr.tail) i (by simp[g]);simp only[o5]at d;rcases d with a|a
 ·have:=fQ a;omega
 ·exact e ((iL.1 a) j (by simp;omega))
omit tr in
theorem a1a{i j:Nat}(d:m≤i)(c:i<gv l)(b:mn m l j=false):kg (ks l) i j=true:=by
 cases a:kg (ks l) i j with
 |true=>rfl
 | false =>
  exfalso;have:mn m l j=true:=by
   unfold mn;rw[BL];refine⟨i,by simp[c],?_⟩;rw[a];have:Nat.blt i m=false:=by
    cases a:Nat.blt i m with
    |false=>rfl
    |true=>have:=fQ a;omega
   rw[this];rfl
  rw[b]at this;cases this
omit tr in
theorem zL{a:Array Bool}{i:Nat}(p:a.size=l.length):i∈Region.ready .any l.toArray a↔∃o,l[i]?=some o∧a[i]?=some false∧∀x∈o.after.toList,Region.binds .any x=true→a[x.on]?=some true:=by
 unfold Region.ready;rw[kG];constructor
 ·rintro⟨m,c⟩;have g:i<l.length:=by simpa using m
  have b:l[i]?=some l[i]:=dG g;have h:l.toArray[i]?=some l[i]:=by simpa using b
  rw[h]at c;simp only[hU,sB,gJ,o4]at c;refine⟨l[i],b,?_,λx j f=>?_⟩
  ·obtain⟨e,d⟩:∃e,a[i]?=some e:=⟨_,p0 (by omega)⟩
   have:=c.1;rw[gE,d]at this;rw[d];simp at this;rw[this]
  ·have:=(Ax.1 c.2) x (by simpa using j);rw[f]at this;simp only[fy,ui]at this;rw[gE]at this;cases k:a[x.on]? with
   |none=>rw[k]at this;cases this
   |some e=>rw[k]at this;simp at this;rw[this]
 ·rintro⟨o,b,d,n⟩;have g:=(bR.1 b).1;refine⟨by simpa using g,?_⟩;have h:l.toArray[i]?=some o:=by simpa using b
  rw[h];simp only[hU,sB,gJ,o4];refine⟨by rw[gE,d];rfl,Ax.2 λx j=>?_⟩;cases f:Region.binds .any x with
  |false=>rfl
  | true =>
   simp only[fy,ui];rw[gE,n x (by simpa using j) f];rfl
theorem Tr.back{k:Nat}{p:Oper}(hp:l[k]?=some p):∀x∈p.after.toList,Region.binds .any x=true→x.on<k:=λx f b=>by
 have a:=tr.rU;simp only[qM,gJ]at a;have d:=(bR.1 hp).1;have:=(iL.1 a.2) k (by simp[d]);have c:x.on∈lS l.toArray k:=by
  unfold lS;have e:l.toArray[k]?=some p:=by simpa using hp
  rw[e];simp only[g8,kG];exact⟨x,⟨f,b⟩,rfl⟩
 exact fQ ((iL.1 this) _ c)
theorem Tr.nonempty{b:Array Bool}(d:b.size=l.length):∀(n i:Nat),i<n→i<m→b[i]?=some false→∃i,i∈Region.ready .any l.toArray b
 |0,i,h,_,_=>by omega
 | n+1,i,s,hi,j=>by
  obtain⟨o,g⟩:=tr.get hi;by_cases e:∀a∈o.after.toList,Region.binds .any a=true→b[a.on]?=some true
  ·exact⟨i,(zL d).2 ⟨o,g,j,e⟩⟩
  ·simp only[IH]at e;obtain⟨a,q,k,p⟩:=e;have r:=tr.back g a q k;obtain⟨c,f⟩:∃c,b[a.on]?=some c:=⟨_,p0 (by rw[d];have:=tr.ml;omega)⟩
   refine Tr.nonempty d n a.on (by omega) (by omega) ?_;cases c with
   |false=>exact f
   |true=>exact absurd f p
theorem Ww (E:eL P X.T) (G:j4 P X call) {q:Gh} (N:jn q X.gl) {Q:Exit→Act→World→Prop}
  (A:∀f b c a g,oa P X nt fz l m e va HK q b c a g→(∀i,i<m→mn m l i=false→b[i]?=some true)→l.length≤f+c→wpAny P .any l.toArray Q f b a g.w):∀(f:Nat) (b:Array Bool) (c:Nat) (a:Act) (g:Gh),oa P X nt fz l m e va HK q b c a g→l.length≤f+c→wpAny P .any l.toArray Q f b a g.w:=by
 intro f
 induction f with
 | zero =>
  intro b c a g d t;have ao:c≤m:=by
   rw[← d.xB];have:=List.length_filter_le (λi=>b.getD i false) (List.range m);simpa using this
  have ap:=tr.ml;have H:c=m:=by omega
  refine A 0 b c a g d (λi o _=>?_) t;have:=RP (λi=>b.getD i false) m (by rw[d.xB,H]) i o;simp only[gE]at this;cases z:b[i]? with
  |none=>rw[z]at this;cases this
  |some n=>rw[z]at this;simp at this;rw[this]
 | succ f al =>
  intro b c a g d t;by_cases r:∀i,i<m→mn m l i=false→b[i]?=some true
  ·exact A (f+1) b c a g d r t
  ·simp only[IH]at r;obtain⟨j,ab,ad,k⟩:=r;have k:b[j]?=some false:=by
    obtain⟨n,y⟩:∃n,b[j]?=some n:=⟨_,p0 (by rw[d.kH];have:=tr.ml;omega)⟩
    cases n with
    |true=>exact absurd y k
    |false=>exact y
   refine⟨λag=>?_,λi aa=>?_⟩
   ·obtain⟨i,o⟩:=tr.nonempty d.kH (j+1) j (by omega) ab k;rw[ag]at o;cases o
   ·obtain⟨x,p,D,s⟩:=(zL d.kH).1 aa;have R:i<m:=by
     rcases gG i m with u|L
     ·exact u
     ·exfalso;rcases gG i (gv l)with u|M
      ·have I:∀h,b[h]?=some true→∃am,l[h]?=some am:=λh ac=>tr.get (d.main h ac)
       have:=sK (S:=λh=>b[h]?=some true) d.cl (i+1) i j x (by omega) p s I (a1a L u ad);rw[k]at this;cases this
      ·obtain⟨an,aj,F,ak⟩:=tr.waits p (j:=j) (by omega) M;have:=s an aj F;rw[ak,k]at this;cases this
    have ah:uI P l.toArray Q x a g (wpAny P .any l.toArray Q f (b.setIfInBounds i true)):=d.step tr E G N R p D s λB C K=>al _ (c+1) B C K (by omega)
    unfold wpOp;have af:l.toArray[i]?=some x:=by simpa using p
    rw[af];simp only[];rcases ah with⟨v,ai⟩|⟨v,ae⟩
    ·rw[bO v];exact .inl ai
    ·rw[cC (by simp[v])];exact ae
structure RJ (P:Program) (X:Cx) (nt:Nat) (fz:List Nat) (l:List Oper) (m:Nat) (en:Nat→DE) (va:Nat→D) (k:Nat) (e:DE) (h:J) (g0:Gh) (L:Array Bool) (a:Act) (g:Gh):Prop where
 size:a.tmps.size=nt
 defers:a.defers=[]
 kH:L.size=l.length
 cl:∀(i:Nat) (o:Oper),L[i]?=some true→l[i]?=some o→∀x∈o.after.toList,Region.binds .any x=true→L[x.on]?=some true
 tl:∀i,k≤i→i<l.length→L[i]?=some false
 md:∀i,m≤i→i<k→L[i]?=some true
 pn:∀i,i<m→L[i]?≠some true→mn m l i=true
 ext:eA g0 g
 inv:Inv g h
 env:∀t d,(∀z p,z<m→L[z]?≠some true→l[z]?=some p→p.dst≠some t)→eI e t=some d→aV g (a.tmps.getD t undef) d
 wm:∀z p t d,z<m→L[z]?≠some true→l[z]?=some p→t∈looks l p→eI (en z) t=some d→aV g (a.tmps.getD t undef) d
 IB:∀z p t,z<m→L[z]?≠some true→l[z]?=some p→p.dst=some t→eI e t=some (va z)
omit tr in
theorem MC{a:Array Bool}{i:Nat}(hi:i<a.size)(e:a[i]?=some false):∀(n:Nat),((List.range n).filter λb => !((a.setIfInBounds i true).getD b false)).length+(if i<n then 1 else 0)=((List.range n).filter λb => !(a.getD b false)).length
 |0=>by simp
 | n+1=>by
  have k:=MC hi e n;rw[sy,oe,oe,bF,bF,← k];by_cases f:i=n
  ·subst f;have c:(a.setIfInBounds i true).getD i false=true:=by
    rw[gE,wE hi];rfl
   have d:a.getD i false=false:=by rw[gE,e];rfl
   have g:([i].filter λb => !((a.setIfInBounds i true).getD b false))=[]:=by rw[oh,c];rfl
   have h:([i].filter λb => !(a.getD b false))=[i]:=by rw[oh,d];rfl
   rw[g,h,cC (Nat.lt_irrefl _),bO (LI _)];simp
  ·have c:(a.setIfInBounds i true).getD n false=a.getD n false:=by
     rw[gE,ng f,← gE]
   have d:(i<n+1)↔(i<n):=by omega
   simp only[d];have j:([n].filter λb => !((a.setIfInBounds i true).getD b false))=([n].filter λb => !(a.getD b false)):=by
    rw[oh,oh,c];rfl
   rw[j];omega
omit tr in
theorem MB(p:Nat→Bool):∀(n:Nat),((List.range n).filter λa => !(p a)).length+((List.range n).filter p).length=n
 |0=>rfl
 | n+1=>by
  have b:=MB p n;rw[sy,oe,oe,bF,bF];cases hp:p n<;>simp[hp]<;>omega
omit tr in
theorem zF{a:Act}{dst:Option Nat}{v:Value}{t:Nat}(h:dst≠some t):(a.put dst v).tmps.getD t undef=a.tmps.getD t undef:=by
 cases dst with
 |none=>rfl
 | some d =>
  have c:d≠t:=λb=>h (by rw[b])
  simp only[Act.put,gE];rw[ng c]
omit tr in
theorem P6{a:Act}{v:Value}{t:Nat}(h:t<a.tmps.size):(a.put (some t) v).tmps.getD t undef=v:=by
 simp[Act.put,Array.getD,h]
theorem a1b(ba:eL P X.T)(bb:j4 P X call){ax:Gh}(bf:jn ax X.gl){Q:Exit→Act→World→Prop}{al:DE→J→Option R}{r:R}{e0:DE}
  (bp:∀e h a g,eA ax g→jo nt g e a→Inv g h→(∀t,t∉iz l→eI e t=eI e0 t)→jx X call nt fz hV l (l.drop (gv l)) e h al=some r→wpList P l.toArray Q (l.drop (gv l)) a g.w) :
  ∀(N k:Nat) (e:DE) (h:J) (n:Array Bool) (a:Act) (g:Gh),m≤k→k≤gv l→jx X call nt fz hV l (l.drop k) e h al=some r→(∀t,t∉iz l→eI e t=eI e0 t)→RJ P X nt fz l m en va k e h ax n a g →
   ((List.range m).filter λi => !(n.getD i false)).length+(l.length - k)≤N→wpAny P .any l.toArray Q N n a g.w:=by
 have cr:=tr.Ml;have cu:=tr.ml;intro N
 induction N with
 | zero =>
  intro k e h n a g bj bk F ai b b4;have a2:k=gv l:=by omega
  have ce:((List.range m).filter λi => !(n.getD i false))=[]:=hM (by omega);have ah:∀i,i<m→n[i]?=some true:=λi K=>by
   have:=(xa.1 ce) i (by simp[K]);simp only[o4,Bool.not_eq_false,gE]at this;cases z:n[i]? with
   |none=>rw[z]at this;cases this
   |some am=>rw[z]at this;simp at this;rw[this]
  subst a2;refine Ru tr.rU tr.tail (l.drop (gv l)) (gv l) 0 n a g.w (bB _) rfl b.kH (λi K=>?_) (by simp;omega) (bp e h a g b.ext ⟨b.size,b.defers,λt C H=>b.env t C (λf p q v=>absurd (ah f q) v) H⟩ b.inv ai F);rcases gG i (gv l)with L|I
  ·rw[fX L];rcases gG i m with o|o
   ·exact ah i o
   ·exact b.md i o L
  ·rw[g2 (by omega)];exact b.tl i I K
 | succ N bu =>
  intro k e h n a g bj bk F ai b b4;by_cases az:k=gv l∧∀i,i<m→n[i]?=some true
  ·obtain⟨a2,ah⟩:=az;subst a2;refine Ru tr.rU tr.tail (l.drop (gv l)) (gv l) (N+1) n a g.w (bB _) rfl b.kH (λi K=>?_) (by simp;omega) (bp e h a g b.ext ⟨b.size,b.defers,λt C H=>b.env t C (λf p q v=>absurd (ah f q) v) H⟩ b.inv ai F);rcases gG i (gv l)with L|I
   ·rw[fX L];rcases gG i m with o|o
    ·exact ah i o
    ·exact b.md i o L
   ·rw[g2 (by omega)];exact b.tl i I K
  have b5:∀c,n[c]?=some true→∃p,l[c]?=some p:=λc z=>⟨_,dG (by have:=(o3.1 z).1;rw[b.kH]at this;exact this)⟩
  have bw:∀i,i<m→n[i]?≠some true→n[i]?=some false:=λi K aj=>by
   obtain⟨am,A⟩:∃am,n[i]?=some am:=⟨_,p0 (by rw[b.kH];omega)⟩
   cases am with
   |true=>exact absurd A aj
   |false=>exact A
  refine⟨λau=>?_,λi b7=>?_⟩
  ·by_cases q:∀i,i<m→n[i]?=some true
   ·have ct:k<gv l:=by
      rcases gG k (gv l)with L|I
      ·exact L
      ·exact absurd ⟨by omega,q⟩ az
    have bl:l[k]?=some l[k]:=dG (show k<l.length by omega);have:k∈Region.ready .any l.toArray n:=(zL b.kH).2 ⟨_,bl,b.tl k (bB _) (by omega),λy B A=>by
     have:=tr.back bl y B A;rcases gG y.on m with o|o
     ·exact q _ o
     ·exact b.md _ o this⟩
    rw[au]at this;cases this
   ·simp only[IH]at q;obtain⟨j,bi,bx⟩:=q;obtain⟨i,K⟩:=tr.nonempty b.kH (j+1) j (by omega) bi (bw j bi bx);rw[au]at K;cases K
  ·obtain ⟨s,w,ap,H⟩:=(zL b.kH).1 b7;have bg:i<n.size:=(o3.1 ap).1;have G:∀c,c≠i→(n.setIfInBounds i true)[c]?=n[c]?:=λc z=>ng (λE=>z E.symm)
   have ay:(n.setIfInBounds i true)[i]?=some true:=wE bg;have bc:∀(c:Nat) (p:Oper),(n.setIfInBounds i true)[c]?=some true→l[c]?=some p→∀y∈p.after.toList,Region.binds .any y=true→(n.setIfInBounds i true)[y.on]?=some true:=λc p z hp y B A=>by
    have bo:∀ak,n[ak]?=some true→(n.setIfInBounds i true)[ak]?=some true:=λak af=>by
     by_cases bq:ak=i
     ·subst bq;exact ay
     ·rw[G ak bq];exact af
    by_cases M:c=i
    ·subst M;rw[w]at hp;injection hp with hp;subst hp;exact bo _ (H y B A)
    ·rw[G c M]at z;exact bo _ (b.cl c p z hp y B A)
   have bd:=MC bg ap m;have cj:uI P l.toArray Q s a g (wpAny P .any l.toArray Q N (n.setIfInBounds i true)):=by
    rcases gG i m with aa|I
    ·
     have aj:n[i]?≠some true:=by rw[ap];simp
     have bn:=b.pn i aa aj;obtain⟨p,t,hp,bm,ar,cs⟩:=tr.idle aa bn;rw[w]at hp;injection hp with hp;subst hp;have af:jt X.T fz s=false:=by unfold jt;rw[bm]
     have cg:pF X.T fz s=false:=by unfold pF;rw[bm]
     have ch:=PO af (tr.step i s aa w).1 (h2:=h) (λa9=>by rw[cg]at a9;cases a9);have ck:=((tr.step i s aa w).2.2 t ar).1;refine zB ba bb ch b.inv (bf.ext b.ext) (λd C u x=>b.wm i s d C aa aj w u x) λan bv ad a1 a5 _=>?_
     rw[bO aa]at bd;have ab:∀c,(n.setIfInBounds i true)[c]?≠some true→c≠i∧n[c]?≠some true:=λc z=>by
      by_cases M:c=i
      ·subst M;exact absurd ay z
      ·rw[G c M]at z;exact⟨M,z⟩
     refine bu k e h _ _ an bj bk F ai ⟨by rw[ar];simp[Act.put,b.size],by rw[ar];simp[Act.put,b.defers],by simp[b.kH],bc,λc o h2=>by rw[G c (by omega)];exact b.tl c o h2,λc o h2=>by rw[G c (by omega)];exact b.md c o h2,λc o h2=>b.pn c o (ab c h2).2,b.ext.trans ad,a1,λd C a4 x=>?_,λf p d C q v hp u x=>?_,λf p d q v hp ag=>b.IB f p d q (ab f v).2 hp ag⟩ (by omega)
     ·by_cases D:s.dst=some d
      ·have av:=b.IB i s d aa aj w D;rw[x]at av;injection av with av;rw[av,D,P6 (by rw[ar]at D;injection D with D;subst D;rw[b.size];exact ck)];exact a5
      ·rw[zF D];refine(b.env d C (λf p q v hp=>?_) x).ext ad;by_cases br:f=i
       ·subst br;rw[w]at hp;injection hp with hp;subst hp;exact D
       ·exact a4 f p q (by rw[G f br];exact v) hp
     ·have bt:=ab f v;have b9:=b.pn f q bt.2;obtain⟨cw,cy,aq,_,_,b3⟩:=tr.idle q b9;rw[hp]at aq;injection aq with aq;subst aq;have a3:s.dst≠some d:=λE=>by
       have:=b3 d u i s aa w E;rw[bn]at this;cases this
      rw[zF a3];exact(b.wm f p d C q bt.2 hp u x).ext ad
    ·
     have b6:i=k:=by
      rcases sA i k with o|o|o
      ·have:=b.md i I o;rw[ap]at this;cases this
      ·exact o
      ·exfalso;have b8:=b.tl k (bB _) (by have:=(bR.1 w).1;omega);have:∃y∈s.after.toList,Region.binds .any y=true∧y.on=k:=by
        rcases gG i (gv l)with h2|h2
        ·rcases tr.O0 I h2 o w with B|⟨B,_⟩
         ·exact B
         ·omega
        ·exact tr.waits w o h2
       obtain⟨y,B,A,cp⟩:=this;have:=H y B A;rw[cp,b8]at this;cases this
     subst b6;have a0:i<gv l:=by
      rcases gG i (gv l)with o|o
      ·exact o
      ·exfalso;refine az ⟨by omega,λf q=>?_⟩;obtain⟨y,B,A,a7⟩:=tr.waits w (j:=f) (by omega) o;rw[← a7];exact H y B A
     have bh:i<l.length:=by omega
     have b2:l.drop i=s::l.drop (i+1):=by
      rw[hS bh];have:l[i]?=some l[i]:=dG bh;rw[w]at this;injection this with this;rw[← this]
     have cd:m4 X call nt fz hV l s e h (λac ao=>jx X call nt fz hV l (l.drop (i+1)) ac ao al)=some r:=by
      rw[b2]at F;cases a6:l.drop (i+1)with
      |nil=>rw[a6]at F;simpa only[jx]using F
      | cons p cx =>
       rw[a6]at F;simp only[jx]at F;have cf:l[i+1]?=some p:=by
        have:(l.drop (i+1))[0]?=some p:=by rw[a6];rfl
        simpa using this
       rw[tr.a2r I a0 w cf]at F;exact F
     obtain⟨C,ao,au,bz⟩:=Hd cd;have cq:∀f p d,f<m→n[f]?≠some true→l[f]?=some p→d∈looks l s→p.dst≠some d:=λf p d q v hp u ag=>by
      have A:=tr.Pr i f s p d a0 q w hp u ag;exact v (sK (S:=λc=>n[c]?=some true) b.cl (i+1) i f s (by omega) w H b5 A)
     have ca:(if i<m then 1 else 0)=0:=cC (by omega);rw[ca]at bd;refine zB ba bb au b.inv (bf.ext b.ext) (λd C u x=>b.env d C (λf p q v hp=>cq f p d q v hp u) x) λan bv ad a1 a5 _=>?_
     have ab:∀c,c<m→(n.setIfInBounds i true)[c]?=n[c]?:=λc z=>G c (by omega)
     have a8:∀ac,jx X call nt fz hV l (l.drop (i+1)) ac ao al=some r→(∀d,s.dst≠some d→eI ac d=eI e d)→(∀d,s.dst=some d→d<nt∧eI ac d=some C)→wpAny P .any l.toArray Q N (n.setIfInBounds i true) (a.put s.dst bv) an.w:=λac ci ae b0=>by
      refine bu (i+1) ac ao _ _ an (by omega) (by omega) ci (λd u=>?_) ⟨by cases z:s.dst<;>simp[Act.put,b.size],by cases z:s.dst<;>simp[Act.put,b.defers],by simp[b.kH],bc,λc o h2=>by rw[G c (by omega)];exact b.tl c (by omega) h2,λc o h2=>?_,λc o h2=>b.pn c o (by rw[← ab c o];exact h2),b.ext.trans ad,a1,λd aw a4 x=>?_,λf p d aw q v hp u x=>?_,λf p d q v hp ag=>?_⟩ (by omega)
      ·rw[ae d (λE=>u (by unfold iz;rw[mc];exact⟨s,eW w,E⟩))];exact ai d u
      ·by_cases M:c=i
       ·subst M;exact ay
       ·rw[G c M];exact b.md c o (by omega)
      ·by_cases D:s.dst=some d
       ·obtain⟨cn,cm⟩:=b0 d D;rw[cm]at x;injection x with x;rw[← x,D,P6 (by rw[b.size];exact cn)];exact a5
       ·rw[zF D];rw[ae d D]at x;exact(b.env d aw (λf p q v hp=>a4 f p q (by rw[ab f q];exact v) hp) x).ext ad
      ·rw [ab f q]at v;have a3:s.dst≠some d:=λE=>by
        rcases tr.O0 I a0 (show f<i by omega) w with⟨y,B,A,a7⟩|⟨_,B⟩
        ·have:=H y B A;rw[a7]at this;exact v this
        ·exact B p d hp E u
       rw[zF a3];exact(b.wm f p d aw q v hp u x).ext ad
      ·rw[ab f q]at v;rw[ae d λE=>by have:=tr.qn w hp E ag;omega];exact b.IB f p d q v hp ag
     rcases bz with⟨b1,ae⟩|⟨t,be,L,ae⟩
     ·exact a8 e ae (λ_ _=>rfl) (λd u=>by rw[b1]at u;cases u)
     ·refine a8 _ ae (λd u=>?_) (λd u=>?_)
      ·rw[lF,cC (λE=>u (by rw[be,E]))]
      ·rw[be]at u;injection u with u;subst u;exact⟨L,by rw[lF,bO rfl]⟩
   unfold wpOp;have cc:l.toArray[i]?=some s:=by simpa using w
   rw[cc];simp only[];rcases cj with⟨af,co⟩|⟨af,cb⟩
   ·rw[bO af];exact .inl co
   ·rw[cC (by simp[af])];exact cb
end
section
variable {P:Program} {X:Cx} {R:Type}
theorem T4(H:eL P X.T)(bl:P.follows .mixedOrders=true){call:fb}(ae:j4 P X call){nt:Nat}{fz hV:List Nat}{m:Nat}{l:List Oper}{e:DE}{h:J}{N:DE→J→Option R}{r:R}(B:oK X call nt fz hV m l e h N=some r)
  {Q:Exit→Act→World→Prop} {g:Gh} {a:Act} (hi:Inv g h) (af:jn g X.gl) (ah:jo nt g e a)
  (bn:∀e' h' g' y,N e' h'=some r→(∀t,t∉iz l→eI e' t=eI e t)→eA g g'→Inv g' h'→jo nt g' e' y→Q .normal y g'.w) {id:Nat}:(Code.region id l.toArray true).wp P Q a g.w:=by
 obtain⟨en,hp,va,HK,tr,i⟩:=T6 B;refine wp_region_any bl ?_;have C:=g.CQ;have b6:=tr.ml;have bc:oa P X nt fz l m e va HK g.draw (Array.replicate l.length false) 0 a g.draw:=by
  have A:∀b,(Array.replicate l.length false)[b]?≠some true:=λb hi=>by
   rw[Array.getElem?_replicate]at hi;split at hi<;>simp at hi
  have ao:∀b,(Array.replicate l.length false).getD b false=false:=λb=>by
   rw[gE,Array.getElem?_replicate];split<;>rfl
  refine⟨ah.size,ah.defers,by simp,λb j hi=>absurd hi (A b),λb hi=>absurd hi (A b),?_,eA.refl _,?_,λt ab _ B=>(ah.get t ab B).ext C,λb j t hi=>absurd hi (A b),λb j t hi=>absurd hi (A b),λb aj j c t M hi=>absurd hi (A b)⟩
  ·have:(List.range m).filter (λb=>(Array.replicate l.length false).getD b false)=[]:=by
     rw[xa];intro b _;rw[ao];simp
   rw[this];rfl
  ·have:((List.range m).filter (fE X.T fz l)).filter (λb=>(Array.replicate l.length false).getD b false)=[]:=by
     rw[xa];intro b _;rw[ao];simp
   rw[this];simp only[e6,tr.Oo];exact Gh.M1 hi
 have:=Ww tr H ae (af.ext C) (Q:=Q) (λa1 v b1 y g' k al b5=>?_) l.length (Array.replicate l.length false) 0 a g.draw bc (by omega)
 ·rw[xb];exact this
 ·have K:∀b,b<m→v[b]?≠some true→mn m l b=true:=λb hi D=>by
    cases bj:mn m l b with
    |true=>rfl
    |false=>exact absurd (al b hi bj) D
  have av:∀(b:Nat) (j:Oper),b<m→l[b]?=some j→gm X.T fz j ≠ .pure→v[b]?=some true:=λb j hi s i=>by
   apply n4;intro D;obtain⟨c,t,o,I,_⟩:=tr.idle hi (K b hi D);rw[s]at o;injection o with o;subst o;exact i I
  have x:∀(d:Nat) (c:Oper),(l.take m)[d]?=some c→d<m∧l[d]?=some c:=λd c f=>by
   rw[gw]at f;split at f
   ·rename_i bk;exact⟨bk,f⟩
   ·cases f
  have ak:∀(d:Nat) (c:Oper),(l.take m)[d]?=some c→gm X.T fz c = .h3→v[d]?=some true:=λd c f i=>av d c (x d c f).1 (x d c f).2 (by rw[i];intro p;cases p)
  have bp:sC X.T fz g.draw g' y (l.take m):=⟨λd c t f i B=>k.Hg d c t (ak d c f i) (x d c f).2 i B,λd L c F t M f E i aq a9 ba D=>k.MW d L c F t M (ak d c f i) (ak L F E aq) (x d c f).2 (x L F E).2 i aq a9 ba D⟩
  have bf:Inv g' (hp m):=by
   have ac:(((List.range m).filter (fE X.T fz l)).filter λb=>v.getD b false)=(List.range m).filter (fE X.T fz l):=by
    rw[BP];intro b0 bv;obtain⟨z,q⟩:=kG.1 bv;simp at z;obtain⟨j,s⟩:=tr.get z;rw[gE,av b0 j z s (λi=>by unfold fE jt at q;rw[s]at q;simp only[i]at q;cases q)];rfl
   have:=k.inv;rw[ac,tr.vD m (bB _)]at this;exact this
  obtain⟨ac,z,a3,bh,bw,bb,be,ai,bm,ar⟩:=HS H (l.take m) (en m) (hp m) g' _ i k.ext bf (k.sat tr) bp;rw[← bw];have b3:=MB (λb=>v.getD b false) m;have b4:=k.xB;have b2:=tr.Ml;refine a1b tr H ae (af.ext C) (e0:=e) (r:=r) (λe' h' ay a2 an br bg bi bt=>?_) a1 m ac z v y a3 (bB _) tr.mM bh (λt w=>?_) ⟨ai.size,ai.defers,k.kH,k.cl,λb q G=>?_,λb q G=>by omega,K,bb,be,ai.get,λax c t ab u ad o w a8=>bm _ _ (k.wm tr u o (λaj bx M ap bq ag bu=>?_) t ab w a8),λax c t u ad o au=>?_⟩ (by omega)
  ·refine zU H ae (l.drop (gv l)) e' h' N bt a2 ay bg ((af.ext C).ext an) br λa0 q a4 az aw G a5 a6 a7=>bn a0 q a4 az aw (λt w=>?_) ((C.trans an).trans a5) a6 a7
   rw[G t (λp=>w ?_),bi t w];unfold iz at p ⊢;rw[mc]at p ⊢;obtain⟨c,bo,n⟩:=p;exact⟨c,fM bo,n⟩
  ·rw[ar t λj s _ p=>w (by unfold iz;rw[mc];exact⟨j,fG s,p⟩)];rw[tr.cL (t:=t) 0 m (mI _) (bB _) λd c aw L f ag=>w (by unfold iz;rw[mc];exact⟨c,eW f,ag⟩),tr.e0]
  ·obtain⟨aa,am⟩:∃aa,v[b]?=some aa:=⟨_,p0 (by rw[k.kH];exact G)⟩
   cases aa with
   |false=>exact am
   |true=>have:=k.main b am;omega
  ·obtain⟨F,bz,n,_,_,bd⟩:=tr.idle u (K ax u ad);rw[o]at n;injection n with n;subst n;exact al aj ap (bd M bu aj bx ap bq ag)
  ·rw[ar t λj s i p=>?_]
   ·exact tr.val u o au u (bB _)
   ·obtain⟨d,f⟩:=j7 s;obtain⟨b7,E⟩:=x d j f;have:=tr.qn E o p au;subst this;obtain⟨F,bz,n,I,_⟩:=tr.idle u (K _ u ad);rw[E]at n;injection n with n;subst n;rw[i]at I;cases I
end
def cv:Ex→Exit
 |.aQ =>.normal
 |.ext i =>.exit i
 |.ret =>.ret
def sE(b:List Nat)(c:Code)(e e':DE):Prop:=∀a,a∈b→a∉iA c→eI e' a=eI e a
def iP:Nat→nq
 |0,_,_,_=>none
 | n+1,a,ds,h=>(a ds h).bind λr=>match r.1 with
  |.aQ=>iP n a r.2.1 r.2.2
  |x=>some (x,r.2.1,r.2.2)
def B2(e:nq):Prop:=∀a b c d,e a b c=some d→∃f,iP f a b c=some d
theorem zl{e:DE}:∀{b:List Nat} {t:Nat} {d:D},eI (qO e b) t=some d→t∈b∧eI e t=some d
 |[],t,d,h=>by cases h
 | u::r,t,d,h=>by
  simp only[qO]at h;split at h
  ·rename_i x f;rw[lF]at h;split at h
   ·rename_i c;subst c;injection h with h;subst h;exact⟨k0 ..,f⟩
   ·obtain⟨a,h2⟩:=zl h;exact⟨kF _ a,h2⟩
  ·obtain⟨a,h2⟩:=zl h;exact⟨kF _ a,h2⟩
theorem zm{e:DE}:∀{f:List Nat} {t:Nat},t∈f→eI (qO e f) t=eI e t
 |[],t,h=>by cases h
 | u::r,t,h=>by
  simp only[qO];by_cases b:u=t
  ·subst b;split
   ·rename_i x c;rw[lF,bO rfl,c]
   ·rename_i c;by_cases a:u∈r
    ·exact zm a
    ·rw[c];cases g:eI (qO e r) u with
     |none=>rfl
     |some d=>exact absurd (zl g).1 a
  ·have a:t∈r:=by
     rcases fc.1 h with h|h
     ·exact absurd h.symm b
     ·exact h
   split
   ·rw[lF,cC b];exact zm a
   ·exact zm a
theorem Pl{e' c:DE}:∀{b:List Nat} {t:Nat} {d:D},eI (kW b (lf e' b) c) t=some d→(t∈b∧(eI e' t=some d∨d = .any))∨eI c t=some d
 |[],t,d,h =>.inr h
 | u::r,t,d,h=>by
  simp only[lf,kW,yW,Al]at h;rw[lF]at h;split at h
  ·rename_i f;subst f;injection h with h;refine .inl ⟨k0 ..,?_⟩;cases e:eI e' u with
   |none=>rw[e]at h;exact .inr h.symm
   |some x=>rw[e]at h;exact .inl (by rw[← h])
  ·rcases Pl h with⟨a,h2⟩|a
   ·exact .inl ⟨kF _ a,h2⟩
   ·exact .inr a
theorem Pm:∀{b:List Nat} {ds:List D} {a:DE} {t:Nat},t∉b→eI (kW b ds a) t=eI a t
 |[],_,_,_,_=>rfl
 | u::r,ds,a,t,h=>by
  simp only[kW];rw[fc,not_or]at h;rw[lF,cC (λc=>h.1 c.symm)];exact Pm h.2
theorem a2e{a:List Nat}{c:Code}{t:Nat}:t∈kv a c↔t∈a∧t∈iA c:=by
 unfold kv;rw[kG,pQ]
theorem Pw{b:List Nat}{c:Code}{t:Nat}:t∈b.filter (λt => !(mu t (iA c)))↔t∈b∧t∉iA c:=by
 rw[kG];cases a:mu t (iA c)with
 |true=>simp[pQ.1 a]
 | false =>
  have:t∉iA c:=λd=>by rw[pQ.2 d]at a;cases a
  simp[this]
theorem tt{k:Nat}{f:List Nat}{c:Code}{e e':DE}{g:Gh}{a:Act}(p:sE f c e e')(d:jo k g e' a):jo k g (kW (kv f c) (lf e' (kv f c)) (qN f c e)) a:=
 ⟨d.size,d.defers,λh i o=>by
  rcases Pl o with⟨j,b⟩|j
  ·rcases b with b|rfl
   ·exact d.get h i b
   ·exact .any _
  ·obtain⟨b,l⟩:=zl j;obtain⟨m,n⟩:=Pw.1 b;exact d.get h i (by rw[p h m n];exact l)⟩
theorem vL{a:List Nat}{c:Code}{e:DE}{ds:List D}:sE a c e (kW (kv a c) ds (qN a c e)):=λg d b=>by
 rw[Pm (λf=>b (a2e.1 f).2)];exact zm (Pw.2 ⟨d,b⟩)
section
variable {P:Program} {X:Cx}
theorem MP{R:Type}{d:D}{x y:Option R}{r:R}(h:S d x y=some r):∃b,d = .bool b∧(if b then x else y)=some r:=by
 unfold S at h;split at h
 ·exact⟨true,rfl,h⟩
 ·exact⟨false,rfl,h⟩
 ·cases h
theorem M4{l:List Oper}{id:Nat}{a:Bool}:iA (.region id l.toArray a)=iz l:=by simp[iA,iz]
theorem SI (a0:eL P X.T) (bc:P.follows .mixedOrders=true) {am:fb} (a1:j4 P X am) {loop:nq} (bb:B2 loop) {A:ug}:∀(c:Code) (e:DE) (h:J) (R:Type) (s:Ex→DE→J→Option R) (r:R),cK X am loop A c e h R s=some r →
  ∀(Q:Exit→Act→World→Prop) (g:Gh) (a:Act),Inv g h→jn g X.gl→jo A.nt g e a→(∀x e' h' g' L,s x e' h'=some r→sE A.cL c e e'→eA g g'→Inv g' h'→jo A.nt g' e' L→Q (cv x) L g'.w)→c.wp P Q a g.w:=by
 intro c
 induction c with
 |skip=>intro e h R s r b Q g a n q m k;exact wp_skip (k .aQ e h g a b (λ_ _ _=>rfl) (eA.refl g) n m)
 |label ax=>intro e h R s r b Q g a n q m k;exact wp_label (k .aQ e h g a b (λ_ _ _=>rfl) (eA.refl g) n m)
 |ret=>intro e h R s r b Q g a n q m k;exact wp_ret (k .ret e h g a b (λ_ _ _=>rfl) (eA.refl g) n m)
 |exit G=>intro e h R s r b Q g a n q m k;exact wp_exit (k (.ext G) e h g a b (λ_ _ _=>rfl) (eA.refl g) n m)
 |goto ax=>intro e h R s r b;simp[cK]at b
 |scope w ag=>intro e h R s r b;simp[cK]at b
 |refuse a4=>intro e h R s r b;simp[cK]at b
 |rangeFunc bo br bn w bp bq=>intro e h R s r b;simp[cK]at b
 | region id bl a5 =>
  intro e h R s r b Q g a n q m k;obtain⟨ax⟩:=bl;simp only[cK]at b;cases a5 with
  | false =>
   refine wp_region_lit (zU a0 a1 ax e h (s .aQ) b g a n q m λe' h' g' L d l ap aq ar=>?_);exact k .aQ e' h' g' L d (λf _ C=>l f (by rw[M4]at C;exact C)) ap aq ar
  | true =>
   exact T4 a0 bc a1 b n q m λe' h' g' L d l ap aq ar=>k .aQ e' h' g' L d (λf _ C=>l f (by rw[M4]at C;exact C)) ap aq ar
 | seq x N aj ak =>
  intro e h R s r b Q g a n q m k;simp only[cK]at b;refine wp_seq (aj e h R _ r b _ g a n q m λa6 o d j i av bg E t u=>?_);have aw:∀f,f∈A.cL→f∉iA (.seq x N)→eI o f=eI e f:=λf d l=>bg f d (λF=>l (by simp[iA,F]))
  cases a6 with
  | aQ =>
   refine ak o d R s r av Q j i t (q.ext E) u λay ao l ab ah ba ae a9 ac af=>k ay ao l ab ah ba (λf d l=>?_) (E.trans a9) ac af
   rw[ae f d (λF=>l (by simp[iA,F])),aw f d l]
  |ext G=>exact k (.ext G) o d j i av aw E t u
  |ret=>exact k .ret o d j i av aw E t u
 | cond H x N aj ak =>
  intro e h R s r b Q g a n q m k;simp only[cK]at b;split at b
  ·cases b
  rename_i an a8;have ai:aV g (a.eval H) an:=C0 q (λf an _ C=>m.get f an C) a8;split at b
  ·
   obtain⟨K,ad,b⟩:=kq.1 b;obtain⟨w,rfl,I⟩:=MP ad;have D:a.eval H = .bool w:=by
    generalize bh:a.eval H=bm at ai;cases ai;rfl
   have a3:∀(az:Code) (y:Ex) (o:DE) (d:J) (j:Gh) (i:Act),(∀f,f∈iA az→f∈iA (.cond H x N))→some (y,lf o (kv A.cL (.cond H x N)),d)=some K→sE A.cL az e o→eA g j→Inv j d→jo A.nt j o i→Q (cv y) i j.w:=λaz y o d j i bi p z v t u=>by
    injection p with p;subst p;have bf:sE A.cL (.cond H x N) e o:=λf d l=>z f d (λF=>l (bi f F))
    exact k y _ d j i b vL v t (tt bf u)
   cases w with
   |true=>exact wp_cond_true D (aj e h bK _ K I Q g a n q m λy o d j i p z v t u=>a3 x y o d j i (λf C=>by simp[iA,C]) p z v t u)
   |false=>exact wp_cond_false D (ak e h bK _ K I Q g a n q m λy o d j i p z v t u=>a3 N y o d j i (λf C=>by simp[iA,C]) p z v t u)
  ·obtain⟨w,rfl,I⟩:=MP b;have D:a.eval H = .bool w:=by
    generalize bh:a.eval H=bm at ai;cases ai;rfl
   cases w with
   |true=>exact wp_cond_true D (aj e h R s r I Q g a n q m λy o d j i p z v t u=>k y o d j i p (λf d l=>z f d (λF=>l (by simp[iA,F]))) v t u)
   |false=>exact wp_cond_false D (ak e h R s r I Q g a n q m λy o d j i p z v t u=>k y o d j i p (λf d l=>z f d (λF=>l (by simp[iA,F]))) v t u)
 | block id w ag =>
  intro e h R s r b Q g a n q m k;simp only[cK]at b;have a2:∀(x:Ex) (i:Act) (al:World),Q (cv (bX id x)) i al→Exit.inBlock id Q (cv x) i al:=λx i al D=>by
   cases x with
   |aQ=>exact D
   |ret=>exact D
   | ext G =>
    simp only[cv,Exit.inBlock];by_cases au:G=id
    ·subst au;rw[bO rfl];simpa[bX,cv]using D
    ·rw[cC au];have:Nat.beq G id=false:=by
      cases I:Nat.beq G id with
      |false=>rfl
      |true=>exact absurd (kI I) au
     simpa[bX,this,cv]using D
  split at b
  ·obtain⟨K,ad,b⟩:=kq.1 b;refine wp_block (ag e h bK _ K ad _ g a n q m λy o d j i p z v t u=>a2 _ _ _ ?_);injection p with p;subst p;exact k (bX id y) _ d j i b vL v t (tt z u)
  ·exact wp_block (ag e h R _ r b _ g a n q m λy o d j i p z v t u=>a2 _ _ _ (k (bX id y) o d j i p z v t u))
 | loop w ag =>
  intro e h R s r b Q g a n q m k;simp only[cK]at b;obtain⟨K,ad,b⟩:=kq.1 b;obtain⟨bj,bd⟩:=bb _ _ _ _ ad;refine wp_loop_ghost (λM a a4=>∃aa h' g',a4=g'.w∧eA g g'∧Inv g' h'∧jo A.nt g' (kW (kv A.cL w) aa (qN A.cL w e)) a∧iP M (λaa h'=>cK X am loop A w (kW (kv A.cL w) aa (qN A.cL w e)) h' bK λx e' a7=>some (x,lf e' (kv A.cL w),a7)) aa h'=some K) bj
   ⟨_,h,g,rfl,eA.refl g,n,tt (e':=e) (λ_ _ _=>rfl) m,bd⟩ ?_
  rintro M i al ⟨aa,d,j,rfl,E,t,u,B⟩;cases M with
  |zero=>cases B
  | succ M =>
   simp only[iP]at B;obtain⟨bk,be,B⟩:=kq.1 B;refine ag _ d bK _ bk be _ j i t (q.ext E) u λay ao l ab ah p z v ac af=>?_
   injection p with p;subst p;simp only at B;have ae:sE A.cL w e ao:=λf d l=>by
    rw[z f d l];exact vL f d l
   cases ay with
   |aQ=>exact⟨M,LI M,_,l,ab,rfl,E.trans v,ac,tt ae af,B⟩
   | ext G =>
    injection B with B;subst B;exact k (.ext G) _ l ab ah b vL (E.trans v) ac (tt ae af)
   | ret =>
    injection B with B;subst B;exact k .ret _ l ab ah b vL (E.trans v) ac (tt ae af)
end
inductive Ok (n:Nat):D→Prop
 |any:Ok n .any
 |bA:Ok n .bA
 |bool (b):Ok n (.bool b)
 |int (k i):Ok n (.int k i)
 |str (s):Ok n (.str s)
 |jv:Ok n .jv
 |ptr (o i off) (h:o<n):Ok n (.ptr o i off)
 |aE (cs) (h:∀d∈cs,Ok n d):Ok n (.aE cs)
 |aA:Ok n .aA
 |sl (V full rows) (h:∀row∈rows,∀d∈row,Ok n d):Ok n (.sl V full rows)
 |aZ (V o r k) (h:o<n):Ok n (.aZ V o r k)
 |k8:Ok n .k8
 |fn (f a b) (ha:∀d∈a,Ok n d) (hb:∀d∈b,Ok n d):Ok n (.fn f a b)
 |m3:Ok n .m3
 |iface (t d) (h:Ok n d):Ok n (.iface t d)
 |agg (cs) (h:∀d∈cs,Ok n d):Ok n (.agg cs)
 |bD (ds) (h:∀d∈ds,Ok n d):Ok n (.bD ds)
theorem rP{α:Type}{l:List α}{x:α}(h:x∈l):∃i:Nat,l[i]?=some x:=j7 h
theorem aV.okd{g:Gh}{v:Value}{d:D}(h:aV g v d):Ok g.ms.length d:=by
 induction h with
 |any v=>exact .any
 |bA=>exact .bA
 |bool m=>exact .bool m
 |int C l=>exact .int C l
 |str G=>exact .str G
 |jv=>exact .jv
 |ptr q p ad E j=>exact .ptr _ _ _ (bR.1 j).1
 | aE m q s f u o n k e =>
  refine .aE _ λd c=>?_
  obtain⟨b,a⟩:=rP c;exact e b d a
 |aA=>exact .aA
 | sl K l r ai P ah y aa t R ac ab Q f o n k e =>
  refine .sl _ _ _ λF z d c=>?_
  obtain⟨p,w⟩:=rP z;obtain⟨b,a⟩:=rP c;exact e p F w b d a
 |aZ q ae l r E j y X T t=>exact .aZ _ _ _ _ (bR.1 j).1
 |k8=>exact .k8
 | fn N first L I H u o ag af B A =>
  refine .fn _ _ _ (λd c=>?_) (λd c=>?_)
  ·obtain⟨b,a⟩:=rP c;have i:=(bR.1 a).1;exact B b _ d (dG (show b<I.length by omega)) a
  ·obtain⟨b,a⟩:=rP c;have i:=(bR.1 a).1;exact A b _ d (dG (show b<H.length by omega)) a
 |m3=>exact .m3
 |iface aj v d h e=>exact .iface _ _ e
 | agg f s x n k e =>
  refine .agg _ λd c=>?_
  obtain⟨b,a⟩:=rP c;have i:=(bR.1 a).1;exact e b _ d (dG (show b<f.length by omega)) a
 | bD f M x k e =>
  refine .bD _ λd c=>?_
  obtain⟨b,a⟩:=rP c;have i:=(bR.1 a).1;exact e b _ d (dG (show b<f.length by omega)) a
theorem aV.cut{g g':Gh}(F:g'.w=g.w){n:Nat}(I:∀(o:Nat) (m:Me),o<n→g.ms[o]?=some m→g'.ms[o]?=some m)(T:∀b,g'.L b→g.L b){v:Value}{d:D}(h:aV g v d)(a:Ok n d):aV g' v d:=by
 have H:∀b,g.fz b→g'.fz b:=λb r=>⟨by rw[F];exact r.1,λab=>r.2 (T b ab)⟩
 induction h with
 |any v=>exact .any v
 |bA=>exact .bA
 |bool b=>exact .bool b
 |int aj n=>exact .int aj n
 |str an=>exact .str an
 |jv=>exact .jv
 | ptr o q ak m C =>
  cases a with
  |ptr _ _ _ B=>exact .ptr o q ak m (I o m B C)
 | aE b o x k z l e E j =>
  cases a with
  |aE _ a=>exact .aE b o x k (λp=>H _ (z p)) (λc d i=>by rw[F];exact l c d i) e (λc d i=>j c d i (a d (eW i)))
 |aA=>exact .aA
 | sl M n u ao R am p ae y aa ag af G k l e E j =>
  cases a with
  |sl _ _ _ a=>exact .sl M n u ao R am p ae y aa ag af (λK=>⟨(G K).1,H _ (G K).2⟩) k (λq t s c d i=>by rw[F];exact l q t s c d i) e (λq t s c d i=>j q t s c d i (a t (eW s) d (eW i)))
 | aZ o al n u m C p ad ac y =>
  cases a with
  |aZ _ _ _ _ B=>exact .aZ o al n u m (I o m B C) p ad ac y
 |k8=>exact .k8
 | fn Q first N ar aq z l av au ai ah =>
  cases a with
  |fn _ _ _ X r=>exact .fn Q first N ar aq z l (λc v d e f=>ai c v d e f (X d (eW f))) (λc v d e f=>ah c v d e f (r d (eW f)))
 |m3=>exact .m3
 | iface ap v d h j =>
  cases a with
  |iface _ _ a=>exact .iface ap v d (j a)
 | agg k x A e E j =>
  cases a with
  |agg _ a=>exact .agg k x A e (λc v d e f=>j c v d e f (a d (eW f)))
 | bD k P A E j =>
  cases a with
  |bD _ a=>exact .bD k P A (λc v d e f=>j c v d e f (a d (eW f)))
section
variable {P:Program} {X:Cx}
def RM(a h2:J)(d:D):Prop:=Ok a.length d∧∀(b e f:Nat) (c:List (List D)),b<a.length→h2[b]?=some (.row e f c)→a[b]?=some (.row e f c)∨∀g∈c,∀d∈g,Ok a.length d
noncomputable def scope(a h2:J)(d:D):Option (D × J):=dY (RM a h2 (cS a.length h2 4 d)) (some (cS a.length h2 4 d,h2.take a.length))
theorem a4K{l c:Gh}{i h2 h':J}{v:Value}{d d':D}(x:Inv l i)(k:eA l c)(s:Inv c h2)(ah:aV c v d)(t:scope i h2 d=some (d',h')):∃g',g'.w=c.w∧eA l g'∧Inv g' h'∧aV g' v d':=by
 unfold scope dY at t;split at t
 case isFalse=>cases t
 rename_i M;injection t with t;injection t with z A;subst z;subst A;have av:l.ms.length≤c.ms.length:=by
  rcases ot l.ms.length with ax|aw
  ·omega
  ·have o:l.ms.length - 1<l.ms.length:=by omega
   have:=k.ms _ _ (dG o);have:=(bR.1 this).1;omega
 have au:∀(a:Nat) (b:Me),a<i.length→c.ms[a]?=some b→l.ms[a]?=some b:=λa b h e=>by
  have o:a<l.ms.length:=by rw[x.len];exact h
  have N:=dG o;have:=k.ms _ _ N;rw[e]at this;rw[N,← this]
 let K:Nat→Prop:=λf=>c.L f∧((∃(a:Nat) (b:Me),a<i.length∧c.ms[a]?=some b∧b.b=f∧∃p r q,h2[a]?=some (.row p r q))∨∀(a:Nat) (b:Me),c.ms[a]?=some b→b.b≠f)
 let g1:Gh:=⟨c.w,c.ms,K⟩
 let g':Gh:=⟨c.w,c.ms.take i.length,K⟩
 have ai:aV g1 v (cS i.length h2 4 d):=DY (g:=c) (g1:=g1) (n0:=i.length) s rfl rfl (λf j=>j) 4 v d ah;have u:∀(a:Nat) (b:Me),a<i.length→g1.ms[a]?=some b→g'.ms[a]?=some b:=λa b h e=>by
  show(c.ms.take i.length)[a]?=some b;rw[gw,bO h];exact e
 have ab:∀{v d},aV c v d→Ok i.length d→aV g' v d:=λ{v d} ak ae=>aV.cut (g:=c) (g':=g') rfl (n:=i.length) (λa b h e=>u a b h e) (λf j=>j.1) ak ae
 have y:∀{a:Nat} {b:Me},g'.ms[a]?=some b→c.ms[a]?=some b:=λ{a b} e=>by
  have:(c.ms.take i.length)[a]?=some b:=e;rw[gw]at this;split at this
  ·exact this
  ·cases this
 have ac:eA l g':=⟨⟨k.os,k.tape,k.output,k.size,λa b e=>u a b (by rw[← x.len];exact(bR.1 e).1) (k.ms a b e),λf j=>⟨⟨(k.fz f j).1.1,λad=>(k.fz f j).1.2 ad.1⟩,(k.fz f j).2⟩⟩,
  λf j=>⟨⟨(k.eY f j).1.1,⟨(k.eY f j).1.2.1,.inr (k.eY f j).1.2.2⟩,λa b e=>(k.eY f j).1.2.2 a b (y e)⟩,(k.eY f j).2⟩⟩
 have F:∀{a:Nat} {H:Ob},(h2.take i.length)[a]?=some H→a<i.length∧h2[a]?=some H:=λ{a H} h=>by
  rw[gw]at h;split at h
  ·rename_i o;exact⟨o,h⟩
  ·cases h
 refine⟨g',rfl,ac,⟨?_,λa p r q h=>?_,λa an p r R ap q ao b am z A X B C=>?_,λf j=>?_,λa b e=>s.msb a b (y e)⟩,aV.cut (g:=g1) (g':=g') rfl (n:=i.length) (λa b h e=>u a b h e) (λf j=>j) ai M.1⟩
 ·show(c.ms.take i.length).length=(h2.take i.length).length;simp[s.len]
 ·obtain⟨o,h⟩:=F h;obtain⟨b,T,e,m⟩:=s.live a p r q h;refine⟨b,T,u a b o e,m.iv,m.kt,m.pos,⟨m.hL,.inl ⟨a,b,o,e,rfl,p,r,q,h⟩⟩,m.len,m.le,m.room,m.row,λP I G Q d E=>?_⟩;obtain⟨v,B,C,aa⟩:=m.cell P I G Q d E;refine⟨v,B,C,ab aa ?_⟩;rcases M.2 a p r q o h with aj|ag
  ·obtain⟨ay,aq,ar,af⟩:=x.live a p r q aj;obtain⟨az,_,_,al⟩:=af.cell P I G Q d E;have:=al.okd
   rwa [x.len]at this
  ·exact ag I (eW G) d (eW E)
 ·exact s.inj a an p r R ap q ao b am (F z).2 (F A).2 (y X) (y B) C
 ·exact s.L f j.1
structure jR where
 body:Code
 res:List ResultVar
 A:ug
 sc:Bool
def kN(X:Cx)(h:J)(e:DE):List ResultVar→Option (List D)
 |[]=>some []
 |.tmp t::r=>(eI e t).bind λd=>(kN X h e r).bind λds=>some (d::ds)
 |.cell t ty::r=>(eI e t).bind λp=>(Y X.T h ty p).bind λd=>(kN X h e r).bind λds=>some (d::ds)
def aF:List D→D
 |[d]=>d
 |ds =>.bD ds
noncomputable def nL(X:Cx)(d:fb)(f:nq)(a:jR)(args:List D)(h:J):Option (D × J):=
 (match Nat.ble args.length a.A.nt with
 |true=>cK X d f a.A a.body (kW (List.range args.length) args []) h (D × J) λg e b=>dC g ((kN X b e a.res).bind λc=>match a.sc with
   |true=>scope h b (aF c)
   |false=>some (aF c,b))
 |false=>none)
structure bV (P:Program) (f:FuncId) (fi:jR):Prop where
 body:∃fn,P.funcs[f]?=some fn∧fn.body=some fi.body∧fn.ntmps=fi.A.nt∧fn.results.toList=fi.res
 enter:∀(as0:Array Value) (w:World),(callFunc f as0).run P w = .ok (.enter f as0) w
theorem Hr(n:eL P X.T){g:Gh}{h:J}(hi:Inv g h){C:Nat}{e:DE}{a:Act}(j:jo C g e a):∀(v:List ResultVar) (ds:List D),kN X h e v=some ds→∃vs,(v.mapM (zP a.tmps)).run P g.w = .ok vs g.w∧dP g vs ds
 | [],ds,b=>by
  simp only[kN,mJ]at b;subst b;exact⟨[],by simp,.nil⟩
 | .tmp t::r,ds,b=>by
  simp only[kN]at b;obtain⟨d,l,b⟩:=kq.1 b;obtain⟨k,m,b⟩:=kq.1 b;injection b with b;subst b;obtain⟨vs,o,p⟩:=Hr n hi j r k m;have f:=j.get t d l;exact⟨a.tmps.getD t undef::vs,by simp[zP,o],.cons f p⟩
 | .cell t F::r,ds,b=>by
  simp only[kN]at b;obtain⟨E,l,b⟩:=kq.1 b;obtain⟨d,c,b⟩:=kq.1 b;obtain⟨k,m,b⟩:=kq.1 b;injection b with b;subst b;obtain⟨vs,o,p⟩:=Hr n hi j r k m;have f:=j.get t E l;obtain⟨x,s,A⟩:=MR n hi f c;have z:∃i,a.tmps.getD t undef = .pointer (some i):=by
   unfold Y at c;split at c
   ·split at c
    ·obtain⟨G,H,vs,u,_⟩:=f.yQ;exact⟨_,u⟩
    ·generalize u:a.tmps.getD t undef=I at f;cases f;exact⟨_,rfl⟩
    ·cases c
   ·cases c
  obtain⟨i,q⟩:=z;rw[q]at s;have B:(loadVar F i).run P g.w = .ok x g.w:=by simpa[Instr.loadAt,Instr.sureAddr]using s
  have y:a.tmps[t]?.getD undef = .pointer (some i):=by rw[← q,gE]
  exact⟨x::vs,by simp[zP,y,asAddr,B,o],.cons A p⟩
theorem Qe(o:eL P X.T){g:Gh}{h:J}(hi:Inv g h){r:Nat}{e:DE}{a:Act}(q:jo r g e a){b:Func}{ds:List D}(p:kN X h e b.results.toList=some ds):∃v,(results b a.tmps).run P g.w = .ok v g.w∧aV g v (aF ds):=by
 obtain⟨f,j,k⟩:=Hr o hi q _ _ p;obtain⟨d,l⟩:∃d,b.results.toList=d:=⟨_,rfl⟩
 have n:b.results=d.toArray:=by rw[← l]
 rw[l]at j;refine⟨if s:f.toArray.size=1 then f.toArray[0]else .tuple f.toArray,?_,?_⟩
 ·rw[a2N,n,List.mapM_toArray];simp only[ir,Sem.run_map,j,iM,ka]
 ·have t:=k.length;cases k with
  | nil =>
   rw[dif_neg (by simp)];exact .zp .nil
  | cons i c =>
   cases c with
   |nil=>simpa[aF]using i
   | cons m c =>
    rw[dif_neg (by simp)];exact .zp (.cons i (.cons m c))
theorem Y4 (r:eL P X.T) (ah:P.follows .mixedOrders=true) {B:fb} (R:j4 P X B) {M:nq} (ag:B2 M) {f:FuncId} {c:jR} (ab:bV P f c) {args:List D} {h h':J} {d:D} (o:nL X B M c args h=some (d,h'))
  {g:Gh} {vs:List Value} (hi:Inv g h) (ad:jn g X.gl) (K:dP g vs args):n2 P f vs.toArray g.w λv w'=>∃g',g'.w=w'∧eA g g'∧Inv g' h'∧aV g' v d:=by
 obtain⟨E,ac,Q,ai,L⟩:=ab.body;unfold nL at o;split at o
 case h_2=>cases o
 rename_i I;have I:=fQ I;have aw:=K.length;refine calls_of_wp ac Q (SI r ah R ag c.body _ h _ _ (d,h') o _ g _ hi ad ⟨by simp[ai];omega,rfl,λy m am=>?_⟩ λm j b n A s av F p u=>?_)
 ·
  have ao:∀(l:List Nat) (a:List D),l.length=a.length→eI (kW l a []) y=some m→∃e:Nat,l[e]?=some y∧a[e]?=some m:=by
   intro l
   induction l with
   |nil=>intro a _ h;cases h
   | cons z ax an =>
    intro a H h;cases a with
    |nil=>cases H
    | cons d a =>
     simp only[kW,yW,Al]at h;rw[lF]at h;split at h
     ·rename_i ak;injection h with h;exact⟨0,by simp[ak],by simp[h]⟩
     ·obtain⟨e,q,b⟩:=an a (by simpa using H) h;exact⟨e+1,by simpa using q,by simpa using b⟩
  obtain⟨e,q,b⟩:=ao _ _ (by simp) am;have af:e=y:=by
   have:=(bR.1 q).2;simpa using this
  subst af;have au:=(bR.1 b).1;have G:vs[e]?=some (vs[e]'(by omega)):=dG (by omega);have:(vs.toArray++Array.replicate (E.ntmps - vs.toArray.size) undef).getD e undef=vs[e]'(by omega):=by
   rw[gE,IE (by simp;omega)];simp[G]
  rw[this];exact K.get e _ m G b
 ·have C:(match c.sc with|true=>(kN X b j c.res).bind λa=>scope h b (aF a)|false=>(kN X b j c.res).bind λa=>some (aF a,b))=some (d,h')→A.defers=[]∧∃v,(results E A.tmps).run P n.w = .ok v n.w∧∃z,Ending.returned v = .returned z∧∃g',g'.w=n.w∧eA g g'∧Inv g' h'∧aV g' z d:=λi=>by
    refine⟨u.defers,?_⟩;split at i
    ·obtain⟨a,k,i⟩:=kq.1 i;rw[← L]at k;obtain⟨v,x,t⟩:=Qe r p u k;obtain⟨g',al,aa,ae,aj⟩:=a4K hi F p t i;exact⟨v,x,v,rfl,g',al,aa,ae,aj⟩
    ·obtain⟨a,k,i⟩:=kq.1 i;rw[← L]at k;obtain⟨v,x,t⟩:=Qe r p u k;injection i with i;injection i with ap aq;subst ap;subst aq;exact⟨v,x,v,rfl,n,rfl,F,p,t⟩
  have N:(match c.sc with|true=>(kN X b j c.res).bind λa=>scope h b (aF a)|false=>(kN X b j c.res).bind λa=>some (aF a,b))=(kN X b j c.res).bind λa=>match c.sc with|true=>scope h b (aF a)|false=>some (aF a,b):=by
   cases c.sc<;>rfl
  cases m with
  |ext e=>cases s
  |aQ=>exact C (by rw[N];exact s)
  |ret=>exact C (by rw[N];exact s)
end
end Go.Pi

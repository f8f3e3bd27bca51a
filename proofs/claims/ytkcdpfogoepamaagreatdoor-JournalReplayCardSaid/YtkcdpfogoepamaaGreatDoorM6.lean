/- Part 6 of the texts that the theorem needs: an interpreter on data, proved sound; the functions on data; laws about them. -/
import Derived.Test.YtkcdpfogoepamaaGreatDoorM5
set_option linter.unusedSimpArgs false
set_option linter.unusedVariables false
set_option linter.unnecessarySimpa false
set_option maxRecDepth 100000
namespace Go.Eng
abbrev BH:=@Int.pow_succ
abbrev Lv:=@Int.tmod_eq_emod_of_nonneg
end Go.Eng
namespace Go.Proofs.YtkcdpfogoepamaaGreatDoor
open Go.Eng Go.Pi
open Option renaming bind_some → a7N
theorem P7:∀(k a:Nat) (r:List Int),r.length≤k→r.length≤a→nU k r=nU a r
 |0,0,r,_,_=>rfl
 | 0,a+1,r,h,_=>by
  unfold nU;rw[bO (.inl (by omega))]
 | k+1,0,r,_,h=>by
  unfold nU;rw[bO (.inl (by omega))]
 | k+1,a+1,r,h,h'=>by
  unfold nU;split
  ·rfl
  ·rename_i d;have b:(r.drop (8+(num (r.take 4)).toNat)).length≤k:=by rw[gK];omega
   have c:(r.drop (8+(num (r.take 4)).toNat)).length≤a:=by rw[gK];omega
   rw[P7 k a _ b c]
def rd(r:List Int):List (List Int) × Nat:=nU r.length r
def Stop(r:List Int):Prop:=r.length<8∨(num (r.take 4)).toNat<1∨8388608<(num (r.take 4)).toNat∨r.length - 8<(num (r.take 4)).toNat∨num ((r.drop 4).take 4)≠jr (r.take 4++(r.drop 8).take (num (r.take 4)).toNat)
theorem qL{r:List Int}(h:Stop r):rd r=([],0):=by
 unfold rd;cases a:r.length with
 |zero=>rfl
 | succ b =>
  unfold nU;unfold Stop at h;rw[bO h]
theorem wc{r:List Int}(h:¬Stop r):rd r=((r.drop 8).take (num (r.take 4)).toNat::(rd (r.drop (8+(num (r.take 4)).toNat))).1,8+(num (r.take 4)).toNat+(rd (r.drop (8+(num (r.take 4)).toNat))).2):=by
 have e:¬r.length<8:=λb=>h (.inl b)
 obtain⟨a,c⟩:∃a,r.length=a+1:=⟨r.length - 1,by omega⟩
 have:rd r=nU (a+1) r:=by unfold rd;rw[c]
 rw[this];unfold nU;unfold Stop at h;rw[cC h];have d:(r.drop (8+(num (r.take 4)).toNat)).length≤a:=by rw[gK];omega
 rw[P7 a _ _ d (bB _)];rfl
def pU(p:List Int):List Int:=fh p.length++fh (jr (fh p.length++p))++p
def kK(a:List (List Int)):List Int:=(a.map pU).flatten
def uG(p:List Int):Prop:=1≤p.length∧p.length≤8388608∧∀a∈p,U8 a
theorem a2J(p:List Int):(pU p).length=8+p.length:=by simp[-a7N,pU,mW];omega
theorem OK:∀(b:List (List Int)),(∀p∈b,uG p)→∀z∈kK b,U8 z
 |[],_,z,a=>by simp[-a7N,kK]at a
 | p::b,h,z,a=>by
  have e:kK (p::b)=pU p++kK b:=by simp[-a7N,kK]
  rw[e]at a;rcases fp.1 a with a|a
  ·unfold pU at a;rcases fp.1 a with a|a
   ·rcases fp.1 a with a|a
    ·exact xZ _ z a
    ·exact xZ _ z a
   ·exact(h p (by simp)).2.2 z a
  ·exact OK b (λd c=>h d (by simp[-a7N,c])) z a
theorem OJ(a:List (List Int))(p:List Int):kK (a++[p])=kK a++pU p:=by simp[-a7N,kK]
def gu:Nat→Int→List Int
 |0,_=>[]
 |n+1,v=>IntKind.wrap .u8 (v.fdiv (2 ^ (8*n)))::gu n v
theorem hQ:∀(n:Nat) (v:Int),(gu n v).length=n
 |0,v=>rfl
 |n+1,v=>by simp[-a7N,gu,hQ n v]
theorem a2E(v:Int):gu 4 v=fh v:=by
 unfold fh;simp[-a7N,gu,sr]
theorem nT:∀(n:Nat) (v:Int),∀z∈gu n v,U8 z
 |0,v,z,a=>by cases a
 | n+1,v,z,a=>by
  rcases fc.1 a with rfl|a
  ·rw[wC];unfold U8;omega
  ·exact nT n v z a
def o1(s:aD):List Int:=s.map λa=>(a.toNat:Int)
theorem rX(s:aD):(o1 s).length=s.length:=by simp[-a7N,o1]
theorem a4I(s:aD):∀z∈o1 s,U8 z:=by
 intro z b;obtain⟨a,_,rfl⟩:=g8.1 b;have:=a.toNat_lt;unfold U8;omega
theorem a4H(s:aD):iU s=(o1 s).map aY:=by simp[-a7N,iU,o1,aY,sx,kY]
structure Bw (n0:Nat) (h:J) (d:D) (h':J) (l:List Int) (d':D):Prop where
 ow:aR h' n0 cD 1 (l.map aY) d'
 len:h.length≤h'.length
 ji:∀q,q<h.length→¬d.eC q→h'[q]?=h[q]?
 new:∀q,d'.eC q→d.eC q∨h.length≤q
theorem Bw.trans{n0:Nat}{h c h2:J}{d g i:D}{m k:List Int}(a:Bw n0 h d c m g)(b:Bw n0 c g h2 k i):Bw n0 h d h2 k i:=
 ⟨b.ow,fD a.len b.len,λe f j=>(b.ji e (nv f a.len) λl=>by rcases a.new e l with c|c;exact j c;omega).trans (a.ji e f j),
  λe f=>by rcases b.new e f with c|c;exact a.new e c;exact .inr (fD a.len c)⟩
theorem Bw.refl{n0:Nat}{h:J}{d:D}{l:List Int}(ow:aR h n0 cD 1 (l.map aY) d):Bw n0 h d h l d:=⟨ow,bB _,λ_ _ _=>rfl,λ_ a =>.inl a⟩
theorem Bw.low{n0:Nat}{h h':J}{d d':D}{l e:List Int}(b:Bw n0 h d h' l d')(ow:aR h n0 cD 1 (e.map aY) d)(f:n0≤h.length):∀a,a<n0→h'[a]?=h[a]?:=λa g=>b.ji a (by omega) λc=>by have:=(ow.lt c).1;omega
theorem oz{n0:Nat}{h:J}{d y:D}{l m:List Int}(o:n0≤h.length)(r:aR h n0 cD 1 (l.map aY) d)(p:gA h 1 y=some (m.map aY))(s:l.length+m.length≤1000000000):∃d' h',dB tab h aP aP d y=some (d',h')∧Bw n0 h d h' (l++m) d':=by
 have q:=@r6 h n0 o (l.map aY) d y r _ p (by simp;omega) _ (λa=>some a) (λa=>Bw n0 h d a.2 (l++m) a.1) (λe h' g i _ j k =>.some ⟨by rw[gL];exact g,i,j,k⟩);obtain⟨⟨e,n⟩,b,f⟩:=q;refine⟨e,n,?_,f⟩;cases c:dB tab h aP aP d y with
 |none=>rw[c]at b;cases b
 |some a=>rw[c]at b;exact b
theorem RX(h:J)(x:D)(s:aD):dB tab h aP bH x (.str s)=dB tab h aP aP x (.sl 1 true (iU s)):=id rfl
theorem LW{n0:Nat}{h:J}{d:D}{l:List Int}(b:n0≤h.length)(c:aR h n0 cD 1 (l.map aY) d)(s:aD)(a:l.length+s.length≤1000000000):∃d' h',dB tab h aP bH d (.str s)=some (d',h')∧Bw n0 h d h' (l++o1 s) d':=by
 rw[RX,a4H];exact oz b c (hC _ _ _ _) (by rw[rX];exact a)
theorem a0P(v:Int)(n0:Nat):∀(k:Nat),k≤8→∀(h:J) (l:List Int) (d a:D),n0≤h.length→aR h n0 cD 1 (l.map aY) d→l.length+k≤1000000000→∃d' h' b,cA (wS (.int .u64 v)) [d,.int .i64 ((k:Int) - 1),a] h=some (.ext 0,[d',b,.bool false],h')∧Bw n0 h d h' (l++gu k v) d':=by
 intro k
 induction k with
 | zero =>
  intro _ h l d a e f s;rw[iX];refine⟨d,h,_,by simp[-a7N,wS];rfl,?_⟩;simpa[-a7N,gu]using Bw.refl f
 | succ k x =>
  intro A h l d a e f s;have q:(0:Int)≤((k+1:Nat):Int) - 1:=by omega
  have t:IntKind.wrap .i64 (8*(((k+1:Nat):Int) - 1))=8*(k:Int):=by rw[bJ (by omega) (by omega)];omega
  have u:IntKind.wrap .i64 (((k+1:Nat):Int) - 1 - 1)=(k:Int) - 1:=by rw[bJ (by omega) (by omega)];omega
  have w:IntKind.wrap .u64 (8*(k:Int))=8*(k:Int):=iF (by omega) (by omega);have p:¬(8*(k:Int))<0:=by omega
  have r:min (8*(k:Int)).toNat IntKind.u64.bits=8*k:=by
   have:IntKind.u64.bits=64:=rfl;rw[this];omega
  obtain⟨z,o,j,c⟩:=oz (y :=.sl 1 true [aY (IntKind.wrap .u8 (v.fdiv (2 ^ (8*k))))]) (m:=[IntKind.wrap .u8 (v.fdiv (2 ^ (8*k)))]) e f (hC _ _ _ _) (by simp;omega);obtain⟨d',h',b,n,i⟩:=x (by omega) o _ z (.bool true) (fD e c.len) c.ow (by simp;omega);refine⟨d',h',b,?_,?_⟩
  ·rw[iX];simp only[wS,aW,bL,bs,mO,fX q,aK,aN,oJ,t,nF,w,ke,p,aJ,r,xG,xw,show ∀g,([[D.int .u8 g]]:List (List D))=[aY g]from λ_=>rfl,j,eB,u];exact n
  ·have:=c.trans i;simpa[-a7N,gu]using this
theorem wh(v:Int)(k:Nat)(c:k≤8)(n0:Nat)(h:J)(l:List Int)(d:D)(e:n0≤h.length)(g:aR h n0 cD 1 (l.map aY) d)(j:l.length≤999999000):∃d' h',R mi [d,.int .u64 v,.int .i64 k] h=some (d',h')∧Bw n0 h d h' (l++gu k v) d':=by
 obtain⟨d',h',i,b,a⟩:=a0P v n0 k c h l d .any e g (by omega);refine⟨d',h',?_,a⟩;rw[Vf];have f:IntKind.wrap .i64 ((k:Int) - 1)=(k:Int) - 1:=by rw[bJ (by omega) (by omega)]
 simp only[J8,bs,eB,f,aL,b,dA,cN,aW,cP]
theorem a0H(v:Int)(n0:Nat):∀(k:Nat),k≤8→∀(h:J) (l:List Int) (d a:D),n0≤h.length→aR h n0 cD 1 (l.map aY) d→l.length+k≤1000000000→∃d' h' b,cA (q1 (.int .u64 v)) [d,.int .i64 ((k:Int) - 1),a] h=some (.ext 0,[d',b,.bool false],h')∧Bw n0 h d h' (l++gu k v) d':=by
 intro k
 induction k with
 | zero =>
  intro _ h l d a e f s;rw[iX];refine⟨d,h,_,by simp[-a7N,q1];rfl,?_⟩;simpa[-a7N,gu]using Bw.refl f
 | succ k w =>
  intro z h l d a e f s;have q:(0:Int)≤((k+1:Nat):Int) - 1:=by omega
  have t:IntKind.wrap .i64 (8*(((k+1:Nat):Int) - 1))=8*(k:Int):=by rw[bJ (by omega) (by omega)];omega
  have u:IntKind.wrap .i64 (((k+1:Nat):Int) - 1 - 1)=(k:Int) - 1:=by rw[bJ (by omega) (by omega)];omega
  have p:¬(8*(k:Int))<0:=by omega
  have r:min (8*(k:Int)).toNat IntKind.u64.bits=8*k:=by
   have:IntKind.u64.bits=64:=rfl;rw[this];omega
  obtain⟨x,o,j,c⟩:=oz (y :=.sl 1 true [aY (IntKind.wrap .u8 (v.fdiv (2 ^ (8*k))))]) (m:=[IntKind.wrap .u8 (v.fdiv (2 ^ (8*k)))]) e f (hC _ _ _ _) (by simp;omega);obtain⟨d',h',b,n,i⟩:=w (by omega) o _ x (.bool true) (fD e c.len) c.ow (by simp;omega);refine⟨d',h',b,?_,?_⟩
  ·rw[iX];simp only[q1,aW,bL,bs,mO,fX q,aK,aN,oJ,t,ke,p,aJ,r,xG,xw,show ∀g,([[D.int .u8 g]]:List (List D))=[aY g]from λ_=>rfl,j,eB,u];exact n
  ·have:=c.trans i;simpa[-a7N,gu]using this
theorem tQ(v:Int)(k:Nat)(c:k≤8)(n0:Nat)(h:J)(l:List Int)(d:D)(e:n0≤h.length)(g:aR h n0 cD 1 (l.map aY) d)(j:l.length≤999999000):∃d' h',R lV [d,.int .u64 v,.int .i64 k] h=some (d',h')∧Bw n0 h d h' (l++gu k v) d':=by
 obtain⟨d',h',i,b,a⟩:=a0H v n0 k c h l d .any e g (by omega);refine⟨d',h',?_,a⟩;rw[Nb];have f:IntKind.wrap .i64 ((k:Int) - 1)=(k:Int) - 1:=by rw[bJ (by omega) (by omega)]
 simp only[AO,bs,eB,f,aL,b,dA,cN,aW,cP]
def pI(n:Int):List Int:=gu 8 (IntKind.wrap .u64 n)
def pN(n:Nat):List Int:=gu 4 (IntKind.wrap .u64 n)
def pS(s:aD):List Int:=pN s.length++o1 s
theorem fI(n:Int):(pI n).length=8:=hQ _ _
theorem g6(n:Nat):(pN n).length=4:=hQ _ _
theorem hv(s:aD):(pS s).length=4+s.length:=by simp[-a7N,pS,g6,rX]
theorem a3Z(n:Int)(n0:Nat)(h:J)(l:List Int)(d:D)(c:n0≤h.length)(f:aR h n0 cD 1 (l.map aY) d)(e:l.length≤999999000):∃d' h',R nJ [d,.int .i64 n] h=some (d',h')∧Bw n0 h d h' (l++pI n) d':=by
 obtain⟨d',h',a,b⟩:=wh (IntKind.wrap .u64 n) 8 (by omega) n0 h l d c f e;refine⟨d',h',?_,b⟩;rw[Vi];have a:R mi [d,.int .u64 (IntKind.wrap .u64 n),.int .i64 8] h=some (d',h'):=a;simp only[Kc,bs,lx,a,cP]
theorem a3Y(s:aD)(n0:Nat)(h:J)(l:List Int)(d:D)(c:n0≤h.length)(n:aR h n0 cD 1 (l.map aY) d)(o:l.length+s.length≤999998000):∃d' h',R px [d,.str s] h=some (d',h')∧Bw n0 h d h' (l++pS s) d':=by
 obtain⟨g,k,b,a⟩:=wh (IntKind.wrap .u64 s.length) 4 (by omega) n0 h l d c n (by omega);obtain⟨i,m,j,f⟩:=LW (fD c a.len) a.ow s (by simp[-a7N,hQ];omega);have e:=a.trans f;refine⟨i,m,?_,by simpa[-a7N,pS,pN]using e⟩;rw[Vh];have b:R mi [d,.int .u64 (IntKind.wrap .u64 s.length),.int .i64 4] h=some (g,k):=b;simp only[Kb,bs,gn,lx,b,j,cP]
theorem tI{n0:Nat}{c h:J}{b d:D}{l:List Int}(B:Bw n0 c b h l d)(e:n0≤h.length)(s:aD)(j:l.length+s.length≤999998000){g:Type}{f:D × J→Option g}{Q:g→Prop}
  (k:∀d' h',Bw n0 c b h' (l++pS s) d'→n0≤h'.length→Wp (f (d',h')) Q):Wp ((R px [d,.str s] h).bind f) Q:=by
 obtain⟨d',h',i,a⟩:=a3Y s n0 h l d e B.ow j;exact Wp.step i (k d' h' (B.trans a) (fD e a.len))
theorem qK{n0:Nat}{c h:J}{b d:D}{l:List Int}(B:Bw n0 c b h l d)(e:n0≤h.length)(n:Int)(j:l.length≤999999000){g:Type}{f:D × J→Option g}{Q:g→Prop}
  (k:∀d' h',Bw n0 c b h' (l++pI n) d'→n0≤h'.length→Wp (f (d',h')) Q):Wp ((R nJ [d,.int .i64 n] h).bind f) Q:=by
 obtain⟨d',h',i,a⟩:=a3Z n n0 h l d e B.ow j;exact Wp.step i (k d' h' (B.trans a) (fD e a.len))
theorem P4{n0:Nat}{c h:J}{b d:D}{l:List Int}(B:Bw n0 c b h l d)(e:n0≤h.length)(v:Int)(j:l.length≤999999000){g:Type}{f:D × J→Option g}{Q:g→Prop}
  (k:∀d' h',Bw n0 c b h' (l++gu 4 v) d'→n0≤h'.length→Wp (f (d',h')) Q):Wp ((R mi [d,.int .u64 v,.int .i64 4] h).bind f) Q:=by
 obtain⟨d',h',i,a⟩:=wh v 4 (by omega) n0 h l d e B.ow j;exact Wp.step i (k d' h' (B.trans a) (fD e a.len))
theorem xr{n0:Nat}{c h:J}{b d y:D}{l m:List Int}(B:Bw n0 c b h l d)(e:n0≤h.length)(n:gA h 1 y=some (m.map aY))(j:l.length+m.length≤1000000000){g:Type}{f:D × J→Option g}{Q:g→Prop}
  (k:∀d' h',Bw n0 c b h' (l++m) d'→n0≤h'.length→Wp (f (d',h')) Q):Wp ((dB tab h aP aP d y).bind f) Q:=by
 obtain⟨d',h',i,a⟩:=oz e B.ow n j;exact Wp.step i (k d' h' (B.trans a) (fD e a.len))
def hO(l:eV):List Int:=pI l.off++pI l.len++pS l.fj
def hJ(f:aD × aD):List Int:=pS f.1++pS f.2
def jB(i:It):List Int:=pS i.r++pI i.e.a0++pI i.e.a1++pI i.e.a2++pI i.e.a3++pN i.e.ls.length
def k4(i:It):List Int:=jB i++(i.e.ls.map hO).flatten++pI i.e.a5++pI i.e.a6++pS i.e.s7++pS i.e.s8++pN i.e.fs.length
def fW(i:It):List Int:=k4 i++(i.e.fs.map hJ).flatten
theorem V6(e:Ev):aB tab aC 0 (.aE (bG e))=some (.aE ((bG e).drop 0)):=id rfl
theorem V7(e:Ev):aB tab aC 1 (.aE (bG e))=some (.aE ((bG e).drop 1)):=id rfl
theorem V8(e:Ev):aB tab aC 2 (.aE (bG e))=some (.aE ((bG e).drop 2)):=id rfl
theorem V9(e:Ev):aB tab aC 3 (.aE (bG e))=some (.aE ((bG e).drop 3)):=id rfl
theorem Ns(e:Ev):aB tab aC 4 (.aE (bG e))=some (.aE ((bG e).drop 4)):=id rfl
theorem Wa(e:Ev):aB tab aC 5 (.aE (bG e))=some (.aE ((bG e).drop 5)):=id rfl
theorem Wb(e:Ev):aB tab aC 6 (.aE (bG e))=some (.aE ((bG e).drop 6)):=id rfl
theorem Wc(e:Ev):aB tab aC 7 (.aE (bG e))=some (.aE ((bG e).drop 7)):=id rfl
theorem Wd(e:Ev):aB tab aC 8 (.aE (bG e))=some (.aE ((bG e).drop 8)):=id rfl
theorem Nt(e:Ev):aB tab aC 9 (.aE (bG e))=some (.aE ((bG e).drop 9)):=id rfl
theorem We(e:Ev)(g:J):Y tab g U (.aE ((bG e).drop 0))=some (.int .i64 e.a0):=id rfl
theorem Wf(e:Ev)(g:J):Y tab g U (.aE ((bG e).drop 1))=some (.int .i64 e.a1):=id rfl
theorem Wg(e:Ev)(g:J):Y tab g U (.aE ((bG e).drop 2))=some (.int .i64 e.a2):=id rfl
theorem Wh(e:Ev)(g:J):Y tab g U (.aE ((bG e).drop 3))=some (.int .i64 e.a3):=id rfl
theorem Nu(e:Ev)(g:J):Y tab g bU (.aE ((bG e).drop 4))=some e.ld:=jh _ _ _
theorem Wi(e:Ev)(g:J):Y tab g U (.aE ((bG e).drop 5))=some (.int .i64 e.a5):=id rfl
theorem Wj(e:Ev)(g:J):Y tab g U (.aE ((bG e).drop 6))=some (.int .i64 e.a6):=id rfl
theorem Wk(e:Ev)(g:J):Y tab g bH (.aE ((bG e).drop 7))=some (.str e.s7):=id rfl
theorem Wl(e:Ev)(g:J):Y tab g bH (.aE ((bG e).drop 8))=some (.str e.s8):=id rfl
theorem Nv(e:Ev)(g:J):Y tab g bQ (.aE ((bG e).drop 9))=some e.fd:=lW _ _ _
theorem OU(l:eV):aB tab dD 0 (.aE (cR l))=some (.aE (cR l)):=id rfl
theorem OV(l:eV):aB tab dD 1 (.aE (cR l))=some (.aE [.int .i64 l.len,.str l.fj]):=id rfl
theorem OW(l:eV):aB tab dD 2 (.aE (cR l))=some (.aE [.str l.fj]):=id rfl
theorem OX(l:eV)(g:J):Y tab g U (.aE (cR l))=some (.int .i64 l.off):=id rfl
theorem NG(p:aD × aD):aB tab bE 0 (.aE (aM p))=some (.aE (aM p)):=id rfl
theorem NH(p:aD × aD):aB tab bE 1 (.aE (aM p))=some (.aE [.str p.2]):=id rfl
theorem NJ(p:aD × aD)(g:J):Y tab g bH (.aE (aM p))=some (.str p.1):=id rfl
theorem js{α:Type}(f:α→List Int){l:List α}{n:Nat}{x:α}(h:l[n]?=some x):((l.take (n+1)).map f).flatten=((l.take n).map f).flatten++f x:=by
 rw[g9,h];simp[-a7N]
theorem qt{α:Type}(f:α→List Int)(l:List α)(n:Nat):((l.take n).map f).flatten.length≤(l.map f).flatten.length:=by
 conv=>rhs;rw[← h6 n l,gL,lp,bF]
 omega
theorem a1J(e:Ev){n0:Nat}{c h:J}{j d:D}{p:List Int}(B:Bw n0 c j h p d)(y:n0≤h.length)(R:p.length+(e.ls.map hO).flatten.length≤900000000)(x:D){r:Type}{o:bK→Option r}{Q:r→Prop}
  (k:∀d' h' a b,Bw n0 c j h' (p++(e.ls.map hO).flatten) d'→n0≤h'.length→Wp (o (.ext 0,[d',a,b],h')) Q):Wp ((cA (Bf (.aE (bG e))) [d,.int .i64 0,x] h).bind o) Q:=by
 refine Wp.loop (λk m i=>n0≤i.length∧∃d' x,∃f:Nat,m=[d',.int .i64 f,x]∧k+f=e.ls.length∧Bw n0 c j i (p++((e.ls.take f).map hO).flatten) d')
  (λl=>l.1 = .ext 0∧n0≤l.2.2.length∧(∃d' a b,l.2.1=[d',a,b]∧Bw n0 c j l.2.2 (p++(e.ls.map hO).flatten) d')) e.ls.length ⟨y,_,_,0,rfl,rfl,by simpa using B⟩ ?_ ?_
 ·rintro k m i ⟨q,d',x,f,rfl,T,B⟩;have X:=e.qB;simp only[Bf,aW,bL,bs,aL,Ns,Nu,hX e.ft,bS];refine Wp.dF ?_ ?_
  ·intro c;have c:f<e.ls.length:=fe c;obtain⟨g,n⟩:=hq c;have z:=eR f (by omega);have w:=qt hO e.ls (f+1);rw[js hO n,bF]at w;have aa:(hO g).length=20+g.fj.length:=by simp[-a7N,hO,fI,hv];omega
   have v:aO tab bU e.ld (.int .i64 (f:Int))=some (.aE (cR g)):=by rw[m0 e.ft];simp[-a7N,n]
   simp only[v,bs,OU,OV,OW,OX,eU,gW,iN];refine qK B q g.off (by simp only[bF,e6,fI,g6,hv,hQ];omega) λH M s A=>?_
   simp only[bs];refine qK s A g.len (by simp only[bF,e6,fI,g6,hv,hQ];omega) λI N t C=>?_
   simp only[bs];refine tI t C g.fj (by simp only[bF,e6,fI,g6,hv,hQ];omega) λK P u E=>?_
   simp only[bs,iN,cO,z];refine .some (.inl ⟨rfl,k - 1,by omega,E,_,_,f+1,rfl,by omega,?_⟩);rw[js hO n];simpa[-a7N,hO]using u
  ·intro c;have c:f=e.ls.length:=by
    have:¬(f:Int)<e.ls.length:=by simpa using c
    omega
   subst c;rw[je]at B;exact .some (.inr ⟨by simp,rfl,q,_,_,_,rfl,B⟩)
 ·rintro⟨L,m,i⟩ ⟨rfl,F,d',a,b,rfl,G⟩;exact k d' i a b G F
theorem Wx(e:Ev){n0:Nat}{c h:J}{j d:D}{p:List Int}(B:Bw n0 c j h p d)(w:n0≤h.length)(L:p.length+(e.fs.map hJ).flatten.length≤900000000)(x:D){r:Type}{o:bK→Option r}{Q:r→Prop}
  (k:∀d' h' a b,Bw n0 c j h' (p++(e.fs.map hJ).flatten) d'→n0≤h'.length→Wp (o (.ext 2,[d',a,b],h')) Q):Wp ((cA (Bg (.aE (bG e))) [d,.int .i64 0,x] h).bind o) Q:=by
 refine Wp.loop (λk m i=>n0≤i.length∧∃d' x,∃f:Nat,m=[d',.int .i64 f,x]∧k+f=e.fs.length∧Bw n0 c j i (p++((e.fs.take f).map hJ).flatten) d')
  (λl=>l.1 = .ext 2∧n0≤l.2.2.length∧(∃d' a b,l.2.1=[d',a,b]∧Bw n0 c j l.2.2 (p++(e.fs.map hJ).flatten) d')) e.fs.length ⟨w,_,_,0,rfl,rfl,by simpa using B⟩ ?_ ?_
 ·rintro k m i ⟨q,d',x,f,rfl,M,B⟩;have N:=e.hl;simp only[Bg,aW,bL,bs,aL,Nt,Nv,hZ e.gH,bS];refine Wp.dF ?_ ?_
  ·intro c;have c:f<e.fs.length:=fe c;obtain⟨g,n⟩:=hq c;have y:=eR f (by omega);have v:=qt hJ e.fs (f+1);rw[js hJ n,bF]at v;have P:(hJ g).length=8+g.1.length+g.2.length:=by simp[-a7N,hJ,hv];omega
   have u:aO tab bQ e.fd (.int .i64 (f:Int))=some (.aE (aM g)):=by rw[k7 e.gH];simp[-a7N,n]
   simp only[u,bs,NG,NH,NJ,gW,iN];refine tI B q g.1 (by simp only[bF,e6,fI,g6,hv,hQ];omega) λF I s z=>?_
   simp only[bs];refine tI s z g.2 (by simp only[bF,e6,fI,g6,hv,hQ];omega) λG K t A=>?_
   simp only[bs,iN,cO,y];refine .some (.inl ⟨rfl,k - 1,by omega,A,_,_,f+1,rfl,by omega,?_⟩);rw[js hJ n];simpa[-a7N,hJ]using t
  ·intro c;have c:f=e.fs.length:=by
    have:¬(f:Int)<e.fs.length:=by simpa using c
    omega
   subst c;rw[je]at B;exact .some (.inr ⟨by simp,rfl,q,_,_,_,rfl,B⟩)
 ·rintro⟨H,m,i⟩ ⟨rfl,C,d',a,b,rfl,E⟩;exact k d' i a b E C
theorem a3W(i:It)(n0:Nat)(h:J)(C:n0≤h.length)(z:(fW i).length≤900000000):∃d' h',R yr [.agg (aT i)] h=some (d',h')∧Bw n0 h .aA h' (fW i) d':=by
 suffices Wp (R yr [.agg (aT i)] h) (λc=>Bw n0 h .aA c.2 (fW i) c.1) by
  obtain⟨⟨T,h'⟩,v,w⟩:=this;exact⟨T,h',v,w⟩
 have B:gM 10 (.agg (bG i.e))=some (.aE (bG i.e)):=nB 10 _ rfl;have A:=z;simp only[fW,k4,jB,bF,fI,g6,hv]at A;rw[Ve];simp only[J7,gq,bs,aL,pG,pH,pJ,kJ,B,V6,V7,V8,V9,Ns,Wa,Wb,Wc,Wd,Nt,We,Wf,Wg,Wh,Nu,Wi,Wj,Wk,Wl,Nv,hX i.e.ft,hZ i.e.gH,lx,iN];have d:Bw n0 h .aA h [] .aA:=Bw.refl (aR.aA _ _ _ _);refine tI d C i.r (by simp only[bF,e6,fI,g6,hv,hQ];omega) λX am f D=>?_
 simp only[bs];refine qK f D _ (by simp only[bF,e6,fI,g6,hv,hQ];omega) λae ar l H=>?_
 simp only[bs];refine qK l H _ (by simp only[bF,e6,fI,g6,hv,hQ];omega) λaf au m I=>?_
 simp only[bs];refine qK m I _ (by simp only[bF,e6,fI,g6,hv,hQ];omega) λag av n K=>?_
 simp only[bs];refine qK n K _ (by simp only[bF,e6,fI,g6,hv,hQ];omega) λah aw o L=>?_
 simp only[bs,iN];refine P4 o L _ (by simp only[bF,e6,fI,g6,hv,hQ];omega) λai ax b M=>?_
 simp only[bs];have x:[]++pS i.r++pI i.e.a0++pI i.e.a1++pI i.e.a2++pI i.e.a3++gu 4 (IntKind.wrap .u64 i.e.ls.length)=jB i:=by simp[-a7N,jB,pN]
 rw[x]at b;have a7:(jB i).length=4+i.r.length+36:=by simp[-a7N,jB,hv,fI,g6]
 refine a1J i.e b M (by omega) _ λaj ay t u p N=>?_
 simp only[bs,dA,cN,aW];refine qK p N _ (by simp only[bF,e6,fI,g6,hv,hQ];omega) λak az q P=>?_
 simp only[bs];refine qK q P _ (by simp only[bF,e6,fI,g6,hv,hQ];omega) λal a4 s Q=>?_
 simp only[bs];refine tI s Q _ (by simp only[bF,e6,fI,g6,hv,hQ];omega) λaa an g E=>?_
 simp only[bs];refine tI g E _ (by simp only[bF,e6,fI,g6,hv,hQ];omega) λab ao j F=>?_
 simp only[bs,iN];refine P4 j F _ (by simp only[bF,e6,fI,g6,hv,hQ];omega) λac ap a G=>?_
 simp only[bs];have y:jB i++(i.e.ls.map hO).flatten++pI i.e.a5++pI i.e.a6++pS i.e.s7++pS i.e.s8++gu 4 (IntKind.wrap .u64 i.e.fs.length)=k4 i:=by simp[-a7N,k4,pN]
 rw[y]at a;have a8:(k4 i).length=(jB i).length+(i.e.ls.map hO).flatten.length+16+(4+i.e.s7.length)+(4+i.e.s8.length)+4:=by simp only[k4,bF,fI,hv,g6]
 refine Wx i.e a G (by omega) _ λad aq t u k a9=>?_
 simp only[bs,dA,cN,aW,cP];exact .some k
def iq(h:J)(l:List Int)(d:D):Prop:=aI 1 aY l d∨∃a,d = .aZ 1 a 0 l.length∧h[a]?=some (Ob.row cD 1 (l.map aY))
theorem iq.own{h:J}{n0:Nat}{l:List Int}{d:D}(e:aR h n0 cD 1 (l.map aY) d):iq h l d:=by
 rcases e with⟨rfl,b⟩|⟨c,_,rfl,a⟩
 ·exact .inl (.inl ⟨rfl,by simpa using b⟩)
 ·exact .inr ⟨c,by simp,a⟩
theorem rT{h:J}{l:List Int}{d:D}(a:iq h l d):bC tab aP d=some (.int .i64 l.length):=by
 rcases a with a|⟨b,rfl,_⟩
 ·exact fm a
 ·exact GW _ _ _ _
theorem Hj{h:J}{l:List Int}{d:D}(a:iq h l d)(i:Nat)(z:Int)(b:l[i]?=some z):∃c,aO tab aP d (.int .i64 i)=some c∧Y tab h cD c=some (.int .u8 z):=by
 rcases a with a|⟨g,rfl,f⟩
 ·exact⟨.aE (aY z),by rw[kh a];simp[-a7N,b],rb z h⟩
 ·have e:=(bR.1 b).1;refine⟨.ptr g (0+i) 0,by rw[vI];simp[-a7N,e],?_⟩;rw[zh,dM f,eE];simp[-a7N,b,aY]
theorem m6{h:J}{l:List Int}{d:D}(a:iq h l d):gA h 1 d=some (l.map aY):=by
 rcases a with a|⟨e,rfl,b⟩
 ·rcases a with⟨rfl,rfl⟩|⟨c,rfl⟩
  ·rfl
  ·exact hC _ _ _ _
 ·simp only[gA,aN,b,il];rw[hN (by simp)]
theorem iq.cL{h h':J}{l:List Int}{d:D}(a:iq h l d)(e:∀(b T z:Nat) (rows:List (List D)),h[b]?=some (Ob.row T z rows)→h'[b]?=h[b]?):iq h' l d:=by
 rcases a with a|⟨f,rfl,c⟩
 ·exact .inl a
 ·exact .inr ⟨f,rfl,by rw[e _ _ _ _ c];exact c⟩
def gz(l:List Int):Int:=l.foldl (λa b=>(a*31+b) % 4294967291) 1
theorem Mw{l:List Int}{n:Nat}{z:Int}(h:l[n]?=some z):gz (l.take (n+1))=(gz (l.take n)*31+z) % 4294967291:=by
 unfold gz;rw[g9,h];simp[-a7N]
theorem Mv:∀(l:List Int),0≤gz l∧gz l<4294967291:=by
 intro l;unfold gz;generalize c:(1:Int)=a;have b:0≤a∧a<4294967291:=by omega
 clear c
 induction l generalizing a with
 |nil=>exact b
 | cons f e d =>
  simp only[o9];exact d _ (by omega)
theorem a3X(l:List Int)(d:D)(h:J)(q:bC tab aP d=some (.int .i64 l.length))(r:∀(i:Nat) (z:Int),l[i]?=some z→∃k,aO tab aP d (.int .i64 i)=some k∧Y tab h cD k=some (.int .u8 z))(E:l.length≤9223372036854775806)(s:∀z∈l,U8 z):R vk [d] h=some (.int .u64 (gz l),h):=by
 apply Wp.val;rw[Vg];simp only[J9,bs,aL];refine Wp.loop (λj e f=>f=h∧∃p,∃a:Nat,e=[.int .u64 (gz (l.take a)),.int .i64 a,p]∧j+a=l.length) (λm=>m.1 = .ext 0∧m.2.2=h∧∃n o,m.2.1=[.int .u64 (gz l),n,o]) l.length ⟨rfl,_,0,rfl,rfl⟩ ?_ ?_
 ·rintro j e f ⟨rfl,p,a,rfl,C⟩;simp only[Ka,aW,bL,bs,aL,q,bS];refine Wp.dF ?_ ?_
  ·intro b;have b:a<l.length:=fe b;obtain⟨z,g⟩:=hq b;have u:=s z (eW g);obtain⟨k,v,c⟩:=r a z g;have F:=Mv (l.take a);have t:=eR a (by omega);unfold U8 at u;have w:IntKind.wrap .u64 (gz (l.take a)*31)=gz (l.take a)*31:=iF (by omega) (by omega);have x:IntKind.wrap .u64 z=z:=iF (by omega) (by omega);have y:IntKind.wrap .u64 (gz (l.take a)*31+z)=gz (l.take a)*31+z:=iF (by omega) (by omega);have A:(gz (l.take a)*31+z).tmod 4294967291=gz (l.take (a+1)):=by
    rw[Mw g,Lv (by omega)]
   simp only[oJ,w,v,c,uP,x,cO,y,bs,qk,show ¬((4294967291:Int)=0) by omega,aJ,A,t];exact .some (.inl ⟨rfl,j - 1,by omega,rfl,_,a+1,rfl,by omega⟩)
  ·intro b;have b:a=l.length:=by
    have:¬(a:Int)<l.length:=by simpa using b
    omega
   subst b;rw[je];exact .some (.inr ⟨by simp,rfl,rfl,_,_,rfl⟩)
 ·rintro⟨B,e,f⟩ ⟨rfl,c,n,o,rfl⟩;simp only at c;subst c;simp only[dA,cN,bs,aW,cP];exact .some rfl
theorem QO(l:List Int)(d:D)(h:J)(a:iq h l d)(b:l.length≤9223372036854775806)(c:∀z∈l,U8 z):R vk [d] h=some (.int .u64 (gz l),h):=a3X l d h (rT a) (λf z e=>Hj a f z e) b c
theorem So(i:It):∀z∈fW i,U8 z:=by
 have a:∀c,∀z∈pI c,U8 z:=λc=>nT _ _
 have e:∀c,∀z∈pN c,U8 z:=λc=>nT _ _
 have b:∀f,∀z∈pS f,U8 z:=λf z d=>by
  rcases fp.1 d with h|h
  ·exact e _ z h
  ·exact a4I _ z h
 intro z d;simp only[fW,k4,jB,fp,uD,g8]at d;rcases d with((((((((((((h|h)|h)|h)|h)|h)|⟨_,⟨g,_,rfl⟩,h⟩)|h)|h)|h)|h)|h))|⟨_,⟨g,_,rfl⟩,h⟩
 ·exact b _ z h
 ·exact a _ z h
 ·exact a _ z h
 ·exact a _ z h
 ·exact a _ z h
 ·exact e _ z h
 ·simp only[hO,fp]at h;rcases h with(h|h)|h
  ·exact a _ z h
  ·exact a _ z h
  ·exact b _ z h
 ·exact a _ z h
 ·exact a _ z h
 ·exact b _ z h
 ·exact b _ z h
 ·exact e _ z h
 ·simp only[hJ,fp]at h;rcases h with h|h
  ·exact b _ z h
  ·exact b _ z h
def iV(i:It):List Int:=gu 4 (IntKind.wrap .u64 (((fW i).length:Int)+4))++fW i
def gj(i:It):List Int:=iV i++gu 4 (gz (iV i))
theorem CY(i:It):∀z∈iV i,U8 z:=λz a=>by
 rcases fp.1 a with h|h
 ·exact nT _ _ z h
 ·exact So i z h
theorem Nx(i:It):∀z∈gj i,U8 z:=λz a=>by
 rcases fp.1 a with h|h
 ·exact CY i z h
 ·exact nT _ _ z h
theorem ru(i:It):(gj i).length=(fW i).length+8:=by
 simp only[gj,iV,bF,hQ];omega
theorem a1e(i:It)(h:J):Y tab h aH (.aE (aT i))=some (.agg (aT i)):=id rfl
theorem QN(i:It)(c:Int)(h:J)(T:∀g,R qu [.agg (aT i)] g=some (.int .i64 c,g))(Q:(fW i).length≤900000000):∃d',R yq [.agg (aT i)] h=some (.bD [d',.int .i64 c],h)∧aI 1 aY (if c=0 then gj i else[]) d':=by
 suffices Wp (R yq [.agg (aT i)] h) (λG=>G.2=h∧∃d',G.1 = .bD [d',.int .i64 c]∧aI 1 aY (if c=0 then gj i else[]) d') by
  obtain⟨⟨al,ai⟩,k,rfl,d',rfl,l⟩:=this;exact⟨d',k,l⟩
 rw[Vd];simp only[J6,gq,bs,aL,a1e,T,dH];refine Wp.dF ?_ ?_
 ·intro e;have e:¬c=0:=by simpa using e
  simp only[bs,gp];rw[ff (d' :=.bD [.aA,.int .i64 c]) (by simp) (.bD _ λq m=>by simp at m;rcases m with rfl|rfl<;>constructor) (bB _) λ_ _=>rfl];exact .some ⟨rfl,_,rfl,by rw[cC e];exact .aA _ _⟩
 ·intro e;have e:c=0:=by simpa using e
  subst e;obtain⟨I,k,K,d⟩:=a3W i h.length h (bB _) Q;have ah:IntKind.wrap .i64 (((fW i).length:Int)+4)=((fW i).length:Int)+4:=bJ (by omega) (by omega);have af:=iq.own d.ow;refine Wp.step K ?_;simp only[bs,rT af,cO,ah,lx];obtain⟨x,l,v,f⟩:=wh (IntKind.wrap .u64 (((fW i).length:Int)+4)) 4 (by omega) k.length k [] .aA (bB _) (aR.aA _ _ _ _) (by simp);have v:R mi [.aA,.int .u64 (IntKind.wrap .u64 (((fW i).length:Int)+4)),.int .i64 4] k=some (x,l):=v;refine Wp.step v ?_;simp only[bs];have ag:iq l (fW i) I:=by
   rcases d.ow with⟨o,X⟩|⟨E,ak,o,z⟩
   ·exact .inl (.inl ⟨o,by simpa using X⟩)
   ·refine .inr ⟨E,by rw[o];simp[-a7N],?_⟩;have ab:=(bR.1 z).1;rw[f.ji E ab (λa=>by obtain⟨H,n,a⟩:=a;cases a)];exact z
  have F:aR l h.length cD 1 ((([]:List Int)++gu 4 (IntKind.wrap .u64 (((fW i).length:Int)+4))).map aY) x:=f.ow.from d.len;obtain⟨u,r,L,j⟩:=oz (fD d.len f.len) F (m6 ag) (by simp only[bF,e6,hQ];omega);refine Wp.step L ?_;simp only[bs];have P:[]++gu 4 (IntKind.wrap .u64 (((fW i).length:Int)+4))++fW i=iV i:=by simp[-a7N,iV]
  rw[P]at j;have aj:(iV i).length=4+(fW i).length:=by simp only[iV,bF,hQ]
  have M:=QO (iV i) u r (iq.own j.ow) (by omega) (CY i);refine Wp.step M ?_;simp only[bs];have A:h.length≤r.length:=fD (fD d.len f.len) j.len;obtain⟨y,s,w,p⟩:=wh (gz (iV i)) 4 (by omega) h.length r (iV i) u A j.ow (by omega);have w:R mi [u,.int .u64 (gz (iV i)),.int .i64 4] r=some (y,s):=w;refine Wp.step w ?_;have N:iV i++gu 4 (gz (iV i))=gj i:=rfl;rw[N]at p;simp only[bs,gp];have B:=gS (n0:=h.length) (n:=2) p.ow (bB _) (λt _=>nC _ s 2 t);have aa:∀b,b<h.length→s[b]?=h[b]?:=λb ac=>by
   have C:∀{q:D} {g:J} {ad:List Int},aR g h.length cD 1 (ad.map aY) q→¬q.eC b:=λae o=>by have:=(ae.lt o).1;omega
   rw[p.ji b (by omega) (C j.ow),j.ji b (by have:=d.len;have:=f.len;omega) (C F),f.ji b (by have:=d.len;omega) (λa=>by obtain⟨H,n,a⟩:=a;cases a),
    d.ji b ac (λa=>by obtain⟨H,n,a⟩:=a;cases a)]
  rw[ff (d' :=.bD [cS h.length s 3 y,.int .i64 0]) (by simp) (by
   refine .bD _ λq m=>?_
   simp at m;rcases m with rfl|rfl
   ·exact e7 B λt _=>pf _ t
   ·constructor) (fD A p.len) aa]
  exact .some ⟨rfl,_,rfl,by simpa using B⟩
theorem x0{α:Type}(f:α→List Int)(m:Nat):∀(l:List α),(∀a∈l,(f a).length≤m)→(l.map f).flatten.length≤l.length*m
 |[],_=>by simp
 | a::l,h=>by
  have d:=h a (by simp);have e:=x0 f m l λb c=>h b (by simp[-a7N,c])
  simp only[fP,kn,bF,g7,Nat.succ_mul];omega
theorem Mr:∀(d:List eV) (a b:Int),chain a d b→∀l∈d,l.fj.length≤36
 |[],a,b,_,l,c=>by cases c
 | x::r,a,b,h,l,c=>by
  unfold chain at h;rcases fc.1 c with rfl|c
  ·have e:=h.2.2.1;have f:=h.2.2.2.1;omega
  ·exact Mr r _ _ h.2.2.2.2 l c
theorem L6{k:Int}{i:It}(h:uh k i):(fW i).length≤20000:=by
 have p:=x0 hO 56 i.e.ls (λm j=>by
  have:=Mr _ _ _ h.ch m j;simp only[hO,bF,fI,hv];omega)
 have q:(i.e.fs.map hJ).flatten.length≤i.e.fs.length*3008:=x0 hJ 3008 i.e.fs (λd b=>by
  rcases h.yU with⟨_,a⟩|a
  ·have n:=(a.fn d b).2;have o:=a.fv d b;simp only[hJ,bF,hv];omega
  ·rw[a.fs]at b;cases b)
 have f:=h.n6;have g:=h.fs;have c:i.r.length≤32∧i.e.s7.length≤32∧i.e.s8.length≤32:=by
  rcases h.yU with⟨l,a⟩|a
  ·exact⟨by rw[l];simp[-a7N],a.tr,a.st⟩
  ·exact⟨a.r3,by rw[a.tr];simp[-a7N],by rw[a.st];simp[-a7N]⟩
 obtain⟨c,s,t⟩:=c;have u:(i.e.fs.length*3008:Nat)≤4*3008:=jz _ g;have v:(i.e.ls.length*56:Nat)≤6*56:=jz _ f;simp only[fW,k4,jB,bF,fI,hv,g6];omega
theorem a3V(B:Int)(b:hH)(h:J)(m:p1 B b):R qw [.agg (fA b)] h=some (.int .i64 0,h):=by
 apply Wp.val;have G:=m.n3;have A:¬(40:Int)<(b.cW.length:Int):=by omega
 rw[Ni];simp only[Bd,gq,fA,NL,lE,pO b.hd,bs,aL,dE,A,bT,aK,aU,aJ];refine Wp.loop (λn k f=>f=h∧∃o p q r s t u,∃c:Nat,k=[o,.int .i64 c,p,q,r,s,t,u]∧n+c=b.cW.length) (λx=>x.1 = .ext 0∧x.2.2=h) b.cW.length ⟨rfl,_,_,_,_,_,_,_,0,rfl,rfl⟩ ?_ ?_
 ·rintro n k f ⟨rfl,o,p,q,r,s,t,u,c,rfl,F⟩;simp only[Be,aW,bL,bs,aL,NL,lE,pO b.hd,bS];refine Wp.dF ?_ ?_
  ·intro i;have i:c<b.cW.length:=fe i;obtain⟨a,v⟩:=hq i;have l:=m.it a (eW v);have C:=eR c (by omega);have z:aO tab dO b.d (.int .i64 (c:Int))=some (.aE (aT a)):=by rw[qD b.hd];simp[-a7N,v]
   have y:=Qt a f l.yU;have D:aB tab aC 0 (.aE (bG a.e))=some (.aE (bG a.e)):=id rfl;have j:Y tab f U (.aE (bG a.e))=some (.int .i64 a.e.a0):=id rfl;have g:(a.r==([42]:aD))=false:=by
    rcases l.Qn with g|g
    ·rw[g];rfl
    ·have:=a1S _ g;simpa using this
   simp only[z,kL,mL,y,bs,dH,dU,eF,bT,aK,aU,aJ,pH,D,j,Wu,eU,l.host,m.hs,pG,pJ,kc,g,cO,C];exact .some (.inl ⟨rfl,n - 1,by omega,rfl,_,_,_,_,_,_,_,c+1,rfl,by omega⟩)
  ·intro i;exact .some (.inr ⟨by simp,rfl,rfl⟩)
 ·rintro⟨E,k,f⟩ ⟨j,w⟩;simp only at j w;subst j;subst w;simp only[dA,cN,bs,cP];exact .some rfl
def q9(b:hH):List Int:=pI b.hs++pI b.nu++pN b.cW.length
def k3(b:hH):List Int:=q9 b++(b.cW.map gj).flatten
theorem Cl(b:hH):(q9 b).length=20:=by simp only[q9,bF,fI,g6]
theorem R2(b:hH):∀z∈k3 b,U8 z:=by
 intro z a;simp only[k3,q9,fp,uD,g8]at a;rcases a with((h|h)|h)|⟨_,⟨c,_,rfl⟩,h⟩
 ·exact nT _ _ z h
 ·exact nT _ _ z h
 ·exact nT _ _ z h
 ·exact Nx c z h
theorem Cm{e:Int}{b:hH}(a:p1 e b):20≤(k3 b).length∧(k3 b).length≤100000:=by
 have g:=x0 gj 20008 b.cW λf d=>by
  have:=L6 (a.it f d);rw[ru];omega
 have c:=a.n3;have h:b.cW.length*20008≤3*20008:=jz _ c;simp only[k3,bF,Cl];omega
theorem a3T(G:Int)(b:hH)(h:J)(k:p1 G b):∃d',R rK [.agg (fA b)] h=some (.bD [d',.int .i64 0],h)∧aI 1 aY (k3 b) d':=by
 suffices Wp (R rK [.agg (fA b)] h) (λK=>K.2=h∧∃d',K.1 = .bD [d',.int .i64 0]∧aI 1 aY (k3 b) d') by
  obtain⟨⟨e,au⟩,f,rfl,d',rfl,g⟩:=this;exact⟨d',f,g⟩
 have ac:=a3V G b h k;have ay:=Cm k;have az:=k.n3;have T:aB tab bP 0 (.aE (fA b))=some (.aE (fA b)):=id rfl;have X:aB tab bP 1 (.aE (fA b))=some (.aE [.int .i64 b.nu,b.d]):=id rfl;have B:aB tab bP 2 (.aE (fA b))=some (.aE [b.d]):=id rfl;have ah:∀a,Y tab a U (.aE (fA b))=some (.int .i64 b.hs):=λa=>id rfl
 have ai:∀a,Y tab a bP (.aE (fA b))=some (.agg (fA b)):=λa=>id rfl
 rw[CS];simp only[wR,gq,bs,aL,ai,ac,dH,dU,eF,bT,aK,aU,aJ,T,X,B,ah,eU,lE,pO b.hd,lx,iN];have L:Bw h.length h .aA h [] .aA:=Bw.refl (aR.aA _ _ _ _);obtain⟨s,f,v,j⟩:=tQ (IntKind.wrap .u64 b.hs) 8 (by omega) h.length h [] .aA (bB _) L.ow (by simp);have v:R lV [.aA,.int .u64 (IntKind.wrap .u64 b.hs),.int .i64 8] h=some (s,f):=v;refine Wp.step v ?_;simp only[bs];obtain⟨t,g,w,p⟩:=tQ (IntKind.wrap .u64 b.nu) 8 (by omega) h.length f _ s j.len j.ow (by simp only[bF,e6,hQ];omega);have w:R lV [s,.int .u64 (IntKind.wrap .u64 b.nu),.int .i64 8] f=some (t,g):=w;refine Wp.step w ?_;simp only[bs];have I:=fD j.len p.len;obtain⟨P,aa,x,q⟩:=tQ (IntKind.wrap .u64 b.cW.length) 4 (by omega) h.length g _ t I p.ow (by simp only[bF,e6,hQ];omega);have x:R lV [t,.int .u64 (IntKind.wrap .u64 b.cW.length),.int .i64 4] g=some (P,aa):=x;refine Wp.step x ?_;simp only[bs,iN];have ab:[]++gu 8 (IntKind.wrap .u64 b.hs)++gu 8 (IntKind.wrap .u64 b.nu)++gu 4 (IntKind.wrap .u64 b.cW.length)=q9 b:=by simp[-a7N,q9,pI,pN]
 rw[ab]at q;have N:=(j.trans p).trans q;have aj:=fD I q.len;refine Wp.loop (λz u a=>h.length≤a.length∧∃d' e i,∃n:Nat,u=[d',.int .i64 n,e,i]∧z+n=b.cW.length∧Bw h.length h .aA a (q9 b++((b.cW.take n).map gj).flatten) d')
  (λo=>o.1 = .ext 0∧h.length≤o.2.2.length∧(∃d' e i A,o.2.1=[d',e,i,A]∧Bw h.length h .aA o.2.2 (k3 b) d')) b.cW.length ⟨aj,_,_,_,0,rfl,rfl,by simpa using N⟩ ?_ ?_
 ·rintro z u a ⟨F,d',e,i,n,rfl,ax,d⟩;simp only[Bc,aW,bL,bs,aL,B,lE,pO b.hd,bS];refine Wp.dF ?_ ?_
  ·intro c;have c:n<b.cW.length:=fe c;obtain⟨m,l⟩:=hq c;have C:=k.it m (eW l);have ag:=eR n (by omega);have ad:aO tab dO b.d (.int .i64 (n:Int))=some (.aE (aT m)):=by rw[qD b.hd];simp[-a7N,l]
   have aw:=L6 C;obtain⟨ap,Q,E⟩:=QN m 0 a (λa=>Qt m a C.yU) (by omega);rw[bO rfl]at E;have ae:=qt gj b.cW (n+1);rw[js gj l,bF]at ae;have av:(k3 b).length=20+(b.cW.map gj).flatten.length:=by simp only[k3,bF,Cl]
   simp only[ad,kL,Q,bs,fU,fC,fV];refine xr d F (m6 (.inl E)) (by simp only[bF,Cl];omega) λao ar M ak=>?_
   simp only[bs,cO,ag];refine .some (.inl ⟨rfl,z - 1,by omega,ak,_,_,_,n+1,rfl,by omega,?_⟩);rw[js gj l];simpa using M
  ·intro c;have c:n=b.cW.length:=by
    have:¬(n:Int)<b.cW.length:=by simpa using c
    omega
   subst c;rw[je]at d;exact .some (.inr ⟨by simp,rfl,F,_,_,_,_,rfl,d⟩)
 ·rintro⟨aq,u,a⟩ ⟨rfl,am,d',e,i,A,rfl,d⟩;simp only[dA,cN,bs,aW,gp];have H:=gS (n0:=h.length) (n:=2) d.ow (bB _) (λr _=>nC _ a 2 r);rw[ff (d' :=.bD [cS h.length a 3 d',.int .i64 0]) (by simp) (by
   refine .bD _ λan D=>?_
   simp at D;rcases D with rfl|rfl
   ·exact e7 H λr _=>pf _ r
   ·constructor) am (λal af=>d.ji al af λy=>by obtain⟨A,n,y⟩:=y;cases y)]
  exact .some ⟨rfl,_,rfl,H⟩
theorem a3S(i:Int)(b:hH)(g:p1 i b)(j:List Int)(a:D)(h:J)(p:aI 1 aY j a)(r:j.length≤10000000):∃d',R DA [a,.agg (fA b)] h=some (.bD [d',.int .i64 0],h)∧aI 1 aY (j++pU (k3 b)) d':=by
 obtain⟨k,m,n⟩:=a3T i b h g;have s:=Cm g;obtain⟨l,c,e⟩:=QC j (k3 b) a k h p n (by omega) (by omega);have f:ju j (k3 b)=0:=by
  unfold ju;rw[cC (by omega),cC (by omega)]
 have o:ki j (k3 b)=j++pU (k3 b):=by
  unfold ki;rw[bO f];simp[-a7N,pU]
 rw[f]at c;rw[o]at e;have q:∀d,Y tab d bP (.aE (fA b))=some (.agg (fA b)):=λd=>id rfl
 refine⟨l,?_,e⟩;rw[Vb];simp only[J3,gq,bs,q,m,fU,fC,fV,dH,dU,eF,bT,aK,aU,aJ,c,gp]
theorem a3P(zs:List Int)(d:D)(h:J)(K:kC .u8 zs d)(P:∀z∈zs,0≤z∧z<256):∃x w g h',R yn [d] h=some (.bD [x,g],h')∧h.length≤h'.length∧aI 1 aY w g∧∃a:List (List Int),w=kK a∧(∀p∈a,uG p)∧w.length≤3000000:=by
 suffices Wp (R yn [d] h) (λp=>∃x w g,p.1 = .bD [x,g]∧h.length≤p.2.length∧aI 1 aY w g∧∃a:List (List Int),w=kK a∧(∀p∈a,uG p)∧w.length≤3000000) by
  obtain⟨⟨q,h'⟩,k,x,w,g,rfl,H⟩:=this;exact⟨x,w,g,h',k,H⟩
 rw[U7];simp only[JX,bs,aL];obtain⟨j,E,B,al⟩:=Td zs d 400 h K (by omega) (by omega) P;refine Wp.step E ?_;simp only[bs];obtain⟨C,k,G,ac,ab,l,r,af,ag,I⟩:=S9 B 1 5 (by omega) (by omega) (by omega) (by omega);refine Wp.step G ?_;simp only[bs];refine Wp.loop (λn m e=>e=k∧∃c x,∃b:Nat,∃a:List (List Int),m=[c,.int .i64 b,x]∧n+b=l.length∧aI 1 aY (kK a) c∧(∀p∈a,uG p)∧(kK a).length≤b*100100)
  (λo=>o.1 = .ext 0∧o.2.2=k∧∃c x q,∃a:List (List Int),o.2.1=[c,x,q]∧aI 1 aY (kK a) c∧(∀p∈a,uG p)∧(kK a).length≤3000000) l.length ⟨rfl,_,_,0,[],rfl,rfl,.aA _ _,by simp,by simp[-a7N,kK]⟩ ?_ ?_
 ·rintro n m e ⟨rfl,c,x,b,a,rfl,aj,v,y,ak⟩;simp only[JY,aW,bL,bs,aL,a1x r,bS];refine Wp.dF ?_ ?_
  ·intro j;have j:b<l.length:=fe j;obtain⟨f,u⟩:=hq j;have s:=I f (eW u);have N:=eR b (by omega);have L:aO tab jl C (.int .i64 (b:Int))=some (.aE (fA f)):=by rw[a0s r];simp[-a7N,u]
   have Q:∀e,Y tab e bP (.aE (fA f))=some (.agg (fA f)):=λe=>id rfl
   have M:b*100100≤24*100100:=jz _ (by omega);obtain⟨ad,F,t⟩:=a3S 1 f s (kK a) c e v (by omega);have ah:=Cm s;rw[← OJ]at t;simp only[L,Q,F,bs,fU,fC,fV,cO,N];refine .some (.inl ⟨rfl,n - 1,by omega,rfl,_,_,b+1,a++[k3 f],rfl,by omega,t,λp i=>?_,?_⟩)
   ·rcases fp.1 i with i|i
    ·exact y p i
    ·simp at i;subst i;exact⟨by omega,by omega,R2 f⟩
   ·rw[OJ,bF,a2J,Nat.succ_mul];omega
  ·intro j;have M:b*100100≤24*100100:=jz _ (by omega);exact .some (.inr ⟨by simp,rfl,rfl,_,_,_,a,rfl,v,y,by omega⟩)
 ·rintro⟨ae,m,e⟩ ⟨rfl,A,c,x,q,a,rfl,T,X,aa⟩;simp only at A;subst A;simp only[dA,cN,bs,aW,gp];have ai:=ab.1;exact .some ⟨_,_,_,rfl,show h.length≤e.length by omega,T,a,rfl,X,aa⟩
theorem PS(w x b k:Nat)(a:b<2 ^ k)(c:x*2 ^ k+b<2 ^ w):(BitVec.ofInt w ((x*2 ^ k:Nat):Int) ||| BitVec.ofInt w (b:Int)).toNat=x*2 ^ k+b:=by
 rw[BitVec.ofInt_natCast,BitVec.ofInt_natCast,BitVec.toNat_or,BitVec.toNat_ofNat,BitVec.toNat_ofNat,Nat.mod_eq_of_lt (by omega),Nat.mod_eq_of_lt (by omega)];rw[← Nat.shiftLeft_eq,← Nat.shiftLeft_add_eq_or_of_lt a,Nat.shiftLeft_eq]
theorem Hf{x b:Int}(k:Nat)(e:0≤x)(j:0≤b)(i:b<2 ^ k)(d:x*2 ^ k+b<4294967296):IntKind.wrap .u32 (BitVec.ofInt IntKind.u32.bits (x*2 ^ k) ||| BitVec.ofInt IntKind.u32.bits b).toNat=x*2 ^ k+b:=by
 obtain⟨X,rfl⟩:=lM e;obtain⟨a,rfl⟩:=lM j;have c:((X:Int)*2 ^ k)=((X*2 ^ k:Nat):Int):=by push_cast;rfl
 have g:a<2 ^ k:=by exact_mod_cast i
 have h:X*2 ^ k+a<2 ^ IntKind.u32.bits:=by
  have f:(2:Nat) ^ IntKind.u32.bits=4294967296:=by decide
  rw[f];rw[c]at d;generalize X*2 ^ k=l at d;omega
 have:=PS IntKind.u32.bits X a k g h;rw[c,sa,this]
 push_cast;rfl
theorem a6R(x:BitVec IntKind.u64.bits):IntKind.wrap .u64 (x.toNat:Int)=x.toNat:=by
 have:=x.isLt;have a:(2:Nat) ^ IntKind.u64.bits=18446744073709551616:=by decide
 exact iF (by omega) (by omega)
theorem zC{x b:Int}(k:Nat)(e:0≤x)(j:0≤b)(i:b<2 ^ k)(d:x*2 ^ k+b<18446744073709551616):IntKind.wrap .u64 (BitVec.ofInt IntKind.u64.bits (x*2 ^ k) ||| BitVec.ofInt IntKind.u64.bits b).toNat=x*2 ^ k+b:=by
 obtain⟨X,rfl⟩:=lM e;obtain⟨a,rfl⟩:=lM j;have c:((X:Int)*2 ^ k)=((X*2 ^ k:Nat):Int):=by push_cast;rfl
 have g:a<2 ^ k:=by exact_mod_cast i
 have h:X*2 ^ k+a<2 ^ IntKind.u64.bits:=by
  have f:(2:Nat) ^ IntKind.u64.bits=18446744073709551616:=by decide
  rw[f];rw[c]at d;generalize X*2 ^ k=l at d;omega
 have:=PS IntKind.u64.bits X a k g h;rw[c,a6R,this]
 push_cast;rfl
theorem QL(a b c e:Int)(d:D)(h:J)(k:aI 1 aY [a,b,c,e] d)(n:U8 a)(o:U8 b)(p:U8 c)(q:U8 e):R oO [d] h=some (.int .u32 (num [a,b,c,e]),h):=by
 rw[Nh];unfold U8 at n o p q;have l:∀j:Int,0≤j∧j<256→IntKind.wrap .u32 j=j:=λj r=>qV r.1 (by omega)
 have v:min ((24:Int).toNat) IntKind.u32.bits=24:=by decide
 have w:min ((16:Int).toNat) IntKind.u32.bits=16:=by decide
 have x:min ((8:Int).toNat) IntKind.u32.bits=8:=by decide
 have i:(2:Int) ^ 24=16777216:=by decide
 have f:(2:Int) ^ 16=65536:=by decide
 have g:(2:Int) ^ 8=256:=by decide
 have B:IntKind.wrap .u32 (a*2 ^ 24)=(a*256)*2 ^ 16:=by rw[i,f,qV (by omega) (by omega)];omega
 have C:IntKind.wrap .u32 (b*2 ^ 16)=b*2 ^ 16:=by rw[f];exact qV (by omega) (by omega)
 have E:IntKind.wrap .u32 (c*2 ^ 8)=c*2 ^ 8:=by rw[g];exact qV (by omega) (by omega)
 have y:IntKind.wrap .u32 (BitVec.ofInt IntKind.u32.bits ((a*256)*2 ^ 16) ||| BitVec.ofInt IntKind.u32.bits (b*2 ^ 16)).toNat=((a*256+b)*256)*2 ^ 8:=by
  have m:(a*256)*2 ^ 16=a*2 ^ 24:=by rw[i,f];omega
  rw[m,Hf 24 n.1 (by rw[f];omega) (by rw[i,f];omega) (by rw[i,f];omega),i,f,g];omega
 have z:IntKind.wrap .u32 (BitVec.ofInt IntKind.u32.bits (((a*256+b)*256)*2 ^ 8) ||| BitVec.ofInt IntKind.u32.bits (c*2 ^ 8)).toNat=((a*256+b)*256+c)*2 ^ 8:=by
  have m:((a*256+b)*256)*2 ^ 8=(a*256+b)*2 ^ 16:=by rw[g,f];omega
  rw[m,Hf 16 (by omega) (by rw[g];omega) (by rw[f,g];omega) (by rw[f,g];omega),f,g];omega
 have A:IntKind.wrap .u32 (BitVec.ofInt IntKind.u32.bits (((a*256+b)*256+c)*2 ^ 8) ||| BitVec.ofInt IntKind.u32.bits e).toNat=num [a,b,c,e]:=by
  rw[Hf 8 (by omega) (by omega) (by rw[g];omega) (by rw[g];omega),PH,g]
 have s:aO tab aP d (.int .i64 0)=some (.aE (aY a)):=by rw[kh k];rfl
 have t:aO tab aP d (.int .i64 1)=some (.aE (aY b)):=by rw[kh k];rfl
 have u:aO tab aP d (.int .i64 2)=some (.aE (aY c)):=by rw[kh k];rfl
 have i3:aO tab aP d (.int .i64 3)=some (.aE (aY e)):=by rw[kh k];rfl
 simp only[wQ,bs,s,t,u,i3,rb,CC,l a n,l b o,l c p,l e q,uR,show ¬(24:Int)<0 by omega,show ¬(16:Int)<0 by omega,show ¬(8:Int)<0 by omega,aJ,v,w,x,B,C,E,uQ,y,z,A,cP]
theorem tF{l:List Int}{n:Nat}{z:Int}(h:l[n]?=some z):num (l.take (n+1))=num (l.take n)*256+z:=by
 unfold num;rw[g9,h];simp[-a7N]
theorem wg(l:List Int)(d:D)(h:J)(n:aI 1 aY l d)(E:l.length≤8)(t:∀z∈l,U8 z):R oP [d] h=some (.int .u64 (num l),h):=by
 apply Wp.val;rw[Vc];simp only[J4,bs,aL];refine Wp.loop (λj g i=>i=h∧∃x,∃a:Nat,g=[.int .u64 (num (l.take a)),.int .i64 a,x]∧j+a=l.length∧0≤num (l.take a)∧num (l.take a)<256 ^ a) (λk=>k.1 = .ext 0∧k.2.2=h∧∃m b,k.2.1=[.int .u64 (num l),m,b]) l.length ⟨rfl,_,0,rfl,rfl,by simp[-a7N,num],by simp[-a7N,num]⟩ ?_ ?_
 ·rintro j g i ⟨rfl,x,a,rfl,C,s,F⟩;simp only[J5,aW,bL,bs,aL,fm n,bS];refine Wp.dF ?_ ?_
  ·intro c;have c:a<l.length:=fe c;obtain⟨z,f⟩:=hq c;have v:=t z (eW f);have u:=eR a (by omega);unfold U8 at v;have B:num (l.take a)<72057594037927936:=by
    have:a=0∨a=1∨a=2∨a=3∨a=4∨a=5∨a=6∨a=7:=by omega
    rcases this with rfl|rfl|rfl|rfl|rfl|rfl|rfl|rfl<;>omega
   have w:min ((8:Int).toNat) IntKind.u64.bits=8:=by decide
   have e:(2:Int) ^ 8=256:=by decide
   have p:IntKind.wrap .u64 (num (l.take a)*2 ^ 8)=num (l.take a)*2 ^ 8:=by rw[e];exact iF (by omega) (by omega)
   have y:IntKind.wrap .u64 z=z:=iF (by omega) (by omega);have q:=zC (x:=num (l.take a)) (b:=z) 8 s (by omega) (by rw[e];omega) (by rw[e];omega);have r:aO tab aP d (.int .i64 (a:Int))=some (.aE (aY z)):=by rw[kh n];simp[-a7N,f]
   rw[e,← tF f]at q;rw[e]at p;simp only[uR,show ¬(8:Int)<0 by omega,aJ,w,e,p,r,rb,uP,y,uQ,q,bs,cO,u];refine .some (.inl ⟨rfl,j - 1,by omega,rfl,_,a+1,rfl,by omega,?_,?_⟩)
   ·rw[tF f];omega
   ·rw[tF f,BH];omega
  ·intro c;have c:a=l.length:=by
    have:¬(a:Int)<l.length:=by simpa using c
    omega
   subst c;rw[je];exact .some (.inr ⟨by simp,rfl,rfl,_,_,rfl⟩)
 ·rintro⟨A,g,i⟩ ⟨rfl,o,m,b,rfl⟩;simp only at o;subst o;simp only[dA,cN,bs,aW,cP];exact .some rfl
def xh(c:List (List Int))(x:D):Prop:=∃b:List (List Int × D),b.map (·.1)=c∧aI 1 (λa:List Int × D=>[a.2]) b x∧∀a∈b,aI 1 aY a.1 a.2
theorem zD(p:List Int × D)(h:J):Y tab h aP (.aE [p.2])=some p.2:=GO _ _ _
theorem QJ(a n:Int)(h:J)(e:n≤1000000000):∃r,R yk [.int .i64 a,.int .i64 n] h=some (.int .i64 r,h)∧0≤r∧(1≤n→r<n)∧(n<1→r=0):=by
 rw[U0];by_cases b:n<1
 ·exact⟨0,by simp[-a7N,Ba,b],by omega,by omega,λ_=>rfl⟩
 ·have f:(a.tmod n).natAbs<n.natAbs:=by
    have:=Int.natAbs_tmod a n;rw[this];exact Nat.mod_lt _ (by omega)
  have d:IntKind.wrap .i64 (a.tmod n+n)=a.tmod n+n:=bJ (by omega) (by omega);have c:¬n=0:=by omega
  refine⟨(a.tmod n+n).tmod n,by simp[-a7N,Ba,b,c,d],Int.tmod_nonneg _ (by omega),λ_=>Int.tmod_lt_of_pos _ (by omega),by omega⟩
theorem S0{l:List Int}{d:D}(h:aI 1 aY l d)(a b:Nat)(g:a≤b)(c:b≤l.length):∃d',eN tab aP true true true [d,.int .i64 a,.int .i64 b,.int .i64 b]=some d'∧aI 1 aY ((l.take b).drop a) d':=by
 have i:tab aP=some iK:=id rfl;have j:iK.td = .sl cD:=id rfl;have k:tab cD=some iE:=id rfl;have m:iE.V=1:=id rfl;simp only[eN,ia,bs,kf,i,j,k];rcases h with⟨rfl,rfl⟩|⟨n,rfl⟩
 ·have:b=0:=by simpa using c
  subst this;have:a=0:=by omega
  subst this;exact⟨_,rfl,.inl ⟨rfl,rfl⟩⟩
 ·have e:(a:Int)≤b:=by omega
  have f:(b:Int)≤l.length:=by omega
  simp[-a7N,m,e,f,c,g];exact .inr ⟨_,by rw[uC,nn]⟩
theorem qj{l:List Int}{d:D}(h:aI 1 aY l d)(a b:Nat)(g:a≤b)(c:b≤l.length):∃d',eN tab aP true true false [d,.int .i64 a,.int .i64 b]=some d'∧aI 1 aY ((l.take b).drop a) d':=by
 have i:tab aP=some iK:=id rfl;have j:iK.td = .sl cD:=id rfl;have k:tab cD=some iE:=id rfl;have m:iE.V=1:=id rfl;simp only[eN,ia,bs,kf,i,j,k];rcases h with⟨rfl,rfl⟩|⟨n,rfl⟩
 ·have:b=0:=by simpa using c
  subst this;have:a=0:=by omega
  subst this;exact⟨_,rfl,.inl ⟨rfl,rfl⟩⟩
 ·have e:(a:Int)≤b:=by omega
  have f:(b:Int)≤l.length:=by omega
  simp[-a7N,m,e,f,c,g];exact .inr ⟨_,by rw[uC,nn]⟩
theorem CB{l:List Int}{d:D}(h:J)(g:aI 1 aY l d)(a b:Nat)(e:a≤b)(f:b≤l.length):∃d',lQ tab h aP true true [d,.int .i64 a,.int .i64 b,.int .i64 b]=some (d',h)∧aI 1 aY ((l.take b).drop a) d':=by
 obtain⟨d',c,i⟩:=S0 g a b e f;exact⟨d',by simp only[lQ,c],i⟩
theorem Od(l:List Int)(h:l.length=4):∃a b c e,l=[a,b,c,e]:=by
 match l,h with
 |[a,b,c,e],_=>exact⟨a,b,c,e,rfl⟩
theorem PJ{l:List Int}(h:l.length=4)(a:∀z∈l,U8 z):jL (num l):=by
 obtain⟨b,c,d,e,rfl⟩:=Od l h;exact a2s (a b (by simp)) (a c (by simp)) (a d (by simp)) (a e (by simp))
theorem QM(l:List Int)(d:D)(h:J)(g:aI 1 aY l d)(i:l.length=4)(a:∀z∈l,U8 z):R oO [d] h=some (.int .u32 (num l),h):=by
 obtain⟨b,c,e,f,rfl⟩:=Od l i;exact QL b c e f d h g (a b (by simp)) (a c (by simp)) (a e (by simp)) (a f (by simp))
theorem Hm:∀(n:Nat) (r:List Int),r.length≤n→(rd r).1.length≤r.length∧∀p∈(rd r).1,p.length≤r.length
 |0,r,h=>by rw[qL (.inl (by omega))];simp[-a7N]
 | n+1,r,h=>by
  by_cases b:Stop r
  ·rw[qL b];simp[-a7N]
  ·rw[wc b];have d:¬r.length<8:=λc=>b (.inl c)
   have:=Hm n (r.drop (8+(num (r.take 4)).toNat)) (by rw[gK];omega);rw[gK]at this;refine⟨by simp only[g7];omega,λp a=>?_⟩;rcases fc.1 a with rfl|a
   ·rw[lq,gK];omega
   ·have:=this.2 p a;omega
theorem pT(b:Nat):¬D.eC .aA b:=λa=>by obtain⟨d,c,a⟩:=a;cases a
theorem qI{h:J}{n0 e z:Nat}{rows:List (List D)}{d:D}(i:aR h n0 e z rows d){b:Nat}(g:d.eC b):h[b]?=some (.row e z rows):=by
 obtain⟨m,k,rfl⟩:=g;rcases i with⟨a,_⟩|⟨l,j,a,f⟩
 ·cases a
 ·injection a with _ c;subst c;exact f
theorem PT{h:J}{n m e e' z o:Nat}{rows rows':List (List D)}{d d':D}(a:aR h n e z rows d)(b:aR h m e' o rows' d')(j:e≠e'){f:Nat}(k:d.eC f):¬d'.eC f:=λl=>by
 have g:=qI a k;have c:=qI b l;rw[g]at c;injection c with c;injection c with i;exact j i
theorem a6c:(cD:Nat)≠aP:=by decide
theorem a3R(l:List Int)(d:D)(h:J)(i:aI 1 aY l d)(cm:l.length≤100000000)(a3:∀z∈l,U8 z):∃x,R yp [d] h=some (.bD [x,.int .i64 (rd l).2],h)∧xh (rd l).1 x:=by
 suffices Wp (R yp [d] h) (λb=>b.2=h∧∃x,b.1 = .bD [x,.int .i64 (rd l).2]∧xh (rd l).1 x) by
  obtain⟨⟨x,cj⟩,w,rfl,d',rfl,bo⟩:=this;exact⟨d',w,bo⟩
 rw[Va];simp only[J1,bs,aL];refine Wp.loop (λal ag f=>h.length≤f.length∧(∀a,a<h.length→f[a]?=h[a]?)∧∃x F G H I K,∃n:Nat,∃e:List (List Int × D),ag=[x,.int .i64 n,F,G,H,I,K]∧al+n=l.length∧n≤l.length∧e.length≤n∧aR f h.length aP 1 (e.map λb=>[b.2]) x∧(∀b∈e,aR f h.length cD 1 (b.1.map aY) b.2)∧(rd l).1=e.map (·.1)++(rd (l.drop n)).1∧(rd l).2=n+(rd (l.drop n)).2)
  (λB=>B.1 = .ext 0∧h.length≤B.2.2.length∧(∀a,a<h.length→B.2.2[a]?=h[a]?)∧∃x F G H I K,∃ar:Nat,∃e:List (List Int × D),B.2.1=[x,.int .i64 ar,F,G,H,I,K]∧aR B.2.2 h.length aP 1 (e.map λb=>[b.2]) x∧(∀b∈e,aR B.2.2 h.length cD 1 (b.1.map aY) b.2)∧(rd l).1=e.map (·.1)∧(rd l).2=ar) l.length
  ⟨bB _,λ_ _=>rfl,_,_,_,_,_,_,0,[],rfl,rfl,by omega,by simp,aR.aA _ _ _ _,by simp,by simp,by simp⟩ ?_ ?_
 ·rintro al ag f ⟨r,g,x,F,G,H,I,K,n,e,rfl,cl,co,cp,t,s,C,E⟩;have au:IntKind.wrap .i64 ((l.length:Int) - n)=(l.length:Int) - n:=bJ (by omega) (by omega);simp only[J2,aW,bL,bs,aL,fm i,eB,au,mO];have stop:Stop (l.drop n)→(rd l).1=e.map (·.1)∧(rd l).2=n:=λM=>by
   rw[qL M]at C E;exact⟨by simpa using C,by simpa using E⟩
  refine Wp.dF ?_ ?_
  ·intro L;have L:n+8≤l.length:=by
    have:(8:Int)≤(l.length:Int) - n:=by simpa using L
    omega
   have a9:IntKind.wrap .i64 ((n:Int)+4)=((n+4:Nat):Int):=by rw[bJ (by omega) (by omega)];omega
   have cb:IntKind.wrap .i64 ((n:Int)+8)=((n+8:Nat):Int):=by rw[bJ (by omega) (by omega)];omega
   obtain⟨bg,av,ap⟩:=qj i n (n+4) (by omega) (by omega);have b3:(l.take (n+4)).drop n=(l.drop n).take 4:=by rw[od];congr 1;omega
   rw[b3]at ap;have bu:((l.drop n).take 4).length=4:=by simp;omega
   have a4:∀z∈(l.drop n).take 4,U8 z:=λz ak=>a3 z (fM (fG ak))
   have ah:=wg _ bg f ap (by omega) a4;have ay:=PJ bu a4;unfold jL at ay;generalize aa:num ((l.drop n).take 4)=P at ah ay;have ba:IntKind.wrap .i64 P=P:=bJ (by omega) (by omega);obtain⟨c,bv⟩:∃c:Nat,P=c:=⟨P.toNat,by omega⟩
   subst bv;have bb:IntKind.wrap .i64 ((l.length:Int) - (n:Int) - 8)=(l.length:Int) - (n:Int) - 8:=bJ (by omega) (by omega);by_cases ck:c<1∨8388608<c∨l.length - n - 8<c
   ·have M:Stop (l.drop n):=by
      unfold Stop;rw[aa,gK];simp only[eQ];omega
    obtain⟨p,q⟩:=stop M;simp only[cO,a9,av,bs,ah,nE,ba,e8];by_cases A:(c:Int)=0
    ·simp only[A,lr,cM,bZ,reduceCtorEq,eP,aJ,bs,bW,aK,aN];exact .some (.inr ⟨by simp,rfl,r,g,_,_,_,_,_,_,n,e,rfl,t,s,p,q⟩)
    ·have Q:((c:Int)==0)=false:=by simpa using A
     by_cases T:(c:Int)>8388608
     ·simp only[A,Q,T,cM,bT,bZ,reduceCtorEq,eP,aJ,aN,bs,bW,aK,dE];exact .some (.inr ⟨by simp,rfl,r,g,_,_,_,_,_,_,n,e,rfl,t,s,p,q⟩)
     ·have af:(c:Int)>(l.length:Int) - (n:Int) - 8:=by omega
      simp only[A,Q,T,af,cM,bT,bZ,reduceCtorEq,eP,aU,aJ,aN,bs,bW,aK,dE,fm i,eB,au,bb];exact .some (.inr ⟨by simp,rfl,r,g,_,_,_,_,_,_,n,e,rfl,t,s,p,q⟩)
   ·have A:¬(c:Int)=0:=by omega
    have Q:((c:Int)==0)=false:=by
     have:¬(c:Int)=0:=by omega
     simpa using this
    have T:¬(c:Int)>8388608:=by omega
    have af:¬(c:Int)>(l.length:Int) - (n:Int) - 8:=by omega
    have cc:IntKind.wrap .i64 (((n+8:Nat):Int)+(c:Int))=((n+8+c:Nat):Int):=by rw[bJ (by omega) (by omega)];omega
    have cd:IntKind.wrap .i64 ((8:Int)+(c:Int))=((8+c:Nat):Int):=by rw[bJ (by omega) (by omega)];omega
    have ce:IntKind.wrap .i64 ((n:Int)+((8+c:Nat):Int))=((n+(8+c):Nat):Int):=by rw[bJ (by omega) (by omega)];omega
    obtain⟨ch,bk,aq⟩:=qj i (n+8) (n+8+c) (by omega) (by omega);obtain⟨bf,bi,a8⟩:=qj i (n+4) (n+8) (by omega) (by omega);have b4:(l.take (n+8+c)).drop (n+8)=((l.drop n).drop 8).take c:=by rw[od,mF];congr 1;omega
    have b2:(l.take (n+8)).drop (n+4)=((l.drop n).drop 4).take 4:=by rw[od,mF];congr 1;omega
    rw[b4]at aq;rw[b2]at a8;have cn:(((l.drop n).drop 4).take 4).length=4:=by simp;omega
    have b1:∀z∈((l.drop n).drop 4).take 4,U8 z:=λz ak=>a3 z (fM (fM (fG ak)))
    simp only[cO,a9,av,bs,ah,nE,ba,cb,e8,dE,A,Q,T,af,cM,bT,bZ,reduceCtorEq,eP,aU,aJ,aN,bW,aK,fm i,eB,au,bb,cc,bk,bi];have b0:(((l.drop n).drop 8).take c).length=c:=by simp;omega
    generalize ai:((l.drop n).drop 8).take c=y at aq b0;obtain⟨X,m,bm,v⟩:=oz (l:=[]) (d :=.aA) r (aR.aA _ _ _ _) (m6 (h:=f) (.inl aq)) (by simp;omega);simp only[kp]at v;have bj:=wg _ bf m a8 (by omega) b1;obtain⟨ci,ax,bl,u⟩:=oz (n0:=m.length) (h:=m) (l:=[]) (d :=.aA) (bB _) (aR.aA _ _ _ _) (m6 (h:=m) (.inl ap)) (by simp;omega);simp only[kp]at u;have ca:iq ax y X:=(iq.own v.ow).cL λa cg z cq g=>u.ji a (bR.1 g).1 (pT a)
    obtain⟨bh,o,aw,ad⟩:=oz (n0:=m.length) u.len u.ow (m6 ca) (by simp;omega);have uV:=QF _ bh o (.inr ⟨_,_,ad.ow⟩) (by simp;omega);have br:=MG ((l.drop n).take 4++y);unfold jL at br;have cf:IntKind.wrap .u64 (jr ((l.drop n).take 4++y))=jr ((l.drop n).take 4++y):=iF (by omega) (by omega);have b6:h.length≤m.length:=fD r v.len;have b7:m.length≤ax.length:=u.len;have am:h.length≤o.length:=fD (fD b6 b7) ad.len;have a6:∀a,a<m.length→o[a]?=m[a]?:=λa g=>(ad.ji a (by omega) (λk=>by have:=(u.ow.lt k).1;omega)).trans (u.ji a g (pT a))
    have an:∀a,a<f.length→o[a]?=f[a]?:=λa g=>(a6 a (by have:=v.len;omega)).trans (v.ji a g (pT a))
    have ao:aR o h.length aP 1 (e.map λb=>[b.2]) x:=t.cL λa _ k=>an a (t.lt k).2
    have a1:∀b∈e,aR o h.length cD 1 (b.1.map aY) b.2:=λb j=>(s b j).cL λa _ k=>an a ((s b j).lt k).2
    have a7:aR o h.length cD 1 (y.map aY) X:=v.ow.cL λa _ k=>a6 a (v.ow.lt k).2
    have a0:∀a,a<h.length→o[a]?=h[a]?:=λa ac=>(an a (by omega)).trans (g a ac)
    simp only[bm,bj,bl,aw,uV,bs,CE,cf,dH];by_cases ab:num (((l.drop n).drop 4).take 4)=jr ((l.drop n).take 4++y)
    ·have aj:¬Stop (l.drop n):=by
       unfold Stop;rw[aa,gK];simp only[eQ];rw[ai];rintro(w|w|w|w|w)
       ·omega
       ·omega
       ·omega
       ·omega
       ·exact w ab
     rw[wc aj,aa]at C E;simp only[eQ]at C E;rw[ai,mF]at C;rw[mF]at E;simp only[ab,dU,eF,bT,aK,aU,aJ,bs,L9 X (jj a7)];refine Rr am ao (hC _ _ _ _) (by simp;omega) λcr bn b8 b5 bd be _=>?_
     simp only[bs,cO,cd,ce];have a5:∀{b:List Int} {d:D},aR o h.length cD 1 (b.map aY) d→aR bn h.length cD 1 (b.map aY) d:=λN=>N.cL λa _ k=>be a (N.lt k).2 (PT N ao a6c k)
     refine .some (.inl ⟨rfl,al - (8+c),by omega,fD am b5,λa ac=>(bd a ac).trans (a0 a ac),_,_,_,_,_,_,n+(8+c),e++[(y,X)],rfl,by omega,by omega,by simp;omega,?_,?_,?_,?_⟩)
     ·simpa using b8
     ·intro b j;rcases fp.1 j with j|j
      ·exact a5 (a1 b j)
      ·rw[np.1 j];exact a5 a7
     ·rw[C];simp only[gL,fP,kE,gF,B0]
     ·rw[E];simp only[nr]
    ·have M:Stop (l.drop n):=by
       unfold Stop;rw[aa];simp only[eQ];rw[ai];exact .inr (.inr (.inr (.inr ab)))
     obtain⟨p,q⟩:=stop M;simp only[ab,dU,fw,cM,aK,aN];exact .some (.inr ⟨by simp,rfl,am,a0,_,_,_,_,_,_,n,e,rfl,ao,a1,p,q⟩)
  ·intro L;have L:¬n+8≤l.length:=by
    have:¬(8:Int)≤(l.length:Int) - n:=by simpa using L
    omega
   obtain⟨p,q⟩:=stop (.inl (by rw[gK];omega));exact .some (.inr ⟨by simp,rfl,r,g,_,_,_,_,_,_,n,e,rfl,t,s,p,q⟩)
 ·rintro⟨aw,ag,f⟩ ⟨rfl,r,g,x,F,G,H,I,K,ar,e,rfl,t,s,p,q⟩;subst q;simp only[dA,cN,bs,aW,bL,gp];have bt:∀b∈e,aI 1 aY b.1 (cS h.length f 2 b.2):=λb j=>gS (n:=1) (s b j) (bB _) λae _=>nC _ f 1 ae
  have a2:aI 1 (λb:List Int × D=>[b.2]) (e.map λb=>(b.1,cS h.length f 2 b.2)) (cS h.length f 3 x):=by
   rcases t with⟨rfl,bw⟩|⟨N,bx,rfl,aj⟩
   ·have:e=[]:=by simpa using bw
    subst this;exact .aA _ _
   ·refine .inr ⟨false,?_⟩;have bq:Nat.ble h.length N=true:=jK bx;simp only[cS,bq,aj,il];rw[hN (by simp)];simp[-a7N,sx,kY]
  have az:∀b∈e.map (λb=>(b.1,cS h.length f 2 b.2)),aI 1 aY b.1 b.2:=λb j=>by
   obtain⟨b9,bz,rfl⟩:=g8.1 j;exact bt b9 bz
  rw[ff (d' :=.bD [cS h.length f 3 x,.int .i64 (rd l).2]) (by simp) (by
   refine .bD _ λd i=>?_
   simp at i;rcases i with rfl|rfl
   ·exact e7 a2 λae bp d i=>by simp at i;subst i;exact e7 (az ae bp) λbc _=>pf _ bc
   ·constructor) r g]
  exact .some ⟨rfl,_,rfl,_,by rw[p];simp[-a7N],a2,az⟩
theorem zG{h:J}{l:List Int}{d:D}(a:iq h l d):aI 1 aY l (cS 0 h 3 d):=by
 rcases a with a|⟨f,rfl,e⟩
 ·rw[iJ (n:=2) a λb _=>nC _ h 2 b];exact a
 ·refine .inr ⟨false,?_⟩;have c:Nat.ble 0 f=true:=jK (mI _);simp only[cS,c,e,il];rw[hN (by simp)];simp[-a7N,sx,kY,aY]
theorem SD(z v:Int):dZ (aY z) 0 (cX (.int .u8 v))=aY v:=id rfl
theorem a0Q(v:Int)(n0:Nat):∀(k:Nat),k≤8→∀(h:J) (l:List Int) (d a:D),n0≤h.length→aR h n0 cD 1 (l.map aY) d→l.length+k≤1000000000→∃d' h' b,cA (wV (.int .u64 v)) [d,.int .i64 (8*((k:Int) - 1)),a] h=some (.ext 0,[d',b,.bool false],h')∧Bw n0 h d h' (l++gu k v) d':=by
 intro k
 induction k with
 | zero =>
  intro _ h l d a e f s;rw[iX];refine⟨d,h,_,by simp[-a7N,wV];rfl,?_⟩;simpa[-a7N,gu]using Bw.refl f
 | succ k w =>
  intro z h l d a e f s;have g:(0:Int)≤8*(((k+1:Nat):Int) - 1):=by omega
  have t:8*(((k+1:Nat):Int) - 1)=8*(k:Int):=by omega
  have u:IntKind.wrap .i64 (8*(k:Int) - 8)=8*((k:Int) - 1):=by rw[bJ (by omega) (by omega)];omega
  have q:¬(8*(k:Int))<0:=by omega
  have r:min (8*(k:Int)).toNat IntKind.u64.bits=8*k:=by
   have:IntKind.u64.bits=64:=rfl;rw[this];omega
  obtain⟨x,p,n,c⟩:=oz (y :=.sl 1 true [aY (IntKind.wrap .u8 (v.fdiv (2 ^ (8*k))))]) (m:=[IntKind.wrap .u8 (v.fdiv (2 ^ (8*k)))]) e f (hC _ _ _ _) (by simp;omega);obtain⟨d',h',b,o,j⟩:=w (by omega) p _ x (.bool true) (fD e c.len) c.ow (by simp;omega);refine⟨d',h',b,?_,?_⟩
  ·rw[iX];rw[t]at g ⊢;simp only[wV,aW,bL,bs,mO,fX g,aK,aN,ke,q,aJ,r,xG,xw,show ∀i,([[D.int .u8 i]]:List (List D))=[aY i]from λ_=>rfl,n,eB,u];exact o
  ·have:=c.trans j;simpa[-a7N,gu]using this
theorem wi(v:Int)(k:Nat)(c:k≤8)(n0:Nat)(h:J)(l:List Int)(d:D)(e:n0≤h.length)(i:aR h n0 cD 1 (l.map aY) d)(m:l.length≤999999000):∃d' h',R mZ [d,.int .u64 v,.int .i64 k] h=some (d',h')∧Bw n0 h d h' (l++gu k v) d':=by
 obtain⟨d',h',j,b,a⟩:=a0Q v n0 k c h l d .any e i (by omega);refine⟨d',h',?_,a⟩;rw[Vm];have f:IntKind.wrap .i64 ((k:Int) - 1)=(k:Int) - 1:=by rw[bJ (by omega) (by omega)]
 have g:IntKind.wrap .i64 (8*((k:Int) - 1))=8*((k:Int) - 1):=by rw[bJ (by omega) (by omega)]
 simp only[Kg,bs,eB,f,oJ,g,aL,b,dA,cN,aW,cP]
theorem QP(l:List Int)(d:D)(h:J)(o:iq h l d)(C:l.length≤9223372036854775806)(r:∀z∈l,U8 z):R yu [d] h=some (.int .u64 (gz l),h):=by
 apply Wp.val;rw[Vn];simp only[Kh,bs,aL,rT o];refine Wp.loop (λi e f=>f=h∧∃p q,∃a:Nat,e=[.int .u64 (gz (l.take a)),p,.int .i64 a,q]∧i+a=l.length) (λj=>j.1 = .ext 0∧j.2.2=h∧∃k m n,j.2.1=[.int .u64 (gz l),k,m,n]) l.length ⟨rfl,_,_,0,rfl,rfl⟩ ?_ ?_
 ·rintro i e f ⟨rfl,p,q,a,rfl,B⟩;simp only[Ki,aW,bL,bs,aL,bS];refine Wp.dF ?_ ?_
  ·intro b;have b:a<l.length:=fe b;obtain⟨z,g⟩:=hq b;have t:=r z (eW g);obtain⟨F,u,c⟩:=Hj o a z g;have E:=Mv (l.take a);have s:=eR a (by omega);unfold U8 at t;have v:IntKind.wrap .u64 (gz (l.take a)*31)=gz (l.take a)*31:=iF (by omega) (by omega);have w:IntKind.wrap .u64 z=z:=iF (by omega) (by omega);have x:IntKind.wrap .u64 (gz (l.take a)*31+z)=gz (l.take a)*31+z:=iF (by omega) (by omega);have y:(gz (l.take a)*31+z).tmod 4294967291=gz (l.take (a+1)):=by
    rw[Mw g,Lv (by omega)]
   simp only[oJ,v,u,c,uP,w,cO,x,bs,qk,show ¬((4294967291:Int)=0) by omega,aJ,y,s];exact .some (.inl ⟨rfl,i - 1,by omega,rfl,_,_,a+1,rfl,by omega⟩)
  ·intro b;have b:a=l.length:=by
    have:¬(a:Int)<l.length:=by simpa using b
    omega
   subst b;rw[je];exact .some (.inr ⟨by simp,rfl,rfl,_,_,_,rfl⟩)
 ·rintro⟨A,e,f⟩ ⟨rfl,c,k,m,n,rfl⟩;simp only at c;subst c;simp only[dA,cN,bs,aW,cP];exact .some rfl
structure jU (n0 oi ow:Nat) (h0:J) (it:List D) (g:J) (l:List Int):Prop where
 hi:g[oi]?=some (.row aH 11 [it])
 hw:∃d,g[ow]?=some (.row jm 1 [[d]])∧aR g n0 cD 1 (l.map aY) d
 lo:∀q,q<n0→g[q]?=h0[q]?
 ln:n0≤g.length
theorem tB{g:J}{a:Nat}{d:D}(h:g[a]?=some (.row jm 1 [[d]])):Y tab g aP (.ptr a 0 (0+0))=some d:=by rw[zf,dM h];rfl
theorem jU.put{n0 m c:Nat}{u:J}{x:List D}{g g':J}{l z:List Int}{d d':D}(s:jU n0 m c u x g l)(I:n0≤c)(hw:g[c]?=some (.row jm 1 [[d]]))(v:aR g n0 cD 1 (l.map aY) d)(B:Bw n0 g d g' z d'){C:Type}{f:J→Option C}{Q:C→Prop}
  (k:∀h,jU n0 m c u x h z→Wp (f h) Q):Wp ((aS tab g' aP (.ptr c 0 (0+0)) d').bind f) Q:=by
 have G:∀{a e p:Nat} {n:List (List D)},g[a]?=some (.row e p n)→e≠cD→¬d.eC a:=λb r j=>by
  have:=qI v j;rw[b]at this;injection this with this;injection this with i;exact r i
 have y:∀{a e p:Nat} {n:List (List D)},g[a]?=some (.row e p n)→e≠cD→g'[a]?=some (.row e p n):=λb r=>by
  rw[B.ji _ (bR.1 b).1 (G b r)];exact b
 have w:=y hw (by decide);have F:=y s.hi (by decide);refine Ix w (by rfl) (by rcases B.ow with⟨rfl,_⟩|⟨A,_,rfl,_⟩<;>rfl) (by simp) (by rcases B.ow with⟨rfl,_⟩|⟨A,_,rfl,_⟩<;>rfl) λh q o=>?_
 have H:m≠c:=λt=>by
  subst t;rw[s.hi]at hw;injection hw with hw;injection hw with i;exact absurd i (by decide)
 have E:cX d'=[d']:=by rcases B.ow with⟨rfl,_⟩|⟨A,_,rfl,_⟩<;>rfl
 have q:h[c]?=some (.row jm 1 [[d']]):=by rw[q,E];rfl
 refine k h ⟨by rw[o.2 m H];exact F,⟨d',q,B.ow.cL λa _ j=>o.2 a λt=>?_⟩,λa b=>?_,?_⟩
 ·subst t;have:=qI B.ow j;rw[w]at this;injection this with this;injection this with i;exact absurd i (by decide)
 ·rw[o.2 a (by omega),B.ji a (by have:=s.ln;omega) (λj=>by have:=(v.lt j).1;omega)];exact s.lo a b
 ·have:=o.1;have:=B.len;have:=s.ln;omega
theorem wz{n0 m b:Nat}{e:J}{j:List D}{g:J}{l:List Int}(s:jU n0 m b e j g l)(w:n0≤b)(u:l.length≤999999000)(t:D)(n:Int)(x:dS tab t=some t)(v:Y tab g U t=some (.int .i64 n)){o:Type}{f:D × J→Option o}{Q:o→Prop}
  (k:∀a,jU n0 m b e j a (l++pI n)→Wp (f (aF [],a)) Q):Wp ((R DC [.ptr b 0 0,t] g).bind f) Q:=by
 obtain⟨d,i,h⟩:=s.hw;obtain⟨q,r,c,p⟩:=wi (IntKind.wrap .u64 n) 8 (by omega) n0 g l d s.ln h u;have c:R mZ [d,.int .u64 (IntKind.wrap .u64 n),.int .i64 8] g=some (q,r):=c;rw[Vv];simp only[Kv,bs,gg,xQ,tB i,x,v,lx,c,aL];refine s.put w i h p λa y=>?_
 try simp only[bs]
 exact k a y
theorem Rp{n0 m b:Nat}{e:J}{j:List D}{g:J}{l:List Int}(s:jU n0 m b e j g l)(u:n0≤b)(t:l.length≤999999000)(n:Nat){o:Type}{f:D × J→Option o}{Q:o→Prop}
  (k:∀a,jU n0 m b e j a (l++pN n)→Wp (f (.int .i64 n,a)) Q):Wp ((R DB [.ptr b 0 0,.int .i64 n] g).bind f) Q:=by
 obtain⟨d,i,h⟩:=s.hw;obtain⟨q,r,c,p⟩:=wi (IntKind.wrap .u64 n) 4 (by omega) n0 g l d s.ln h t;have c:R mZ [d,.int .u64 (IntKind.wrap .u64 n),.int .i64 4] g=some (q,r):=c;rw[Vu];simp only[Ku,bs,gg,xQ,tB i,lx,c,aL];refine s.put u i h p λa v=>?_
 simp only[bs,cP];exact k a v
theorem uc{n0 b e:Nat}{o:J}{d:List D}{g:J}{l:List Int}(s:jU n0 b e o d g l)(A:n0≤e)(u:aD)(H:l.length+u.length≤999998000)(t:D)(C:dS tab t=some t)(p:∀g':J,g'[b]?=some (.row aH 11 [d])→Y tab g' bH t=some (.str u)){r:Type}{f:D × J→Option r}{Q:r→Prop}
  (k:∀a,jU n0 b e o d a (l++pS u)→Wp (f (aF [],a)) Q):Wp ((R DD [.ptr e 0 0,t] g).bind f) Q:=by
 obtain⟨n,q,j⟩:=s.hw;obtain⟨w,i,h,c⟩:=wi (IntKind.wrap .u64 u.length) 4 (by omega) n0 g l n s.ln j (by omega);have h:R mZ [n,.int .u64 (IntKind.wrap .u64 u.length),.int .i64 4] g=some (w,i):=h;obtain⟨G,a,x,v⟩:=LW (fD s.ln c.len) c.ow u (by simp only[bF,hQ];omega);have z:i[b]?=some (.row aH 11 [d]):=by
  rw[c.ji b (bR.1 s.hi).1 (λE=>by
   have:=qI j E;rw[s.hi]at this;injection this with this;injection this with y;exact absurd y (by decide))]
  exact s.hi
 have m:=c.trans v;have B:l++gu 4 (IntKind.wrap .u64 u.length)++o1 u=l++pS u:=by simp[-a7N,pS,pN]
 rw[B]at m;rw[Vw];simp only[Kw,bs,gg,xQ,tB q,C,p g s.hi,gn,lx,h,p i z,x,aL];refine s.put A q j m λa F=>?_
 simp only[bs,iN];exact k a F
theorem zt(d:D):dS tab (.fn (.method "logtide/event.number") [.iface nX d] [])=some (.fn (.method "logtide/event.number") [.iface nX d] []):=by kernel_rfl
theorem zv(d:D):dS tab (.fn (.method "logtide/event.text") [.iface nX d] [])=some (.fn (.method "logtide/event.text") [.iface nX d] []):=by kernel_rfl
theorem G7(d:D):dS tab (.fn (.method "logtide/event.count") [.iface nX d] [])=some (.fn (.method "logtide/event.count") [.iface nX d] []):=by kernel_rfl
theorem rQ(cs:List D):dS tab (.aE cs)=some (.aE cs):=id rfl
theorem nN{g:J}{a:Nat}{i:It}(h:g[a]?=some (.row aH 11 [aT i])):Y tab g bH (.ptr a 0 (0+0))=some (.str i.r)∧Y tab g U (.ptr a 0 (0+1+0))=some (.int .i64 i.e.a0)∧Y tab g U (.ptr a 0 (0+1+1))=some (.int .i64 i.e.a1) ∧
  Y tab g U (.ptr a 0 (0+1+2))=some (.int .i64 i.e.a2)∧Y tab g U (.ptr a 0 (0+1+3))=some (.int .i64 i.e.a3)∧Y tab g bU (.ptr a 0 (0+1+4))=some i.e.ld∧Y tab g U (.ptr a 0 (0+1+5))=some (.int .i64 i.e.a5) ∧
  Y tab g U (.ptr a 0 (0+1+6))=some (.int .i64 i.e.a6)∧Y tab g bH (.ptr a 0 (0+1+7))=some (.str i.e.s7)∧Y tab g bH (.ptr a 0 (0+1+8))=some (.str i.e.s8)∧Y tab g bQ (.ptr a 0 (0+1+9))=some i.e.fd:=by
 refine⟨?_,?_,?_,?_,?_,?_,?_,?_,?_,?_,?_⟩
 ·rw[j1,dM h];rfl
 ·rw[iC,dM h];rfl
 ·rw[iC,dM h];rfl
 ·rw[iC,dM h];rfl
 ·rw[iC,dM h];rfl
 ·rw[m2,dM h];rfl
 ·rw[iC,dM h];rfl
 ·rw[iC,dM h];rfl
 ·rw[j1,dM h];rfl
 ·rw[j1,dM h];rfl
 ·rw[zg,dM h];rfl
def tG(a:Nat):List (List D):=[[.ptr a 0 (0+1+0)],[.ptr a 0 (0+1+1)],[.ptr a 0 (0+1+2)],[.ptr a 0 (0+1+3)]]
def pA(i:It):List Int:=[i.e.a0,i.e.a1,i.e.a2,i.e.a3]
theorem Y8{g:J}{b:Nat}{i:It}(h:g[b]?=some (.row aH 11 [aT i]))(n:Nat)(j:n<4):∃t a,aO tab pX (.sl 1 true (tG b)) (.int .i64 n)=some (.aE [t])∧dS tab t=some t∧Y tab g U t=some (.int .i64 a)∧(pA i)[n]?=some a:=by
 obtain⟨_,c,d,e,f,_⟩:=nN h;have:n=0∨n=1∨n=2∨n=3:=by omega
 rcases this with rfl|rfl|rfl|rfl
 ·exact⟨_,_,by rw[vH];rfl,gg _ _ _ _,c,rfl⟩
 ·exact⟨_,_,by rw[vH];rfl,gg _ _ _ _,d,rfl⟩
 ·exact⟨_,_,by rw[vH];rfl,gg _ _ _ _,e,rfl⟩
 ·exact⟨_,_,by rw[vH];rfl,gg _ _ _ _,f,rfl⟩
theorem a6t(i:It){n0 c p:Nat}{u g:J}{l:List Int}(s:jU n0 c p u (aT i) g l)(n:n0≤p)(ah:l.length+(fW i).length≤900000000){aa:Type}{f:D × J→Option aa}{Q:aa→Prop}
  (k:∀z,jU n0 c p u (aT i) z (l++fW i)→Wp (f (aF [],z)) Q):Wp ((R vn [.iface nX (.ptr p 0 0),.ptr c 0 0] g).bind f) Q:=by
 have ag:=ah;simp only[fW,k4,jB,bF,fI,g6,hv]at ag;have a9:=i.e.qB;have a8:=i.e.hl;rw[Nj];simp only[Bh,bs,aL,gg,u1,lB,zv,zt,G7,y0,vE,GC,uZ,u0,qs,s3];refine uc s n i.r (by omega) _ (gg _ _ _ _) (λh A=>(nN A).1) λau an=>?_
 simp only[bs,Ma (.ptr c 0 (0+1+0)) (.ptr c 0 (0+1+1)) (.ptr c 0 (0+1+2)) (.ptr c 0 (0+1+3)) rfl rfl rfl rfl,show([[.ptr c 0 (0+1+0)],[.ptr c 0 (0+1+1)],[.ptr c 0 (0+1+2)],[.ptr c 0 (0+1+3)]]:List (List D))=tG c from rfl,O7,show(tG c).length=4 from rfl];refine Wp.loop (λr q h=>∃d e,∃a:Nat,q=[d,.int .i64 a,e]∧r+a=4∧jU n0 c p u (aT i) h (l++pS i.r++(((pA i).take a).map pI).flatten))
  (λt=>t.1 = .ext 0∧(∃d e m,t.2.1=[d,e,m])∧jU n0 c p u (aT i) t.2.2 (l++pS i.r++((pA i).map pI).flatten)) 4 ⟨_,_,0,rfl,rfl,by simpa using an⟩ ?_ ?_
 ·rintro r q h ⟨d,e,a,rfl,N,o⟩;simp only[Bi,aW,bL,bs,aL,bS];refine Wp.dF ?_ ?_
  ·intro b;have b:a<4:=by
    have:(a:Int)<((4:Nat):Int):=by simpa using b
    omega
   obtain⟨aq,ar,aj,ak,al,am⟩:=Y8 o.hi a b;have B:=eR a (by omega);have F:=qt pI (pA i) a;have a7:((pA i).map pI).flatten.length=32:=by simp only[pA,fP,kE,kn,List.flatten_nil,bF,fI,e6]
   simp only[aj,vP,bs,vE];refine wz o n (by simp only[bF,hv];omega) aq ar ak al λz y=>?_
   simp only[bs,cO,B];refine .some (.inl ⟨rfl,r - 1,by omega,_,_,a+1,rfl,by omega,?_⟩);rw[js pI am];simpa using y
  ·intro b;have b:a=4:=by
    have:¬(a:Int)<((4:Nat):Int):=by simpa using b
    omega
   subst b;exact .some (.inr ⟨by simp,rfl,⟨_,_,_,rfl⟩,o⟩)
 rintro⟨L,q,z⟩ ⟨rfl,⟨d,e,m,rfl⟩,y⟩;have y:jU n0 c p u (aT i) z (l++pS i.r++((pA i).map pI).flatten):=y;have ad:((pA i).map pI).flatten=pI i.e.a0++pI i.e.a1++pI i.e.a2++pI i.e.a3:=by simp[-a7N,pA]
 rw[ad]at y;simp only[dA,cN,bs,aL,gg,jY,(nN y.hi).2.2.2.2.2.1,hX i.e.ft,G7,GC];refine Rp y n (by simp only[bF,fI,hv];omega) i.e.ls.length λav P=>?_
 have ae:l++pS i.r++(pI i.e.a0++pI i.e.a1++pI i.e.a2++pI i.e.a3)++pN i.e.ls.length=l++jB i:=by simp[-a7N,jB]
 rw[ae]at P;have az:(jB i).length=4+i.r.length+36:=by simp only[jB,bF,hv,fI,g6]
 simp only[bs];refine Wp.loop (λr q h=>∃d e m w,∃a:Nat,q=[d,e,.int .i64 a,m,w]∧r+a=i.e.ls.length∧jU n0 c p u (aT i) h (l++jB i++((i.e.ls.take a).map hO).flatten))
  (λt=>t.1 = .ext 2∧(∃d e m w K,t.2.1=[d,e,m,w,K])∧jU n0 c p u (aT i) t.2.2 (l++jB i++(i.e.ls.map hO).flatten)) i.e.ls.length ⟨_,_,_,_,0,rfl,rfl,by simpa using P⟩ ?_ ?_
 ·rintro r q h ⟨d,e,m,w,a,rfl,N,o⟩;simp only[wT,aW,bL,bs,aL,bS];refine Wp.dF ?_ ?_
  ·intro b;have b:a<i.e.ls.length:=fe b;obtain⟨j,x⟩:=hq b;have B:=eR a (by omega);have E:aO tab bU i.e.ld (.int .i64 (a:Int))=some (.aE (cR j)):=by rw[m0 i.e.ft];simp[-a7N,x]
   have F:=qt hO i.e.ls (a+1);rw[js hO x,bF]at F;have ai:(hO j).length=20+j.fj.length:=by simp only[hO,bF,fI,hv];omega
   have I:¬(a:Int)=(i.e.ls.length:Int):=by omega
   simp only[gg,jY,bs,(nN o.hi).2.2.2.2.2.1,hX i.e.ft,e8,I,bT,aK,aU,aJ,cN,E,rQ,OU,OV,OW,zt,zv,vE,y0];refine wz o n (by simp only[bF];omega) _ j.off (rQ _) (OX j h) λH v=>?_
   simp only[bs];refine wz v n (by simp only[bF,fI];omega) _ j.len (rQ _) (eU _ _ _) λab G=>?_
   simp only[bs];refine uc G n j.fj (by simp only[bF,fI];omega) _ (rQ _) (λh _=>gW _ _ _) λM C=>?_
   simp only[bs,cO,B];refine .some (.inl ⟨rfl,r - 1,by omega,_,_,_,_,a+1,rfl,by omega,?_⟩);rw[js hO x];simpa[-a7N,hO]using C
  ·intro b;have b:a=i.e.ls.length:=by
    have:¬(a:Int)<i.e.ls.length:=by simpa using b
    omega
   subst b;rw[je]at o;exact .some (.inr ⟨by simp,rfl,⟨_,_,_,_,_,rfl⟩,o⟩)
 rintro⟨L,q,H⟩ ⟨rfl,⟨d,e,m,w,K,rfl⟩,v⟩;have v:jU n0 c p u (aT i) H (l++jB i++(i.e.ls.map hO).flatten):=v;simp only[dA,cN,bs,aL,gg,xT,xU,xV,xW,oM,zt,zv,G7,vE,y0,GC];refine wz v n (by simp only[bF];omega) _ i.e.a5 (gg _ _ _ _) (nN v.hi).2.2.2.2.2.2.1 λab G=>?_
 simp only[bs];refine wz G n (by simp only[bF,fI];omega) _ i.e.a6 (gg _ _ _ _) (nN G.hi).2.2.2.2.2.2.2.1 λM C=>?_
 simp only[bs];refine uc C n i.e.s7 (by simp only[bF,fI];omega) _ (gg _ _ _ _) (λh A=>(nN A).2.2.2.2.2.2.2.2.1) λaw ao=>?_
 simp only[bs];refine uc ao n i.e.s8 (by simp only[bF,fI,hv];omega) _ (gg _ _ _ _) (λh A=>(nN A).2.2.2.2.2.2.2.2.2.1) λax T=>?_
 simp only[bs,(nN T.hi).2.2.2.2.2.2.2.2.2.2,hZ i.e.gH];refine Rp T n (by simp only[bF,fI,hv];omega) i.e.fs.length λay X=>?_
 have af:l++jB i++(i.e.ls.map hO).flatten++pI i.e.a5++pI i.e.a6++pS i.e.s7++pS i.e.s8++pN i.e.fs.length=l++k4 i:=by simp[-a7N,k4]
 rw[af]at X;have a4:(k4 i).length=(jB i).length+(i.e.ls.map hO).flatten.length+16+(4+i.e.s7.length)+(4+i.e.s8.length)+4:=by simp only[k4,bF,fI,hv,g6]
 simp only[bs];refine Wp.loop (λr q h=>∃d e m,∃a:Nat,q=[d,.int .i64 a,e,m]∧r+a=i.e.fs.length∧jU n0 c p u (aT i) h (l++k4 i++((i.e.fs.take a).map hJ).flatten))
  (λt=>t.1 = .ext 4∧(∃d e m w,t.2.1=[d,e,m,w])∧jU n0 c p u (aT i) t.2.2 (l++fW i)) i.e.fs.length ⟨_,_,_,0,rfl,rfl,by simpa using X⟩ ?_ ?_
 ·rintro r q h ⟨d,e,m,a,rfl,N,o⟩;simp only[wU,aW,bL,bs,aL,bS];refine Wp.dF ?_ ?_
  ·intro b;have b:a<i.e.fs.length:=fe b;obtain⟨j,x⟩:=hq b;have B:=eR a (by omega);have E:aO tab bQ i.e.fd (.int .i64 (a:Int))=some (.aE (aM j)):=by rw[k7 i.e.gH];simp[-a7N,x]
   have F:=qt hJ i.e.fs (a+1);rw[js hJ x,bF]at F;have ai:(hJ j).length=8+j.1.length+j.2.length:=by simp only[hJ,bF,hv];omega
   have I:¬(a:Int)=(i.e.fs.length:Int):=by omega
   simp only[gg,oM,bs,(nN o.hi).2.2.2.2.2.2.2.2.2.2,hZ i.e.gH,e8,I,bT,aK,aU,aJ,cN,E,rQ,NG,zt,zv,vE,y0];refine uc o n j.1 (by simp only[bF];omega) _ (rQ _) (λh _=>NJ j h) λH v=>?_
   simp only[bs,(nN v.hi).2.2.2.2.2.2.2.2.2.2,E,NH];refine uc v n j.2 (by simp only[bF,hv];omega) _ (rQ _) (λh _=>gW _ _ _) λM C=>?_
   simp only[bs,cO,B];refine .some (.inl ⟨rfl,r - 1,by omega,_,_,_,a+1,rfl,by omega,?_⟩);rw[js hJ x];simpa[-a7N,hJ]using C
  ·intro b;have b:a=i.e.fs.length:=by
    have:¬(a:Int)<i.e.fs.length:=by simpa using b
    omega
   subst b;rw[je]at o;exact .some (.inr ⟨by simp,rfl,⟨_,_,_,_,rfl⟩,by simpa[-a7N,fW]using o⟩)
 rintro⟨L,q,ac⟩ ⟨rfl,⟨d,e,m,w,rfl⟩,ap⟩;simp only[dA,lz,bs,aL];exact k ac ap
theorem a2g(g:J):pk tab g aP (.int .i64 4) (.int .i64 4)=some (.aZ 1 g.length 0 4,aG g cD 1 ([0,0,0,0].map aY)):=by
 have a:tab aP=some iK:=id rfl;have b:iK.td = .sl cD:=id rfl;have c:tab cD=some iE:=id rfl;have d:iE.V=1:=id rfl;have e:iE.zero=aY 0:=id rfl;have f:eY 4 iE.gf=true:=jD (by have:iE.gf=1:=rfl;rw[this];omega) (by omega);have h:(4:Int).toNat=4:=rfl;simp only[pk,a,b,c,d,e,h,f,show(0:Int)≤4∧(4:Int)≤4∧true=true∧0<1 from⟨by omega,by omega,rfl,by omega⟩,aN];rfl
theorem SZ{g:J}{o:Nat}{p m r:List Int}{y:D}(c:g[o]?=some (.row cD 1 ((p++r).map aY)))(s:gA g 1 y=some (m.map aY))(i:m.length=p.length):∃g',mP tab g aP aP (.aZ 1 o 0 (p++r).length) y=some (.int .i64 m.length,g')∧g'[o]?=some (.row cD 1 ((m++r).map aY))∧bM o g g':=by
 have e:tab aP=some iK:=id rfl;have a:iK.td = .sl cD:=id rfl;have f:tab cD=some iE:=id rfl;have b:iE.V=1:=id rfl;have q:ix g iK iE y=some (m.map aY):=by simp only[ix,a,b,s]
 have k:rR iK=true:=rfl;have h:Nat.blt 0 1=true:=rfl;have l:=(bR.1 c).1;have j:min (m.map aY).length (p++r).length=m.length:=by simp;omega
 refine⟨g.set o (.row cD 1 (((p++r).map aY).take 0++(m.map aY).take (p++r).length++((p++r).map aY).drop (0+m.length))),?a1,?a2,?a3⟩
 case a1=>simp only[mP,e,a,k,f,b,h,q,c,jq,aN,j]
 case a2 =>
  rw[q2 l];have d:(m.map aY).take (p++r).length=m.map aY:=hN (by simp;omega);rw[d,List.take_zero,kp,eS,i,gL,List.drop_left' (by simp),gL]
 case a3=>exact⟨by simp,λw n=>kZ (iG n)⟩
theorem a4a(i:It)(c:Int)(h:J)(aj:∀g,R pv [.agg (aT i)] g=some (.int .i64 c,g))(a5:(fW i).length≤800000000):∃d',R yt [.agg (aT i)] h=some (.bD [d',.int .i64 c],h)∧aI 1 aY (if c=0 then gj i else[]) d':=by
 suffices Wp (R yt [.agg (aT i)] h) (λX=>X.2=h∧∃d',X.1 = .bD [d',.int .i64 c]∧aI 1 aY (if c=0 then gj i else[]) d') by
  obtain⟨⟨a6,a4⟩,y,rfl,d',rfl,ad⟩:=this;exact⟨d',y,ad⟩
 have M:(aG h aH 11 [aT i])[h.length]?=some (.row aH 11 [aT i]):=fO _ _ _ _;have az:Y tab (aG h aH 11 [aT i]) aH (.ptr h.length 0 0)=some (.agg (aT i)):=by rw[pM,dM M];rfl
 have B:(aG h aH 11 [aT i]).length=h.length+1:=by simp[-a7N,aG]
 rw[Vj];simp only[Kd,lj aH 11 h (aT i) rfl (by omega),bs,aL,az,aj,dH];refine Wp.dF ?_ ?_
 ·intro f;have f:¬c=0:=by simpa using f
  simp only[bs,gp];rw[ff (d' :=.bD [.aA,.int .i64 c]) (by simp) (.bD _ λd m=>by simp at m;rcases m with rfl|rfl<;>constructor) (by omega) λa b=>eT _ _ _ _ b];exact .some ⟨rfl,_,rfl,by rw[cC f];exact .aA _ _⟩
 ·intro f;have f:c=0:=by simpa using f
  subst f;generalize ak:aG h aH 11 [aT i]=k at *;have N:(aG k cD 1 ([0,0,0,0].map aY)).length=h.length+2:=by simp[-a7N,aG,B]
  have ai:(aG k cD 1 ([0,0,0,0].map aY))[h.length+1]?=some (.row cD 1 ([0,0,0,0].map aY)):=by rw[← B];exact fO _ _ _ _
  have am:(aG k cD 1 ([0,0,0,0].map aY))[h.length]?=some (.row aH 11 [aT i]):=by rw[eT _ _ _ _ (by omega)];exact M
  have aw:∀a,a<h.length→(aG k cD 1 ([0,0,0,0].map aY))[a]?=h[a]?:=λa b=>by rw[eT _ _ _ _ (by omega),← ak,eT _ _ _ _ b]
  simp only[a2g,bs,B];generalize aG k cD 1 ([0,0,0,0].map aY)=x at *;simp only[Sa (.aZ 1 (h.length+1) 0 4) rfl,bs,lj jm 1 x [.aZ 1 (h.length+1) 0 4] rfl (by omega),N];have ax:(aG x jm 1 [[.aZ 1 (h.length+1) 0 4]])[h.length+2]?=some (.row jm 1 [[.aZ 1 (h.length+1) 0 4]]):=by rw[← N];exact fO _ _ _ _
  have aa:jU h.length h.length (h.length+2) h (aT i) (aG x jm 1 [[.aZ 1 (h.length+1) 0 4]]) [0,0,0,0]:=
   ⟨by rw[eT _ _ _ _ (by omega)];exact am,⟨_,ax,.inr ⟨h.length+1,by omega,rfl,by rw[eT _ _ _ _ (by omega)];exact ai⟩⟩,λa b=>by rw[eT _ _ _ _ (by omega)];exact aw a b,by simp[-a7N,aG];omega⟩
  refine a6t i aa (by omega) (by simp;omega) λl r=>?_
  obtain⟨d,D,C⟩:=r.hw;have a0:=tB D;have P:([0,0,0,0]++fW i:List Int).length=(fW i).length+4:=by simp
  obtain⟨q,z⟩:∃q,q=gu 4 (IntKind.wrap .u64 (((fW i).length:Int)+4)):=⟨_,rfl⟩
  have ah:q.length=([0,0,0,0]:List Int).length:=by rw[z,hQ];rfl
  have af:q++fW i=iV i:=by rw[z];rfl
  have a3:=iq.own C;have an:(([0,0,0,0]++fW i:List Int).length:Int)=((fW i).length:Int)+4:=by rw[P];omega
  obtain⟨ab,s,v,o⟩:=wi (IntKind.wrap .u64 (((fW i).length:Int)+4)) 4 (by omega) l.length l [] .aA (bB _) (aR.aA _ _ _ _) (by simp);rw[kp,← z]at o;have v:R mZ [.aA,.int .u64 (IntKind.wrap .u64 (((fW i).length:Int)+4)),.int .i64 4] l=some (ab,s):=v;simp only[bs,gg,xQ,a0,rT a3,an,lx];refine Wp.step v ?_;have G:∀a,a<l.length→s[a]?=l[a]?:=λa b=>o.ji a b (pT a)
  have j:s[h.length+2]?=some (.row jm 1 [[d]]):=by rw[G _ (bR.1 D).1];exact D
  have a1:=tB j;have aq:aR s h.length cD 1 (([0,0,0,0]++fW i:List Int).map aY) d:=C.cL λa _ E=>G a (C.lt E).2
  obtain⟨F,av,A,S⟩:=m5 aq (i:=0) (by simp);rw[fN]at A;obtain⟨e,L,ar,I⟩:=SZ S (m6 (iq.own o.ow)) ah;rw[← A]at L;have ap:h.length+2≠F:=λal=>by
   rw[al,S]at j;injection j with j;injection j with y;exact absurd y (by decide)
  have ay:e[h.length+2]?=some (.row jm 1 [[d]]):=by rw[I.2 _ ap];exact j
  have a2:=tB ay;have au:e[F]?=some (.row cD 1 ((iV i).map aY)):=by rw[← af];exact ar
  have ag:(iV i).length=4+(fW i).length:=by simp only[iV,bF,hQ]
  have H:aR e h.length cD 1 ((iV i).map aY) d :=.inr ⟨F,av,by rw[A,P,fN,ag,Nat.add_comm],au⟩;have Q:h.length≤e.length:=by have:=I.1;have:=o.len;have:=r.ln;omega
  have ac:=QP (iV i) _ e (iq.own H) (by omega) (CY i);obtain⟨K,t,w,p⟩:=wi (gz (iV i)) 4 (by omega) h.length e (iV i) _ Q H (by omega);have w:R mZ [d,.int .u64 (gz (iV i)),.int .i64 4] e=some (K,t):=w;simp only[bs,L,a1,a2,ac,w,iN,gp];have ae:iV i++gu 4 (gz (iV i))=gj i:=rfl;rw[ae]at p;have T:=gS (n0:=h.length) (n:=2) p.ow (bB _) (λu _=>nC _ t 2 u);have ao:∀a,a<h.length→t[a]?=h[a]?:=λa b=>by
   rw[p.ji a (by omega) (λE=>by have:=(H.lt E).1;omega),I.2 a (by omega),G a (by have:=r.ln;omega)];exact r.lo a b
  rw[ff (d' :=.bD [cS h.length t 3 K,.int .i64 0]) (by simp) (by
   refine .bD _ λd m=>?_
   simp at m;rcases m with rfl|rfl
   ·exact e7 T λu _=>pf _ u
   ·constructor) (fD Q p.len) ao]
  exact .some ⟨rfl,_,rfl,by simpa using T⟩
def lu(l:List Int):aD:=l.map λa=>UInt8.ofNat a.toNat
theorem MN:∀(l:List Int),rj (l.map aY)=some (lu l)
 |[]=>rfl
 | z::l=>by
  simp only[fP,aY,rj];rw[MN l];rfl
theorem Am{h:J}{l:List Int}{d:D}(a:aI 1 aY l d):qm h d=some (.str (lu l)):=by
 simp only[qm,m6 (h:=h) (.inl a),MN]
theorem nR:∀(n:Nat) (l:List Int),l.length=n→(∀z∈l,U8 z)→0≤num l∧num l<256 ^ n
 | 0,l,h,_=>by
  have:l=[]:=BT.1 h;subst this;simp[-a7N,num]
 | n+1,l,h,c=>by
  have a:l[n]?=some l[n]:=dG (by omega);have b:=tF a;rw[hN (by omega)]at b;have e:=nR n (l.take n) (by simp;omega) λz a=>c z (fG a)
  have d:=c l[n] (uB _);unfold U8 at d;rw[b,BH];omega
theorem zR(l:List Int)(d:D)(h:J)(o:aI 1 aY l d)(G:l.length≤8)(p:∀z∈l,U8 z):R qx [d] h=some (.int .u64 (num l),h):=by
 apply Wp.val;rw[Vo];simp only[Kj,bs,aL,fm o];refine Wp.loop (λj g i=>i=h∧∃x t,∃a:Nat,g=[.int .u64 (num (l.take a)),x,.int .i64 a,t]∧j+a=l.length) (λk=>k.1 = .ext 0∧k.2.2=h∧∃m b n,k.2.1=[.int .u64 (num l),m,b,n]) l.length ⟨rfl,_,_,0,rfl,rfl⟩ ?_ ?_
 ·rintro j g i ⟨rfl,x,t,a,rfl,F⟩;simp only[Kk,aW,bL,bs,aL,bS];refine Wp.dF ?_ ?_
  ·intro c;have c:a<l.length:=fe c;obtain⟨z,f⟩:=hq c;have y:=p z (eW f);have w:=eR a (by omega);unfold U8 at y;obtain⟨v,H⟩:=nR a (l.take a) (by simp;omega) λz f=>p z (fG f)
   have E:num (l.take a)<72057594037927936:=by
    have:a=0∨a=1∨a=2∨a=3∨a=4∨a=5∨a=6∨a=7:=by omega
    rcases this with rfl|rfl|rfl|rfl|rfl|rfl|rfl|rfl<;>omega
   have A:min ((8:Int).toNat) IntKind.u64.bits=8:=by decide
   have e:(2:Int) ^ 8=256:=by decide
   have r:IntKind.wrap .u64 (num (l.take a)*2 ^ 8)=num (l.take a)*2 ^ 8:=by rw[e];exact iF (by omega) (by omega)
   have B:IntKind.wrap .u64 z=z:=iF (by omega) (by omega);have s:=zC (x:=num (l.take a)) (b:=z) 8 v (by omega) (by rw[e];omega) (by rw[e];omega);have u:aO tab aP d (.int .i64 (a:Int))=some (.aE (aY z)):=by rw[kh o];simp[-a7N,f]
   rw[e,← tF f]at s;rw[e]at r;simp only[u,rb,bs,uR,show ¬(8:Int)<0 by omega,aJ,A,e,r,uP,B,uQ,s,cO,w];exact .some (.inl ⟨rfl,j - 1,by omega,rfl,_,_,a+1,rfl,by omega⟩)
  ·intro c;have c:a=l.length:=by
    have:¬(a:Int)<l.length:=by simpa using c
    omega
   subst c;rw[je];exact .some (.inr ⟨by simp,rfl,rfl,_,_,_,rfl⟩)
 ·rintro⟨C,g,i⟩ ⟨rfl,q,m,b,n,rfl⟩;simp only at q;subst q;simp only[dA,cN,bs,aW,cP];exact .some rfl
abbrev cU:=List Int × Bool
def dJ(s:cU)(n:Int):List Int × cU:=if s.2=true∨n<0∨(s.1.length:Int)<n then([],(s.1,true))else(s.1.take n.toNat,(s.1.drop n.toNat,false))
def cQ(s:cU):Int × cU:=(IntKind.wrap .i64 (num (dJ s 8).1),(dJ s 8).2)
def dI(s:cU):Int × cU:=(IntKind.wrap .i64 (num (dJ s 4).1),(dJ s 4).2)
def dK(s:cU):Option aD × cU:=if(dJ (dI s).2 (dI s).1).2.2=true then(none,(dJ (dI s).2 (dI s).1).2)else(some (lu (dJ (dI s).2 (dI s).1).1),(dJ (dI s).2 (dI s).1).2)
def eM(s:cU):Int × cU:=if(dI s).2.2=true∨((dI s).2.1.length:Int).tdiv 8<(dI s).1 then(0,((dI s).2.1,true))else dI s
def ll(g:J)(b:Nat)(s:cU):Prop:=∃a,g[b]?=some (.row hR 2 [[a,.bool s.2]])∧aI 1 aY s.1 a∧(∀c∈s.1,U8 c)∧s.1.length≤1000000000
theorem xF{g:J}{a:Nat}{d:D}{b:Bool}(h:g[a]?=some (.row hR 2 [[d,.bool b]])):Y tab g aP (.ptr a 0 (0+0))=some d∧Y tab g iZ (.ptr a 0 (0+1))=some (.bool b):=⟨by rw[zf,dM h];rfl,by rw[O2,dM h];rfl⟩
theorem Aa{s:cU}(a:∀z∈s.1,U8 z)(n:Int):(∀z∈(dJ s n).1,U8 z)∧(∀z∈(dJ s n).2.1,U8 z)∧(dJ s n).2.1.length≤s.1.length:=by
 unfold dJ;split
 ·exact⟨by simp,a,bB _⟩
 ·exact⟨λz b=>a z (fG b),λz b=>a z (fM b),by simp⟩
theorem z8(s:cU)(n:Nat):(dJ s n).1.length≤n:=by
 unfold dJ;split
 ·simp[-a7N]
 ·simp[-a7N];omega
theorem Cv{g:J}{b:Nat}{s:cU}(H:ll g b s)(n:Int):∃d g',R py [.ptr b 0 0,.int .i64 n] g=some (d,g')∧aI 1 aY (dJ s n).1 d∧ll g' b (dJ s n).2∧bM b g g':=by
 suffices Wp (R py [.ptr b 0 0,.int .i64 n] g) (λx=>aI 1 aY (dJ s n).1 x.1∧ll x.2 b (dJ s n).2∧bM b g x.2) by
  obtain⟨⟨L,i⟩,e,f⟩:=this;exact⟨L,i,e,f⟩
 obtain⟨d,o,c,w,C⟩:=H;obtain⟨p,D⟩:=xF o;obtain⟨a,A⟩:=s;simp only at o c w C D;rw[VA];have t:∀{E:Type} (q:J→Option E) (r:E→Prop),(∀g',aI 1 aY ([]:List Int) .aA→ll g' b (a,true)→bM b g g'→Wp (q g') r)→Wp ((aS tab g iZ (.ptr b 0 (0+1)) (.bool true)).bind q) r:=λq r k=>by
  refine Iy o (by rfl) (by rfl) (by simp) (by rfl) λg' i y=>?_
  exact k g' (.aA _ _) ⟨d,i,c,w,C⟩ y
 simp only[KA,bs,gg,oL,xR,p,D,fm c,bZ,aL];by_cases m:A=true
 ·subst m;have h:dJ (a,true) n=([],(a,true)):=by simp[-a7N,dJ]
  rw[h];simp only[reduceCtorEq,eP,aJ,bs,bW,aN,aK,bZ];refine t _ _ λg' e f j=>?_
  simp only[bs,cP];exact .some ⟨e,f,j⟩
 ·have m:A=false:=by simpa using m
  subst m;by_cases l:n<0
  ·have h:dJ (a,false) n=([],(a,true)):=by simp[-a7N,dJ,l]
   rw[h];simp only[bZ,gg,oL,p,fm c,aL,aN,bs,bS,l,cM,reduceCtorEq,eP,aU,aJ,bW,aK];refine t _ _ λg' e f j=>?_
   simp only[bs,cP];exact .some ⟨e,f,j⟩
  ·by_cases v:n>(a.length:Int)
   ·have h:dJ (a,false) n=([],(a,true)):=by simp[-a7N,dJ,l,v]
    rw[h];simp only[bZ,gg,oL,p,fm c,aL,aN,bs,bS,l,bT,dE,v,cM,reduceCtorEq,eP,aU,aJ,bW,aK];refine t _ _ λg' e f j=>?_
    simp only[bs,cP];exact .some ⟨e,f,j⟩
   ·have h:dJ (a,false) n=(a.take n.toNat,(a.drop n.toNat,false)):=by
      unfold dJ;rw[cC (by simp only[aU,mV];omega)]
    rw[h];obtain⟨N,F,K⟩:=rY c (k :=.i64) (n:=n) (by omega) (by omega);obtain⟨u,G,z⟩:=rZ c (k :=.i64) (n:=n) (by omega) (by omega);simp only[bZ,gg,oL,p,fm c,aL,aN,bs,bS,l,bT,dE,v,reduceCtorEq,eP,aU,aJ,bW,aK,F,G];have B:cX u=[u]:=(fT (fx z)).1;refine Ix o (kk:=0) (row:=[d,.bool false]) (by rfl) (by rw[B];rfl) (by simp) (fT (fx z)).2 λg' i y=>?_
    rw[B]at i;simp only[bs,cP];exact .some ⟨K,⟨u,i,z,λM I=>w M (fM I),by simp;omega⟩,y⟩
theorem z0(row:List D)(off:Nat)(v:D)(b:v.one=true)(a:off<row.length):dZ row off (cX v)=row.set off v:=by
 rw[(fT b).1];simp only[dZ,List.length_singleton];rw[LB,bO a];simp[-a7N]
structure Cell (g:J) (oc o k off:Nat) (T z:Nat) (rows:List (List D)) (row:List D):Prop where
 ho:g[o]?=some (.row T z rows)
 hr:rows[k]?=some row
 lt:off<row.length
 ne:o≠oc
def q5(g g':J)(b o:Nat):Prop:=g'.length=g.length∧∀a,a≠b→a≠o→g'[a]?=g[a]?
theorem Cu{g:J}{a:Nat}{s:cU}(e:ll g a s){o k off T z:Nat}{rows:List (List D)}{row:List D}(C:Cell g a o k off T z rows row){j:Type}{f:D × J→Option j}{Q:j→Prop}
  (l:∀g',ll g' a (cQ s).2→g'[o]?=some (.row T z (rows.set k (row.set off (.int .i64 (cQ s).1))))→q5 g g' a o→Wp (f (aF [],g')) Q):Wp ((R yw [.ptr a 0 0,.ptr o k off] g).bind f) Q:=by
 obtain⟨m,d,p,t,u,b⟩:=Cv e 8;have w:=e.choose_spec.2.2.1;have q:=zR _ m d t (z8 s 8) (Aa w 8).1;have v:d[o]?=some (.row T z rows):=by rw[b.2 o C.ne];exact C.ho
 rw[Vy];simp only[Ky,bs,p,q,nE,gg,aL];refine lJ v C.hr (by rfl) (by have:=C.lt;omega) (by rfl) λr h c=>?_
 try simp only[bs]
 rw[z0 _ _ _ rfl C.lt]at h;refine l r ?_ h ⟨by rw[c.1,b.1],λi x y=>by rw[c.2 i y,b.2 i x]⟩;obtain⟨n,A,B⟩:=u;exact⟨n,by rw[c.2 a (iG C.ne)];exact A,B⟩
theorem Mj{g:J}{a:Nat}{s:cU}(b:ll g a s):∃d g1,R py [.ptr a 0 0,.int .i64 4] g=some (d,g1)∧R qx [d] g1=some (.int .u64 (num (dJ s 4).1),g1)∧ll g1 a (dI s).2∧bM a g g1:=by
 obtain⟨d,g1,c,e,f,h⟩:=Cv b 4;have i:=b.choose_spec.2.2.1;exact⟨d,g1,c,zR _ d g1 e (fD (z8 s 4) (by omega)) (Aa i 4).1,f,h⟩
theorem xx{g:J}{a:Nat}{s:cU}(H:ll g a s){o k off T z:Nat}{rows:List (List D)}{row:List D}(C:Cell g a o k off T z rows row){u:aD}(K:row[off]?=some (.str u)){v:Type}{f:D × J→Option v}{Q:v→Prop}
  (c:∀g',ll g' a (dK s).2→g'[o]?=some (.row T z (rows.set k (row.set off (.str ((dK s).1.getD u)))))→q5 g g' a o→Wp (f (aF [],g')) Q):Wp ((R yx [.ptr a 0 0,.ptr o k off] g).bind f) Q:=by
 obtain⟨ab,B,y,A,F,G⟩:=Mj H;obtain⟨x,d,j,P,X,aa⟩:=Cv F (dI s).1;have j:R py [.ptr a 0 0,.int .i64 (IntKind.wrap .i64 (num (dJ s 4).1))] B=some (x,d):=j;have b:bM a g d:=G.trans aa;have q:d[o]?=some (.row T z rows):=by rw[b.2 o C.ne];exact C.ho
 obtain⟨p,n,t⟩:=X;have N:=(xF n).2;rw[Vz];simp only[Kz,bs,y,A,nE,j,gg,xR,N,gB,aL];cases e:(dJ (dI s).2 (dI s).1).2.2 with
 | true =>
  have l:dK s=(none,(dJ (dI s).2 (dI s).1).2):=by unfold dK;rw[bO e]
  rw[l]at c;simp only[e,fy,aK,aU,aJ,bs,lz];refine c d ⟨p,n,t⟩ ?_ ⟨b.1,λh i _=>b.2 h i⟩;rw[q];have M:row.set off (.str u)=row:=by
   have ad:=C.lt;have:row[off] = .str u:=(bR.1 K).2;rw[← this,List.set_getElem_self]
  have L:rows.set k row=rows:=by
   obtain⟨ac,I⟩:=bR.1 C.hr;rw[← I,List.set_getElem_self]
  simp only[B8,M,L]
 | false =>
  have l:dK s=(some (lu (dJ (dI s).2 (dI s).1).1),(dJ (dI s).2 (dI s).1).2):=by unfold dK;rw[cC (by rw[e];simp[-a7N])]
  rw[l]at c;simp only[e,gb,aK,aN,Am P,bs,aL];refine pZ q C.hr (by rfl) (by have:=C.lt;omega) (by rfl) λE r m=>?_
  rw[z0 _ _ _ rfl C.lt]at r;simp only[bs,lz];exact c E ⟨p,by rw[m.2 a (iG C.ne)];exact n,t⟩ r ⟨by rw[m.1,b.1],λh i w=>by rw[m.2 h w,b.2 h i]⟩
theorem SF{g:J}{a:Nat}{s:cU}(B:ll g a s)(m:D){w:Type}{f:D × J→Option w}{Q:w→Prop}
  (b:∀g',ll g' a (eM s).2→bM a g g'→Wp (f (.int .i64 (eM s).1,g')) Q):Wp ((R yv [.ptr a 0 0,m] g).bind f) Q:=by
 obtain⟨H,p,y,z,d,q⟩:=Mj B;obtain⟨o,l,c,u,v⟩:=d;obtain⟨i,F⟩:=xF l;rw[Vx];have C:(dI s).1=IntKind.wrap .i64 (num (dJ s 4).1):=rfl;have t:IntKind.wrap .i64 (((dI s).2.1.length:Int).tdiv 8)=((dI s).2.1.length:Int).tdiv 8:=by
  rw[w7 (by omega)];exact bJ (by omega) (by omega)
 have n:∀{x:Type} (j:J→Option x) (Q:x→Prop),(∀g',ll g' a ((dI s).2.1,true)→bM a g g'→Wp (j g') Q)→Wp ((aS tab p iZ (.ptr a 0 (0+1)) (.bool true)).bind j) Q:=λj Q E=>by
  refine Iy l (by rfl) (by rfl) (by simp) (by rfl) λg' A G=>?_
  exact E g' ⟨o,A,c,u,v⟩ (q.trans G)
 simp only[Kx,bs,y,z,nE,← C,gg,oL,xR,i,F,bZ,fm c,aL];cases r:(dI s).2.2 with
 | true =>
  have e:eM s=(0,((dI s).2.1,true)):=by unfold eM;rw[bO (.inl r)]
  rw[e]at b;simp only[bZ,gg,oL,i,fm c,reduceCtorEq,eP,aJ,bs,bW,aN,aK,aL];refine n _ _ λg' k d=>?_
  simp only[bs,cP];exact b g' k d
 | false =>
  by_cases h:(dI s).1>((dI s).2.1.length:Int).tdiv 8
  ·have e:eM s=(0,((dI s).2.1,true)):=by unfold eM;rw[bO (.inr h)]
   rw[e]at b;simp only[bZ,gg,oL,i,fm c,aN,bs,ML,show ¬((8:Int)=0) by omega,aJ,t,dE,h,cM,reduceCtorEq,eP,aU,bW,aK,aL];refine n _ _ λg' k d=>?_
   simp only[bs,cP];exact b g' k d
  ·have e:eM s=dI s:=by unfold eM;rw[cC (by rw[r];simp only[aU,mV];exact h)]
   rw[e]at b;simp only[bZ,gg,oL,i,fm c,aN,bs,ML,show ¬((8:Int)=0) by omega,aJ,t,dE,h,bT,reduceCtorEq,eP,aU,bW,aK,aL,cP];exact b p ⟨o,l,c,u,v⟩ q
def g5(s:cU):eV × cU:=(⟨(cQ s).1,(cQ (cQ s).2).1,(dK (cQ (cQ s).2).2).1.getD []⟩,(dK (cQ (cQ s).2).2).2)
def gR:Nat→cU→List eV × cU
 |0,s=>([],s)
 |n+1,s=>((g5 s).1::(gR n (g5 s).2).1,(gR n (g5 s).2).2)
def hB(s:cU):(aD × aD) × cU:=(((dK s).1.getD [],(dK (dK s).2).1.getD []),(dK (dK s).2).2)
def g3:Nat→cU→List (aD × aD) × cU
 |0,s=>([],s)
 |n+1,s=>((hB s).1::(g3 n (hB s).2).1,(g3 n (hB s).2).2)
theorem zu(d:D):dS tab (.fn (.method "logtide/event.number") [.iface mC d] [])=some (.fn (.method "logtide/event.number") [.iface mC d] []):=by kernel_rfl
theorem zw(d:D):dS tab (.fn (.method "logtide/event.text") [.iface mC d] [])=some (.fn (.method "logtide/event.text") [.iface mC d] []):=by kernel_rfl
theorem G8(d:D):dS tab (.fn (.method "logtide/event.count") [.iface mC d] [])=some (.fn (.method "logtide/event.count") [.iface mC d] []):=by kernel_rfl
structure gT (n0 oi oc:Nat) (h0 g:J) (row:List D) (s:cU):Prop where
 hi:g[oi]?=some (.row aH 11 [row])
 hc:ll g oc s
 lo:∀q,q<n0→g[q]?=h0[q]?
 ni:n0≤oi
 nc:n0≤oc
theorem gT.ne{n0 c b:Nat}{d g:J}{row:List D}{s:cU}(v:gT n0 c b d g row s):c≠b:=λf=>by
 obtain⟨h,a,_⟩:=v.hc;rw[← f,v.hi]at a;injection a with a;injection a with e;exact absurd e (by decide)
theorem gT.ln{n0 c b:Nat}{a g:J}{row:List D}{s:cU}(v:gT n0 c b a g row s):n0≤g.length:=by
 have:=(bR.1 v.hi).1;have:=v.ni;omega
theorem mz{g:J}{n e z o T l:Nat}{rows:List (List D)}{k:List (List D)}{d:D}(j:aR g n e z rows d)(h:g[o]?=some (.row T l k))(f:e≠T){a:Nat}(i:d.eC a):a≠o:=λc=>by
 have:=qI j i;rw[c,h]at this;injection this with this;injection this with b;exact f b.symm
theorem aR.wrt{g g':J}{h o n e z:Nat}{rows:List (List D)}{d:D}(a:aR g n e z rows d)(l:q5 g g' h o){b r c s:Nat}{p q:List (List D)}(k:g[h]?=some (.row b r p))(h2:g[o]?=some (.row c s q))(i:e≠b)(j:e≠c):aR g' n e z rows d:=
 a.cL λm _ f=>l.2 m (mz a k i f) (mz a h2 j f)
theorem ub{n0 b a:Nat}{c g:J}{row:List D}{s:cU}(v:gT n0 b a c g row s)(off:Nat)(l:off<row.length){h:Type}{f:D × J→Option h}{Q:h→Prop}
  (i:∀g',gT n0 b a c g' (row.set off (.int .i64 (cQ s).1)) (cQ s).2→q5 g g' a b→Wp (f (aF [],g')) Q):Wp ((R yw [.ptr a 0 0,.ptr b 0 off] g).bind f) Q:=
 Cu v.hc ⟨v.hi,rfl,l,v.ne⟩ λg' j k d=>i g' ⟨k,j,λe m=>by rw[d.2 e (by have:=v.nc;omega) (by have:=v.ni;omega)];exact v.lo e m,v.ni,v.nc⟩ d
theorem Im{n0 b a:Nat}{c g:J}{row:List D}{s:cU}(v:gT n0 b a c g row s)(off:Nat){u:aD}(e:row[off]?=some (.str u)){i:Type}{f:D × J→Option i}{Q:i→Prop}
  (j:∀g',gT n0 b a c g' (row.set off (.str ((dK s).1.getD u))) (dK s).2→q5 g g' a b→Wp (f (aF [],g')) Q):Wp ((R yx [.ptr a 0 0,.ptr b 0 off] g).bind f) Q:=
 xx v.hc ⟨v.hi,rfl,(bR.1 e).1,v.ne⟩ e λg' k l d=>j g' ⟨l,k,λh m=>by rw[d.2 h (by have:=v.nc;omega) (by have:=v.ni;omega)];exact v.lo h m,v.ni,v.nc⟩ d
theorem Ro{n0 c b:Nat}{e g:J}{row:List D}{s:cU}(v:gT n0 c b e g row s)(m:D){h:Type}{f:D × J→Option h}{Q:h→Prop}
  (i:∀g',gT n0 c b e g' row (eM s).2→q5 g g' b c→Wp (f (.int .i64 (eM s).1,g')) Q):Wp ((R yv [.ptr b 0 0,m] g).bind f) Q:=
 SF v.hc m λg' k a=>i g' ⟨by rw[a.2 c v.ne];exact v.hi,k,λd l=>by rw[a.2 d (by have:=v.nc;omega)];exact v.lo d l,v.ni,v.nc⟩ ⟨a.1,λd j _=>a.2 d j⟩
theorem MF{g:J}{j:Nat}{s:cU}(a:ll g j s):0≤(eM s).1∧(eM s).1≤1000000000:=by
 obtain⟨l,m,n,e,o⟩:=a;have b:=Aa e 4;have q:(dJ s 4).1.length≤4:=z8 s 4;obtain⟨r,k⟩:=nR _ _ rfl b.1;have t:num (dJ s 4).1<4294967296:=by
  have a:(dJ s 4).1.length=0∨(dJ s 4).1.length=1∨(dJ s 4).1.length=2∨(dJ s 4).1.length=3∨(dJ s 4).1.length=4:=by omega
  rcases a with h|h|h|h|h<;>rw[h]at k<;>omega
 have d:(dI s).1=num (dJ s 4).1:=bJ (by omega) (by omega);unfold eM;split
 ·exact⟨by simp,by simp⟩
 ·rename_i c;have p:((dI s).2.1.length:Int)≤1000000000:=by
   have:(dI s).2.1.length≤s.1.length:=b.2.2;omega
  rw[w7 (by omega)]at c;have f:¬((dI s).2.1.length:Int) / 8<(dI s).1:=λi=>c (.inr i)
  rw[d]at f;rw[d];omega
def fu(r:aD)(a b c d:Int)(h:D)(e f:Int)(i j:aD)(g:D):List D:=[.str r,.int .i64 a,.int .i64 b,.int .i64 c,.int .i64 d,h,.int .i64 e,.int .i64 f,.str i,.str j,g]
theorem rN{g:J}{a:Nat}{r:aD}{d e f i:Int}{c:D}{j k:Int}{l m:aD}{b:D}(h:g[a]?=some (.row aH 11 [fu r d e f i c j k l m b])):Y tab g bU (.ptr a 0 (0+1+4))=some c∧Y tab g bQ (.ptr a 0 (0+1+9))=some b:=⟨by rw[m2,dM h];rfl,by rw[zg,dM h];rfl⟩
def jy:List D:=[.int .i64 0,.int .i64 0,.str []]
theorem a6m{n0 e h:Nat}{M:J}{r:aD}{y o z A:Int}{B C:Int}{F G:aD}{x:D}{g:J}{s:cU}(N:Nat)(au:N≤1000000000){a0:D × J}(bj:a0.1 = .int .i64 N)(v:gT n0 e h M g (fu r y o z A .aA B C F G x) s)(b2:x = .aA)(bu bv bw bx:D){a7:Type}{ap:bK→Option a7}{Q:a7→Prop}
  (k:∀g' d p q L t w,gT n0 e h M g' (fu r y o z A d B C F G x) (gR N s).2→aR g' n0 dD 3 ((gR N s).1.map cR) d→Wp (ap (.ext 2,[p,q,L,t,w],g')) Q):Wp ((cA (wT (.iface mC (.ptr h 0 0)) (.ptr e 0 (0+1)) a0) [bu,bv,.int .i64 0,bw,bx] g).bind ap) Q:=by
 refine Wp.loop (λan ai g'=>∃p q t w d,∃a:Nat,∃c:List eV,∃j:cU,ai=[p,q,.int .i64 a,t,w]∧an+a=N∧gT n0 e h M g' (fu r y o z A d B C F G x) j∧aR g' n0 dD 3 (c.map cR) d∧c.length=a∧c++(gR (N - a) j).1=(gR N s).1∧(gR (N - a) j).2=(gR N s).2)
  (λaf=>af.1 = .ext 2∧∃p q L t w d,af.2.1=[p,q,L,t,w]∧gT n0 e h M af.2.2 (fu r y o z A d B C F G x) (gR N s).2∧aR af.2.2 n0 dD 3 ((gR N s).1.map cR) d) N ⟨_,_,_,_,.aA,0,[],s,rfl,rfl,v,aR.aA _ _ _ _,rfl,by simp,by simp⟩ ?_ ?_
 ·rintro an ai g' ⟨p,q,t,w,d,a,c,j,rfl,b3,b,E,f,aa,ab⟩;simp only[wT,aW,bL,bs,aL,bj,bS];refine Wp.dF ?_ ?_
  ·intro H;have H:a<N:=by
    have:(a:Int)<(N:Int):=by simpa using H
    omega
   have bm:=eR a (by omega);have bh:((c.map cR).length:Int)=a:=by simp[-a7N,f]
   have be:dL tab bU 1 [0] [.agg jy]=some (.sl 3 true [jy]):=id rfl;have bn:eD tab dD [] []=some (.agg jy):=id rfl;simp only[gg,jY,(rN b.hi).1,O9 E,bh,bs,e8,cM,aK,aN,bn,be,aL];refine r7 (ys:=[jy]) b.ln E (hC _ _ _ _) (by simp;omega) λR ar X b4 a8 az _=>?_
   obtain⟨ah,ag,a9,ba,bb⟩:=b.hc;have aw:ar[e]?=some (.row aH 11 [fu r y o z A d B C F G x]):=by rw[az e (bR.1 b.hi).1 (λP=>mz E b.hi (by decide) P rfl)];exact b.hi
   have g4:ar[h]?=some (.row hR 2 [[ah,.bool j.2]]):=by rw[az h (bR.1 ag).1 (λP=>mz E ag (by decide) P rfl)];exact ag
   simp only[bs];refine qX aw (by rfl) (by rw[(fT (jj X)).1];rfl) (by simp[-a7N,fu]) (fT (jj X)).2 λac I ao=>?_
   rw[(fT (jj X)).1]at I;have I:ac[e]?=some (.row aH 11 [fu r y o z A R B C F G x]):=I;have jC:ac[h]?=some (.row hR 2 [[ah,.bool j.2]]):=by rw[ao.2 h (iG b.ne)];exact g4
   have bp:aR ac n0 dD 3 (c.map cR++[jy]) R:=X.cL λm _ P=>ao.2 m (mz X aw (by decide) P)
   have K:gT n0 e h M ac (fu r y o z A R B C F G x) j:=⟨I,⟨ah,jC,a9,ba,bb⟩,λm ad=>by rw[ao.2 m (by have:=b.ni;omega),a8 m ad];exact b.lo m ad,b.ni,b.nc⟩
   obtain⟨T,bi,ax,n⟩:=m5 bp (i:=a) (by simp;omega);have bg:(c.map cR++[jy]).length=a+1:=by simp[-a7N,f]
   have bk:(c.map cR++[jy])[a]?=some jy:=by rw[gO (by simp[-a7N,f])];simp[-a7N,f]
   have al:T≠h:=λak=>by rw[ak,jC]at n;injection n with n;injection n with aj;exact absurd aj (by decide)
   have am:T≠e:=λak=>by rw[ak,I]at n;injection n with n;injection n with aj;exact absurd aj (by decide)
   have bo:(0:Int)≤(a:Int)∧(a:Int)<(((c.map cR++[jy]).length:Nat):Int):=by omega
   have bf:aO tab bU R (.int .i64 (a:Int))=some (.ptr T a 0):=by rw[ax,y6,bO bo];simp[-a7N]
   simp only[bs,cN,gg,jY,(rN K.hi).1,bf,nH,nI,mh,zu,zw,qC,vF,aL];refine Cu K.hc ⟨n,bk,by simp[-a7N,jy],al⟩ λb0 bq a1 a2=>?_
   have bl:∀(l:List D),(c.map cR++[jy]).set a l=c.map cR++[l]:=λl=>by rw[oo _ _ (by simp[-a7N,f])];simp[-a7N,f]
   rw[bl]at a1;have av:∀(l:List D),(c.map cR++[l])[a]?=some l:=λl=>by rw[gO (by simp[-a7N,f])];simp[-a7N,f]
   have ay:∀(a6 l:List D),(c.map cR++[a6]).set a l=c.map cR++[l]:=λa6 l=>by rw[oo _ _ (by simp[-a7N,f])];simp[-a7N,f]
   simp only[bs];refine Cu bq ⟨a1,av _,by simp[-a7N,jy],al⟩ λb1 br a3 a4=>?_
   rw[ay]at a3;simp only[bs];refine xx br ⟨a3,av _,by simp[-a7N,jy],al⟩ (u:=[]) (by rfl) λbd bt ae a5=>?_
   rw[ay]at ae;have ae:bd[T]?=some (.row dD 3 (c.map cR++[cR (g5 j).1])):=ae;simp only[bs,cO,bm];have au:N - a=(N - (a+1))+1:=by omega
   rw[au]at aa ab;refine .some (.inl ⟨rfl,an - 1,by omega,_,_,_,_,R,a+1,c++[(g5 j).1],(g5 j).2,rfl,by omega,⟨?_,bt,λm ad=>?_,b.ni,b.nc⟩,?_,by simp[-a7N,f],?_,?_⟩)
   ·rw[a5.2 e K.ne (iG am),a4.2 e K.ne (iG am),a2.2 e K.ne (iG am)];exact I
   ·have o:=b.nc;rw[a5.2 m (by omega) (by omega),a4.2 m (by omega) (by omega),a2.2 m (by omega) (by omega)];exact K.lo m ad
   ·refine .inr ⟨T,bi,?_,by rw[ae];simp[-a7N]⟩;rw[ax,bg];simp[-a7N,f]
   ·rw[← aa];simp[-a7N,gR]
   ·rw[← ab];simp[-a7N,gR]
  ·intro H;have H:a=N:=by
    have:¬(a:Int)<(N:Int):=by simpa using H
    omega
   subst H;rw[B7]at aa ab;have aq:c++[]=(gR a s).1:=aa;have bc:j=(gR a s).2:=ab;rw[nm]at aq;rw[bc]at b;exact .some (.inr ⟨by simp,rfl,_,_,_,_,_,d,rfl,b,by rw[← aq];exact E⟩)
 ·rintro⟨bz,ai,g'⟩ ⟨rfl,p,q,L,t,w,d,rfl,b,E⟩;exact k g' d p q L t w b E
def jH:List D:=[.str [],.str []]
theorem a6g{n0 j m:Nat}{T:J}{r:aD}{w q x y:Int}{z A:Int}{F G:aD}{f:D}{t:List eV}{g:J}{s:cU}(N:Nat)(a3:N≤1000000000){ba:D × J}(bp:ba.1 = .int .i64 N)(v:gT n0 j m T g (fu r w q x y f z A F G .aA) s)(bl:aR g n0 dD 3 (t.map cR) f)(b1 b2 b3:D){bd:Type}{ay:bK→Option bd}{Q:bd→Prop}
  (k:∀g' h B M P C,gT n0 j m T g' (fu r w q x y f z A F G h) (g3 N s).2→aR g' n0 dD 3 (t.map cR) f→aR g' n0 bE 2 ((g3 N s).1.map aM) h→Wp (ay (.ext 4,[B,M,P,C],g')) Q):Wp ((cA (wU (.iface mC (.ptr m 0 0)) (.ptr j 0 (0+1)) ba) [b1,.int .i64 0,b2,b3] g).bind ay) Q:=by
 refine Wp.loop (λaq ak g'=>∃B C az h,∃a:Nat,∃c:List (aD × aD),∃n:cU,ak=[B,.int .i64 a,C,az]∧aq+a=N∧gT n0 j m T g' (fu r w q x y f z A F G h) n∧aR g' n0 dD 3 (t.map cR) f∧aR g' n0 bE 2 (c.map aM) h∧c.length=a∧c++(g3 (N - a) n).1=(g3 N s).1∧(g3 (N - a) n).2=(g3 N s).2)
  (λab=>ab.1 = .ext 4∧∃B M P C h,ab.2.1=[B,M,P,C]∧gT n0 j m T ab.2.2 (fu r w q x y f z A F G h) (g3 N s).2∧aR ab.2.2 n0 dD 3 (t.map cR) f∧aR ab.2.2 n0 bE 2 ((g3 N s).1.map aM) h) N ⟨_,_,_,.aA,0,[],s,rfl,rfl,v,bl,aR.aA _ _ _ _,rfl,by simp,by simp⟩ ?_ ?_
 ·rintro aq ak g' ⟨B,C,az,h,a,c,n,rfl,b7,b,K,E,l,ad,ae⟩;simp only[wU,aW,bL,bs,aL,bp,bS];refine Wp.dF ?_ ?_
  ·intro I;have I:a<N:=by
    have:(a:Int)<(N:Int):=by simpa using I
    omega
   have bu:=eR a (by omega);have bn:((c.map aM).length:Int)=a:=by simp[-a7N,l]
   have bj:dL tab bQ 1 [0] [.agg jH]=some (.sl 2 true [jH]):=id rfl;have bv:eD tab bE [] []=some (.agg jH):=id rfl;simp only[gg,oM,(rN b.hi).2,GX E,bn,bs,e8,cM,aK,aN,bv,bj,aL];refine wA (ys:=[jH]) b.ln E (hC _ _ _ _) (by simp;omega) λH al aa b8 be ar _=>?_
   obtain⟨aj,ai,bf,bg,bh⟩:=b.hc;have ao:al[j]?=some (.row aH 11 [fu r w q x y f z A F G h]):=by rw[ar j (bR.1 b.hi).1 (λe=>mz E b.hi (by decide) e rfl)];exact b.hi
   have g4:al[m]?=some (.row hR 2 [[aj,.bool n.2]]):=by rw[ar m (bR.1 ai).1 (λe=>mz E ai (by decide) e rfl)];exact ai
   have a9:aR al n0 dD 3 (t.map cR) f:=K.cL λd _ e=>ar d (K.lt e).2 (PT K E (by decide) e)
   simp only[bs];refine wD ao (by rfl) (by rw[(fT (jj aa)).1];rfl) (by simp[-a7N,fu]) (fT (jj aa)).2 λR L ah=>?_
   rw[(fT (jj aa)).1]at L;have L:R[j]?=some (.row aH 11 [fu r w q x y f z A F G H]):=L;have jC:R[m]?=some (.row hR 2 [[aj,.bool n.2]]):=by rw[ah.2 m (iG b.ne)];exact g4
   have bz:aR R n0 bE 2 (c.map aM++[jH]) H:=aa.cL λd _ e=>ah.2 d (mz aa ao (by decide) e)
   have au:aR R n0 dD 3 (t.map cR) f:=a9.cL λd _ e=>ah.2 d (mz a9 ao (by decide) e)
   have ac:gT n0 j m T R (fu r w q x y f z A F G H) n:=⟨L,⟨aj,jC,bf,bg,bh⟩,λd af=>by rw[ah.2 d (by have:=b.ni;omega),be d af];exact b.lo d af,b.ni,b.nc⟩
   obtain⟨X,bo,a6,p⟩:=m5 bz (i:=a) (by simp;omega);have bm:(c.map aM++[jH]).length=a+1:=by simp[-a7N,l]
   have bq:(c.map aM++[jH])[a]?=some jH:=by rw[gO (by simp[-a7N,l])];simp[-a7N,l]
   have a7:X≠m:=λan=>by rw[an,jC]at p;injection p with p;injection p with am;exact absurd am (by decide)
   have a8:X≠j:=λan=>by rw[an,L]at p;injection p with p;injection p with am;exact absurd am (by decide)
   have bw:(0:Int)≤(a:Int)∧(a:Int)<(((c.map aM++[jH]).length:Nat):Int):=by omega
   have a5:aO tab bQ H (.int .i64 (a:Int))=some (.ptr X a 0):=by rw[a6,mm,bO bw];simp[-a7N]
   simp only[bs,cN,gg,oM,(rN ac.hi).2,a5,rA,C7,zu,zw,qC,vF,aL];have br:∀(o:List D),(c.map aM++[jH]).set a o=c.map aM++[o]:=λo=>by rw[oo _ _ (by simp[-a7N,l])];simp[-a7N,l]
   have bk:∀(o:List D),(c.map aM++[o])[a]?=some o:=λo=>by rw[gO (by simp[-a7N,l])];simp[-a7N,l]
   have bt:∀(bc o:List D),(c.map aM++[bc]).set a o=c.map aM++[o]:=λbc o=>by rw[oo _ _ (by simp[-a7N,l])];simp[-a7N,l]
   refine xx ac.hc ⟨p,bq,by simp[-a7N,jH],a7⟩ (u:=[]) (by rfl) λa1 bb av aw=>?_
   rw[br]at av;have a4:a1[j]?=some (.row aH 11 [fu r w q x y f z A F G H]):=by rw[aw.2 j ac.ne (iG a8)];exact L
   simp only[bs,(rN a4).2,a5,C7,gg,vF];refine xx bb ⟨av,bk _,by simp[-a7N,jH],a7⟩ (u:=[]) (by rfl) λa2 b0 ag ax=>?_
   rw[bt]at ag;have ag:a2[X]?=some (.row bE 2 (c.map aM++[aM (hB n).1])):=ag;simp only[bs,cO,bu];have a3:N - a=(N - (a+1))+1:=by omega
   rw[a3]at ad ae;have bx:aR a2 n0 dD 3 (t.map cR) f:=by
    have ap:aR a1 n0 dD 3 (t.map cR) f:=au.cL λd _ e=>aw.2 d (mz au jC (by decide) e) (mz au p (by decide) e)
    obtain⟨b5,b4,_⟩:=bb;exact ap.cL λd _ e=>ax.2 d (mz ap b4 (by decide) e) (mz ap av (by decide) e)
   refine .some (.inl ⟨rfl,aq - 1,by omega,_,_,_,H,a+1,c++[(hB n).1],(hB n).2,rfl,by omega,⟨?_,b0,λd af=>?_,b.ni,b.nc⟩,bx,?_,by simp[-a7N,l],?_,?_⟩)
   ·rw[ax.2 j ac.ne (iG a8)];exact a4
   ·have q:=b.nc;rw[ax.2 d (by omega) (by omega),aw.2 d (by omega) (by omega)];exact ac.lo d af
   ·refine .inr ⟨X,bo,?_,by rw[ag];simp[-a7N]⟩;rw[a6,bm];simp[-a7N,l]
   ·rw[← ad];simp[-a7N,g3]
   ·rw[← ae];simp[-a7N,g3]
  ·intro I;have I:a=N:=by
    have:¬(a:Int)<(N:Int):=by simpa using I
    omega
   subst I;rw[B7]at ad ae;have a0:c++[]=(g3 a s).1:=ad;have bi:n=(g3 a s).2:=ae;rw[nm]at a0;rw[bi]at b;exact .some (.inr ⟨by simp,rfl,_,_,_,_,h,rfl,b,K,by rw[← a0];exact E⟩)
 ·rintro⟨b6,ak,g'⟩ ⟨rfl,B,M,P,C,h,rfl,b,K,E⟩;exact k g' h B M P C b K E
structure RI where
 r:aD
 a0:Int
 a1:Int
 a2:Int
 a3:Int
 ls:List eV
 a5:Int
 a6:Int
 t7:aD
 t8:aD
 fs:List (aD × aD)
def gD(s:cU):cU:=(cQ (cQ (cQ (cQ (dK s).2).2).2).2).2
def ja(s:cU):cU:=(gR (eM (gD s)).1.toNat (eM (gD s)).2).2
def ik(s:cU):cU:=(dK (dK (cQ (cQ (ja s)).2).2).2).2
def dW(s:cU):RI:=
 { r:=(dK s).1.getD [],a0:=(cQ (dK s).2).1,a1:=(cQ (cQ (dK s).2).2).1,a2:=(cQ (cQ (cQ (dK s).2).2).2).1,a3:=(cQ (cQ (cQ (cQ (dK s).2).2).2).2).1,
   ls:=(gR (eM (gD s)).1.toNat (eM (gD s)).2).1,a5:=(cQ (ja s)).1,a6:=(cQ (cQ (ja s)).2).1,t7:=(dK (cQ (cQ (ja s)).2).2).1.getD [],t8:=(dK (dK (cQ (cQ (ja s)).2).2).2).1.getD [],
   fs:=(g3 (eM (ik s)).1.toNat (eM (ik s)).2).1 }
def jb(s:cU):cU:=(g3 (eM (ik s)).1.toNat (eM (ik s)).2).2
def RI.row(x:RI)(b a:D):List D:=fu x.r x.a0 x.a1 x.a2 x.a3 b x.a5 x.a6 x.t7 x.t8 a
end Go.Proofs.YtkcdpfogoepamaaGreatDoor
namespace Go.Eng
abbrev BK:=@List.Perm.refl
abbrev BS:=@List.length_eq_one_iff
abbrev BW:=@List.perm_append_comm
abbrev Ly:=@List.map_congr_left
end Go.Eng
namespace Go.Proofs.YtkcdpfogoepamaaGreatDoor
open Go.Eng Go.Pi
open Option renaming bind_some → a7N
theorem a6f{n0 a b:Nat}{c g:J}{s:cU}(v:gT n0 a b c g (fu [] 0 0 0 0 .aA 0 0 [] [] .aA) s){P:Type}{f:D × J→Option P}{Q:P→Prop}
  (k:∀e h w,gT n0 a b c e ((dW s).row h w) (jb s)→aR e n0 dD 3 ((dW s).ls.map cR) h→aR e n0 bE 2 ((dW s).fs.map aM) w→Wp (f (aF [],e)) Q):Wp ((R vn [.iface mC (.ptr b 0 0),.ptr a 0 0] g).bind f) Q:=by
 rw[Nj];simp only[Bh,bs,aL,gg,u1,lB,zw,zu,G8,vF,qC,GD,uZ,u0,qs,s3];refine Im v 0 (u:=[]) (by rfl) λac E _=>?_
 have E:gT n0 a b c ac (fu (dW s).r 0 0 0 0 .aA 0 0 [] [] .aA) (dK s).2:=E;simp only[bs,Ma (.ptr a 0 (0+1+0)) (.ptr a 0 (0+1+1)) (.ptr a 0 (0+1+2)) (.ptr a 0 (0+1+3)) rfl rfl rfl rfl,show([[.ptr a 0 (0+1+0)],[.ptr a 0 (0+1+1)],[.ptr a 0 (0+1+2)],[.ptr a 0 (0+1+3)]]:List (List D))=tG a from rfl,O7,show(tG a).length=4 from rfl];refine Wp.loop (λK B i=>∃q r,∃m:Nat,B=[q,.int .i64 m,r]∧K+m=4∧((m=0∧gT n0 a b c i (fu (dW s).r 0 0 0 0 .aA 0 0 [] [] .aA) (dK s).2)∨(m=1∧gT n0 a b c i (fu (dW s).r (dW s).a0 0 0 0 .aA 0 0 [] [] .aA) (cQ (dK s).2).2) ∨
   (m=2∧gT n0 a b c i (fu (dW s).r (dW s).a0 (dW s).a1 0 0 .aA 0 0 [] [] .aA) (cQ (cQ (dK s).2).2).2)∨(m=3∧gT n0 a b c i (fu (dW s).r (dW s).a0 (dW s).a1 (dW s).a2 0 .aA 0 0 [] [] .aA) (cQ (cQ (cQ (dK s).2).2).2).2) ∨
   (m=4∧gT n0 a b c i (fu (dW s).r (dW s).a0 (dW s).a1 (dW s).a2 (dW s).a3 .aA 0 0 [] [] .aA) (gD s))))
  (λC=>C.1 = .ext 0∧(∃q r G,C.2.1=[q,r,G])∧gT n0 a b c C.2.2 (fu (dW s).r (dW s).a0 (dW s).a1 (dW s).a2 (dW s).a3 .aA 0 0 [] [] .aA) (gD s)) 4 ⟨_,_,0,rfl,rfl,.inl ⟨rfl,E⟩⟩ ?_ ?_
 ·rintro K B i ⟨q,r,m,rfl,bo,ap⟩;simp only[Bi,aW,bL,bs,aL,bS];have x:∀l:Nat,l<4→aO tab pX (.sl 1 true (tG a)) (.int .i64 l)=some (.aE [.ptr a 0 (0+1+l)]):=λl bn=>by
   have:l=0∨l=1∨l=2∨l=3:=by omega
   rcases this with rfl|rfl|rfl|rfl<;>(rw[vH];rfl)
  rcases ap with⟨rfl,j⟩|⟨rfl,j⟩|⟨rfl,j⟩|⟨rfl,j⟩|⟨rfl,j⟩
  ·simp only[show decide (((0:Nat):Int)<((4:Nat):Int))=true from rfl,aK,aN,x 0 (by omega),vP,bs,qC];refine ub j (0+1+0) (by simp[-a7N,fu]) λe d _=>?_
   simp only[bs,cO];exact .some (.inl ⟨rfl,3,by omega,_,_,1,rfl,rfl,.inr (.inl ⟨rfl,d⟩)⟩)
  ·simp only[show decide (((1:Nat):Int)<((4:Nat):Int))=true from rfl,aK,aN,x 1 (by omega),vP,bs,qC];refine ub j (0+1+1) (by simp[-a7N,fu]) λe d _=>?_
   simp only[bs,cO];exact .some (.inl ⟨rfl,2,by omega,_,_,2,rfl,rfl,.inr (.inr (.inl ⟨rfl,d⟩))⟩)
  ·simp only[show decide (((2:Nat):Int)<((4:Nat):Int))=true from rfl,aK,aN,x 2 (by omega),vP,bs,qC];refine ub j (0+1+2) (by simp[-a7N,fu]) λe d _=>?_
   simp only[bs,cO];exact .some (.inl ⟨rfl,1,by omega,_,_,3,rfl,rfl,.inr (.inr (.inr (.inl ⟨rfl,d⟩)))⟩)
  ·simp only[show decide (((3:Nat):Int)<((4:Nat):Int))=true from rfl,aK,aN,x 3 (by omega),vP,bs,qC];refine ub j (0+1+3) (by simp[-a7N,fu]) λe d _=>?_
   simp only[bs,cO];exact .some (.inl ⟨rfl,0,by omega,_,_,4,rfl,rfl,.inr (.inr (.inr (.inr ⟨rfl,d⟩)))⟩)
  ·simp only[show decide (((4:Nat):Int)<((4:Nat):Int))=false from rfl,aK,aU,aJ];exact .some (.inr ⟨by simp,rfl,⟨_,_,_,rfl⟩,j⟩)
 rintro⟨bh,B,e⟩ ⟨rfl,⟨q,r,G,rfl⟩,d⟩;have d:gT n0 a b c e (fu (dW s).r (dW s).a0 (dW s).a1 (dW s).a2 (dW s).a3 .aA 0 0 [] [] .aA) (gD s):=d;simp only[dA,cN,bs,aL,gg,jY,(rN d.hi).1,a1r,G8,GD];have bl:=MF d.hc;refine Ro d _ λbi a7 _=>?_
 obtain⟨o,ao⟩:∃o:Nat,(eM (gD s)).1=o:=⟨(eM (gD s)).1.toNat,by omega⟩
 have I:(eM (gD s)).1.toNat=o:=by omega
 simp only[bs];refine a6m o (by omega) (by rw[ao]) a7 rfl _ _ _ _ λbj h T X aa ab bf F L=>?_
 have aj:(gR o (eM (gD s)).2).2=ja s:=by unfold ja;rw[I]
 have am:(gR o (eM (gD s)).2).1=(dW s).ls:=by unfold dW;simp only[I]
 rw[aj]at F;rw[am]at L;simp only[dA,cN,bs,aL,gg,xT,xU,xV,xW,oM,zu,zw,G8,qC,vF,GD];have t:∀{g i:J} {az:List D} {a4:cU},aR g n0 dD 3 ((dW s).ls.map cR) h→gT n0 a b c g az a4→q5 g i b a→aR i n0 dD 3 ((dW s).ls.map cR) h:=λaq v a9=>by
  obtain⟨bg,ai,_⟩:=v.hc;exact aR.wrt aq a9 ai v.hi (by decide) (by decide)
 refine ub F (0+1+5) (by simp[-a7N,fu]) λae y ba=>?_
 have ar:=t L F ba;have y:gT n0 a b c ae (fu (dW s).r (dW s).a0 (dW s).a1 (dW s).a2 (dW s).a3 h (dW s).a5 0 [] [] .aA) (cQ (ja s)).2:=y;simp only[bs];refine ub y (0+1+6) (by simp[-a7N,fu]) λaf z bb=>?_
 have au:=t ar y bb;have z:gT n0 a b c af (fu (dW s).r (dW s).a0 (dW s).a1 (dW s).a2 (dW s).a3 h (dW s).a5 (dW s).a6 [] [] .aA) (cQ (cQ (ja s)).2).2:=z;simp only[bs];refine Im z (0+1+7) (u:=[]) (by rfl) λag A bc=>?_
 have av:=t au z bc;have A:gT n0 a b c ag (fu (dW s).r (dW s).a0 (dW s).a1 (dW s).a2 (dW s).a3 h (dW s).a5 (dW s).a6 (dW s).t7 [] .aA) (dK (cQ (cQ (ja s)).2).2).2:=A;simp only[bs];refine Im A (0+1+8) (u:=[]) (by rfl) λah p bd=>?_
 have aw:=t av A bd;have p:gT n0 a b c ah (fu (dW s).r (dW s).a0 (dW s).a1 (dW s).a2 (dW s).a3 h (dW s).a5 (dW s).a6 (dW s).t7 (dW s).t8 .aA) (ik s):=p;simp only[bs,(rN p.hi).2,a1s];have bm:=MF p.hc;refine Ro p _ λbk a8 be=>?_
 have ax:=t aw p be;obtain⟨n,an⟩:∃n:Nat,(eM (ik s)).1=n:=⟨(eM (ik s)).1.toNat,by omega⟩
 have H:(eM (ik s)).1.toNat=n:=by omega
 simp only[bs];refine a6g n (by omega) (by rw[an]) a8 ax _ _ _ λad w T X aa ab N ay M=>?_
 have ak:(g3 n (eM (ik s)).2).2=jb s:=by unfold jb;rw[H]
 have al:(g3 n (eM (ik s)).2).1=(dW s).fs:=by unfold dW;simp only[H]
 rw[ak]at N;rw[al]at M;simp only[dA,lz,bs,aL];exact k ad h w N ay M
theorem G9(z:Int)(l:List Int):num (z::l)=z*256 ^ l.length+num l:=by
 have h:∀(l:List Int) (b:Int),l.foldl (λc a=>c*256+a) b=b*256 ^ l.length+l.foldl (λc a=>c*256+a) 0:=by
  intro l
  induction l with
  |nil=>intro b;simp[-a7N]
  | cons d f e =>
   intro b;simp only[o9,g7];rw[e (b*256+d),e (0*256+d),BH];generalize (256:Int) ^ f.length=g;generalize List.foldl (λc a=>c*256+a) 0 f=i;simp only[w6,Int.zero_mul,Int.zero_add];rw[Int.mul_assoc,Int.mul_comm 256 g,Int.add_assoc]
 unfold num;simp only[o9];rw[h l (0*256+z)];simp[-a7N]
theorem PL:∀(k:Nat) (v:Int),0≤v→num (gu k v)=v % 256 ^ k
 |0,v,_=>by simp[-a7N,gu,num]
 | k+1,v,h=>by
  simp only[gu];rw[G9,hQ,PL k v h,wC];have l:(2:Int) ^ (8*k)=256 ^ k:=by rw[Int.pow_mul];rfl
  rw[l];have c:(0:Int)<256 ^ k:=Int.pow_pos (by omega);rw[sr _ (by omega)];rw[BH];generalize (256:Int) ^ k=a at c;have g:=Int.mul_ediv_add_emod v a;have i:=Int.mul_ediv_add_emod (v / a) 256;have n:=Int.emod_nonneg v (show a≠0 by omega);have o:=Int.emod_lt_of_pos v c;have j:=Int.emod_nonneg (v / a) (show(256:Int)≠0 by omega);have p:=Int.emod_lt_of_pos (v / a) (show(0:Int)<256 by omega);generalize v % a=m at *;generalize q:v / a=d at *;generalize d % 256=b at *;generalize d / 256=e at *;have f:v=(b*a+m)+(a*256)*e:=by
   rw[← g,← i];simp only[Int.mul_add,w6];rw[Int.mul_comm a b,← Int.mul_assoc a 256 e];omega
  rw[f,Int.add_mul_emod_self_left];have s:b*a+a≤a*256:=by
   have:(b+1)*a≤256*a:=Lu (by omega) (by omega);rw[w6,Int.one_mul,Int.mul_comm 256 a]at this;exact this
  have r:0≤b*a:=Int.mul_nonneg j (by omega);exact(Lt (by omega) (by omega)).symm
def p9(n:Int):Prop := -9223372036854775808≤n∧n<9223372036854775808
theorem a6T(n:Int):IntKind.wrap .u64 n=n % 18446744073709551616:=by
 unfold IntKind.wrap;simp[-a7N,IntKind.signed,IntKind.bits,IntKind.min,IntKind.max]
theorem v9:(256:Int) ^ 4=4294967296:=by decide
theorem PK{n:Nat}(h:n<4294967296):num (pN n)=n:=by
 unfold pN;rw[iF (by omega) (by omega),PL 4 _ (by omega),v9];omega
structure RK (l:eV):Prop where
 o:p9 l.off
 n:p9 l.len
 t:l.fj.length<4294967296
structure RE (i:It):Prop where
 r:i.r.length<4294967296
 a0:p9 i.e.a0
 a1:p9 i.e.a1
 a2:p9 i.e.a2
 a3:p9 i.e.a3
 nl:i.e.ls.length<4294967296
 ls:∀l∈i.e.ls,RK l
 a5:p9 i.e.a5
 a6:p9 i.e.a6
 t7:i.e.s7.length<4294967296
 t8:i.e.s8.length<4294967296
 nf:i.e.fs.length<4294967296
 fs:∀p∈i.e.fs,p.1.length<4294967296∧p.2.length<4294967296
def e5(i:It):RI:=⟨i.r,i.e.a0,i.e.a1,i.e.a2,i.e.a3,i.e.ls,i.e.a5,i.e.a6,i.e.s7,i.e.s8,i.e.fs⟩
theorem N1{α:Type}(f:α→List Int)(m:Nat):∀(l:List α),(∀a∈l,m≤(f a).length)→m*l.length≤(l.map f).flatten.length
 |[],_=>by simp
 | a::l,h=>by
  have d:=h a (by simp);have e:=N1 f m l λb c=>h b (by simp[-a7N,c])
  simp only[fP,kn,bF,g7,Nat.mul_succ];omega
theorem PW{h:J}{k e z:Nat}{α:Type}{f:α→List D}{l:List α}{d:D}{n:Nat}(b:aR h k e z (l.map f) d)(j:∀a∈l,∀d∈f a,snap h n d=d):aI z f l (snap h (n+1) d):=by
 rcases b with⟨rfl,i⟩|⟨o,m,rfl,g⟩
 ·exact .inl ⟨rfl,by simpa using i⟩
 ·refine .inr ⟨false,?_⟩;simp only[snap,g,il];rw[hN (by simp)];congr 1;rw[sx];refine Ly λa c=>?_
  simp only[Function.comp]
  conv=>rhs;rw[← List.map_id (f a)]
  exact Ly λd b=>j a c d b
theorem a1G(h:J)(n:Nat)(l:eV):∀d∈cR l,snap h n d=d:=by
 intro d a;simp only[cR,fc,oj,k9]at a;cases n<;>rcases a with rfl|rfl|rfl<;>rfl
theorem Y3(h:J)(n:Nat)(p:aD × aD):∀d∈aM p,snap h n d=d:=by
 intro d a;simp only[aM,fc,oj,k9]at a;cases n<;>rcases a with rfl|rfl<;>rfl
theorem H4(s:cU)(n:Int):(dJ s n).2.1.length≤s.1.length:=by
 unfold dJ;split
 ·exact bB _
 ·simp[-a7N]
theorem oY(s:cU):(cQ s).2.1.length≤s.1.length:=H4 s 8
theorem vS(s:cU):(dI s).2.1.length≤s.1.length:=H4 s 4
theorem qR(s:cU):(dK s).2.1.length≤s.1.length:=by
 have a:=H4 (dI s).2 (dI s).1;have b:=vS s;unfold dK;split
 ·simp only;omega
 ·simp only;omega
theorem Cz(s:cU):(eM s).1.toNat≤s.1.length∧(eM s).2.1.length≤s.1.length:=by
 have a:=vS s;unfold eM;split
 ·exact⟨by simp,a⟩
 ·rename_i c;refine⟨?_,a⟩;have b:¬((dI s).2.1.length:Int).tdiv 8<(dI s).1:=λd=>c (.inr d)
  rw[w7 (by omega)]at b;omega
theorem Pe(s:cU):(g5 s).2.1.length≤s.1.length:=by
 have a:=oY s;have b:=oY (cQ s).2;have c:=qR (cQ (cQ s).2).2;unfold g5;simp only;omega
theorem G0:∀(n:Nat) (s:cU),(gR n s).1.length=n∧(gR n s).2.1.length≤s.1.length
 |0,s=>⟨rfl,bB _⟩
 | n+1,s=>by
  have a:=G0 n (g5 s).2;have b:=Pe s;exact⟨by simp[-a7N,gR,a.1],fD a.2 b⟩
theorem NV:∀(n:Nat) (s:cU),(g3 n s).1.length=n
 |0,s=>rfl
 |n+1,s=>by simp[-a7N,g3,NV n]
theorem Il(s:cU):(gD s).1.length≤s.1.length:=by
 have a:=qR s;have b:=oY (dK s).2;have c:=oY (cQ (dK s).2).2;have d:=oY (cQ (cQ (dK s).2).2).2;have e:=oY (cQ (cQ (cQ (dK s).2).2).2).2;unfold gD;omega
theorem a6i(s:cU):(ik s).1.length≤s.1.length:=by
 have a:=Il s;have b:=(Cz (gD s)).2;have c:=(G0 (eM (gD s)).1.toNat (eM (gD s)).2).2;have h:(ja s).1.length≤s.1.length:=by unfold ja;omega
 have d:=oY (ja s);have e:=oY (cQ (ja s)).2;have f:=qR (cQ (cQ (ja s)).2).2;have g:=qR (dK (cQ (cQ (ja s)).2).2).2;unfold ik;omega
theorem a6k(s:cU):(dW s).ls.length≤s.1.length∧(dW s).fs.length≤s.1.length:=by
 have a:=Il s;have b:=(Cz (gD s)).1;have c:=(G0 (eM (gD s)).1.toNat (eM (gD s)).2).1;have d:=a6i s;have e:=(Cz (ik s)).1;have f:=NV (eM (ik s)).1.toNat (eM (ik s)).2;refine⟨?_,?_⟩
 ·show(gR (eM (gD s)).1.toNat (eM (gD s)).2).1.length≤_;omega
 ·show(g3 (eM (ik s)).1.toNat (eM (ik s)).2).1.length≤_;omega
def v5(x:RI)(b a:D)(c:aI 3 cR x.ls b)(h2:aI 2 aM x.fs a)(d:x.ls.length≤9223372036854775807)(e:x.fs.length≤9223372036854775807):It:=⟨x.r,⟨x.a0,x.a1,x.a2,x.a3,x.ls,b,x.a5,x.a6,x.t7,x.t8,x.fs,a,h2,e,c,d⟩⟩
theorem a2i(x:RI)(b a:D)(c:aI 3 cR x.ls b)(h2:aI 2 aM x.fs a)(d:x.ls.length≤9223372036854775807)(e:x.fs.length≤9223372036854775807):e5 (v5 x b a c h2 d e)=x:=rfl
def iy(c:Int)(l:List Int):Int × Int × RI:=
 if l.length<4 then(14,0,⟨[],0,0,0,0,[],0,0,[],[],[]⟩)
 else if num (l.take 4)<4∨(l.length:Int) - 4<num (l.take 4)then(14,0,⟨[],0,0,0,0,[],0,0,[],[],[]⟩)
 else if gz (l.take (num (l.take 4)).toNat)≠num ((l.drop (num (l.take 4)).toNat).take 4)then(15,0,⟨[],0,0,0,0,[],0,0,[],[],[]⟩)
 else if(jb ((l.take (num (l.take 4)).toNat).drop 4,false)).2=true∨0<(jb ((l.take (num (l.take 4)).toNat).drop 4,false)).1.length∨c≠0 then(1,0,⟨[],0,0,0,0,[],0,0,[],[],[]⟩)
 else(0,4+num (l.take 4),dW ((l.take (num (l.take 4)).toNat).drop 4,false))
def fF:It:=⟨[],⟨0,0,0,0,[],.aA,0,0,[],[],[],.aA,aI.aA _ _,by simp,aI.aA _ _,by simp⟩⟩
theorem l6:e5 fF=⟨[],0,0,0,0,[],0,0,[],[],[]⟩:=rfl
theorem MU{h g:J}{a b:Int}{j:It}(k:h.length≤g.length)(i:∀d,d<h.length→g[d]?=h[d]?):scope h g (.bD [.agg (aT j),.int .i64 a,.int .i64 b])=some (.bD [.agg (aT j),.int .i64 a,.int .i64 b],h):=by
 refine ff ?_ ?_ k i
 ·have f:(aT j).map (cS h.length g 2)=aT j:=by
    conv=>rhs;rw[← List.map_id (aT j)]
    exact Ly λe c=>y3 _ g 1 j e c
  show D.bD [D.agg ((aT j).map (cS h.length g 2)),.int .i64 a,.int .i64 b]=_;rw[f]
 ·refine .bD _ λe c=>?_
  simp at c;rcases c with rfl|rfl|rfl
  ·exact pK _ j
  ·constructor
  ·constructor
theorem pR(a b c:D):aF [a,b,c] = .bD [a,b,c]:=rfl
theorem a4b(l:List Int)(d:D)(c:Int)(h:J)(q:aI 1 aY l d)(cg:l.length≤1000000000)(T:∀z∈l,U8 z)
  (aw:∀j:It,e5 j=dW ((l.take (num (l.take 4)).toNat).drop 4,false)→∀g,R pv [.agg (aT j)] g=some (.int .i64 c,g)) :
  ∃j:It,R vl [d] h=some (.bD [.agg (aT j),.int .i64 (iy c l).2.1,.int .i64 (iy c l).1],h)∧e5 j=(iy c l).2.2:=by
 suffices Wp (R vl [d] h) (λK=>K.2=h∧∃j:It,K.1 = .bD [.agg (aT j),.int .i64 (iy c l).2.1,.int .i64 (iy c l).1]∧e5 j=(iy c l).2.2) by
  obtain⟨⟨cd,x⟩,t,rfl,j,rfl,bk⟩:=this;exact⟨j,t,bk⟩
 have b3:([.str [],.int .i64 0,.int .i64 0,.int .i64 0,.int .i64 0,.aA,.int .i64 0,.int .i64 0,.str [],.str [],.aA]:List D)=aT fF:=rfl;have bm:eD tab aH [] []=some (.agg (aT fF)):=id rfl;have y:∀(g:J) (row:List D) (p aa:Int),g[h.length]?=some (.row aH 11 [row])→row.length=11→h.length≤g.length→(∀a,a<h.length→g[a]?=h[a]?)→(p,aa,e5 fF)=((iy c l).2.1,(iy c l).1,(iy c l).2.2) →
   Wp ((aS tab g aH (.ptr h.length 0 0) (.agg (aT fF))).bind λx=>(Y tab x aH (.ptr h.length 0 0)).bind λd=>scope h x (aF [d,.int .i64 p,.int .i64 aa])) (λK=>K.2=h∧∃j:It,K.1 = .bD [.agg (aT j),.int .i64 (iy c l).2.1,.int .i64 (iy c l).1]∧e5 j=(iy c l).2.2):=by
  intro g row p aa br a0 bu bt bo;injection bo with bp ah;injection ah with ah bq;refine l5 br (by rfl) (by rfl) (by rw[a0];exact bB _) (by rfl) λaq x a5=>?_
  have x:aq[h.length]?=some (.row aH 11 [aT fF]):=by
   rw[x];have b2:dZ row 0 (cX (.agg (aT fF)))=aT fF:=by
    have bj:(aT fF).length=11:=rfl;simp[-a7N,dZ,cX,a0,bj]
   rw[b2];rfl
  have r:Y tab aq aH (.ptr h.length 0 0)=some (.agg (aT fF)):=by rw[pM,dM x];rfl
  rw[r];simp only[bs,pR];rw[MU (by rw[a5.1];exact bu) (λa o=>by rw[a5.2 a (by omega)];exact bt a o)];exact .some ⟨rfl,fF,by rw[bp,ah],bq⟩
 rw[Vk];simp only[Ke,b3,bs,aL,fm q,bS,bm];have G:(aG h aH 11 [aT fF])[h.length]?=some (.row aH 11 [aT fF]):=fO _ _ _ _;have H:∀a,a<h.length→(aG h aH 11 [aT fF])[a]?=h[a]?:=λa o=>eT _ _ _ _ o
 have ai:(aG h aH 11 [aT fF]).length=h.length+1:=by simp[-a7N,aG]
 generalize aG h aH 11 [aT fF]=m at *;refine Wp.dF ?_ ?_
 ·intro s;have s:l.length<4:=by
   have:(l.length:Int)<4:=by simpa using s
   omega
  have b:iy c l=(14,0,⟨[],0,0,0,0,[],0,0,[],[],[]⟩):=by unfold iy;rw[bO s]
  exact y m _ 0 14 G rfl (by omega) H (by rw[b,l6])
 intro s;have s:¬l.length<4:=by
  have:¬(l.length:Int)<4:=by simpa using s
  omega
 obtain⟨ap,bd,am⟩:=rY q (k :=.i64) (n:=4) (by omega) (by omega);have am:aI 1 aY (l.take 4) ap:=am;have bw:(l.take 4).length=4:=by simp;omega
 have a2:∀z∈l.take 4,U8 z:=λz b=>T z (fG b)
 have bc:=zR _ ap m am (by omega) a2;obtain⟨n0,b7⟩:=nR 4 _ bw a2;rw[v9]at b7;have ca:IntKind.wrap .i64 (num (l.take 4))=num (l.take 4):=bJ (by omega) (by omega);have a9:IntKind.wrap .i64 ((l.length:Int) - 4)=(l.length:Int) - 4:=bJ (by omega) (by omega);generalize ae:num (l.take 4)=ce at *;obtain⟨n,rfl⟩:=lM n0;simp only[eQ]at aw;simp only[bs,bd,bc,nE,ca,bS,bZ];by_cases af:(n:Int)<4∨(l.length:Int) - 4<(n:Int)
 ·have b:iy c l=(14,0,⟨[],0,0,0,0,[],0,0,[],[],[]⟩):=by unfold iy;rw[cC s,ae,bO af]
  by_cases L:(n:Int)<4
  ·simp only[L,cM,reduceCtorEq,eP,aJ,bs,bW,aN,aK];exact y m _ 0 14 G rfl (by omega) H (by rw[b,l6])
  ·have ab:(n:Int)>(l.length:Int) - 4:=by omega
   simp only[L,bT,aN,bs,fm q,eB,a9,dE,ab,cM,reduceCtorEq,eP,aU,aJ,bW,aK];exact y m _ 0 14 G rfl (by omega) H (by rw[b,l6])
 have L:¬(n:Int)<4:=by omega
 have ab:¬(n:Int)>(l.length:Int) - 4:=by omega
 simp only[L,bT,aN,bs,fm q,eB,a9,dE,ab,reduceCtorEq,eP,aU,aJ,bW,aK];obtain⟨dn,bf,a8⟩:=rY q (k :=.i64) (n:=(n:Int)) (by omega) (by omega);rw[eQ]at a8;have rq:=QP (l.take n) dn m (.inl a8) (by simp;omega) (λz b=>T z (fG b));have cb:IntKind.wrap .i64 ((n:Int)+4)=((n+4:Nat):Int):=by rw[bJ (by omega) (by omega)];omega
 obtain⟨bb,be,a7⟩:=qj q n (n+4) (by omega) (by omega);have b5:(l.take (n+4)).drop n=(l.drop n).take 4:=by rw[od];congr 1;omega
 rw[b5]at a7;have CV:=zR _ bb m a7 (by simp;omega) (λz b=>T z (fM (fG b)));simp only[bf,rq,cO,cb,be,CV,bs,dH];refine Wp.dF ?_ ?_
 ·intro t;have t:gz (l.take n)≠num ((l.drop n).take 4):=by simpa using t
  have b:iy c l=(15,0,⟨[],0,0,0,0,[],0,0,[],[],[]⟩):=by unfold iy;rw[cC s,ae,cC af];simp only[eQ];rw[bO t]
  exact y m _ 0 15 G rfl (by omega) H (by rw[b,l6])
 intro t;have t:¬gz (l.take n)≠num ((l.drop n).take 4):=by simpa using t
 obtain⟨i,ac,a6⟩:=qj q 4 n (by omega) (by omega);have ac:eN tab aP true true false [d,.int .i64 4,.int .i64 n]=some i:=ac;have bz:(aG m aH 11 [aT fF])[h.length+1]?=some (.row aH 11 [aT fF]):=by rw[← ai];exact fO _ _ _ _
 have az:(aG m aH 11 [aT fF])[h.length]?=some (.row aH 11 [aT fF]):=by rw[eT _ _ _ _ (by omega)];exact G
 have ax:(aG m aH 11 [aT fF]).length=h.length+2:=by simp[-a7N,aG,ai]
 have b1:∀a,a<h.length→(aG m aH 11 [aT fF])[a]?=h[a]?:=λa o=>by rw[eT _ _ _ _ (by omega)];exact H a o
 simp only[bs,ai];generalize aG m aH 11 [aT fF]=w at *;have bl:eD tab hR [0] [i]=some (.agg [i,.bool false]):=Sb i (fx a6);simp only[ac,bl,bs,lj hR 2 w [i,.bool false] rfl (by omega),ax];have pD:(aG w hR 2 [[i,.bool false]])[h.length+2]?=some (.row hR 2 [[i,.bool false]]):=by rw[← ax];exact fO _ _ _ _
 have bv:(aG w hR 2 [[i,.bool false]])[h.length+1]?=some (.row aH 11 [aT fF]):=by rw[eT _ _ _ _ (by omega)];exact bz
 have ch:(aG w hR 2 [[i,.bool false]])[h.length]?=some (.row aH 11 [aT fF]):=by rw[eT _ _ _ _ (by omega)];exact az
 have b0:∀a,a<h.length+1→(aG w hR 2 [[i,.bool false]])[a]?=w[a]?:=λa o=>eT _ _ _ _ (by omega)
 generalize aG w hR 2 [[i,.bool false]]=bi at *;have ba:gT (h.length+1) (h.length+1) (h.length+2) w bi (fu [] 0 0 0 0 .aA 0 0 [] [] .aA) ((l.take n).drop 4,false):=
  ⟨bv,⟨i,pD,a6,λz b=>T z (fG (fM b)),by simp;omega⟩,b0,by omega,by omega⟩
 refine a6f ba λf r u E al ak=>?_
 generalize ar:(((l.take n).drop 4,false):cU)=e at *;obtain⟨cf,b4,a3,cj,ck⟩:=E.hc;obtain⟨a4,b6⟩:=xF b4;have I:f[h.length]?=some (.row aH 11 [aT fF]):=by rw[E.lo h.length (by omega)];exact az
 have Q:∀a,a<h.length→f[a]?=h[a]?:=λa o=>by rw[E.lo a (by omega)];exact b1 a o
 have P:h.length≤f.length:=by have:=(bR.1 I).1;omega
 have aj:Y tab f aH (.ptr (h.length+1) 0 0)=some (.agg ((dW e).row r u)):=by rw[pM,dM E.hi];rfl
 have ci:e.1.length≤1000000000:=by rw[← ar];simp[-a7N];omega
 obtain⟨N,M⟩:=a6k e;have N:(dW e).ls.length≤9223372036854775807:=by omega
 have M:(dW e).fs.length≤9223372036854775807:=by omega
 simp only[bs,gg,oL,xR,a4,b6,bZ,fm a3];have C:∀cd:Prop,iy c l=if(jb e).2=true∨0<(jb e).1.length∨c≠0 then(1,0,⟨[],0,0,0,0,[],0,0,[],[],[]⟩)else(0,4+(n:Int),dW e):=λ_=>by
  unfold iy;rw[cC s,ae,cC af];simp only[eQ];rw[cC t,ar]
 have C:=C True;cases au:(jb e).2 with
 | true =>
  have b:iy c l=(1,0,⟨[],0,0,0,0,[],0,0,[],[],[]⟩):=by rw[C,bO (.inl au)]
  simp only[reduceCtorEq,eP,aJ,bs,bW,aN,bZ,gk,aK];exact y f _ 0 1 I rfl P Q (by rw[b,l6])
 | false =>
  simp only[aN,bs,gg,oL,a4,fm a3,dE];by_cases ay:0<(jb e).1.length
  ·have b:iy c l=(1,0,⟨[],0,0,0,0,[],0,0,[],[],[]⟩):=by rw[C,bO (.inr (.inl ay))]
   have ag:decide (((jb e).1.length:Int)>0)=true:=by simp only[xK];omega
   simp only[ag,reduceCtorEq,eP,aU,aJ,bs,bW,aN,bZ,gk,aK];exact y f _ 0 1 I rfl P Q (by rw[b,l6])
  ·have ag:decide (((jb e).1.length:Int)>0)=false:=by simp only[decide_eq_false_iff_not];omega
   have ao:=PW (n:=1) al (λp _=>a1G f 1 p);have an:=PW (n:=1) ak (λp _=>Y3 f 1 p);have a1:snap f 3 (.agg ((dW e).row r u)) = .agg (aT (v5 (dW e) _ _ ao an N M)):=rfl;have av:=aw (v5 (dW e) _ _ ao an N M) (a2i _ _ _ _ _ _ _) (f.map λ_ =>.dead);have bx:(D.agg ((dW e).row r u)).fo=true:=by
    clear av a1 ao an E aj;rcases al with⟨rfl,_⟩|⟨_,_,rfl,_⟩<;>rcases ak with⟨rfl,_⟩|⟨_,_,rfl,_⟩<;>rfl
   have bn:lP R pv [.agg ((dW e).row r u)] f=some (.int .i64 c,f):=by
    unfold lP;simp only[fP,kE,a1,av];rfl
   simp only[ag,aN,aU,aJ,bs,bW,bZ,aj,gk,bn,dH];by_cases F:c=0
   ·have b:iy c l=(0,4+(n:Int),dW e):=by
      rw[C,cC];rintro(B|B|B)
      ·rw[au]at B;cases B
      ·exact ay B
      ·exact B F
    rw[F]at b;have cc:IntKind.wrap .i64 (4+(n:Int))=4+(n:Int):=bJ (by omega) (by omega);simp only[F,dU,eF,bT,aK,aU,aJ,bs,aj,cO,cc];refine l5 (kk:=0) (off:=0) (row:=aT fF) (v :=.agg ((dW e).row r u)) I (by rfl) (by rfl) (by exact bB _) bx λA ad X=>?_
    have ad:A[h.length]?=some (.row aH 11 [(dW e).row r u]):=ad;have tw:Y tab A aH (.ptr h.length 0 0)=some (.agg ((dW e).row r u)):=by rw[pM,dM ad];rfl
    have b9:aR A (h.length+1) dD 3 ((dW e).ls.map cR) r:=al.cL λa o _=>X.2 a (by omega)
    have b8:aR A (h.length+1) bE 2 ((dW e).fs.map aM) u:=ak.cL λa o _=>X.2 a (by omega)
    have bh:=gS (n0:=h.length) (n:=1) b9 (by omega) (λp _=>nQ _ A 1 p);have bg:=gS (n0:=h.length) (n:=1) b8 (by omega) (λp _=>pt _ A 1 p);simp only[tw,bs,pR];rw[ff (d' :=.bD [.agg (aT (v5 (dW e) _ _ bh bg N M)),.int .i64 (4+(n:Int)),.int .i64 0]) rfl (by
     refine .bD _ λd q=>?_
     simp at q;rcases q with rfl|rfl|rfl
     ·exact pK _ _
     ·constructor
     ·constructor) (by rw[X.1];exact P) (λa o=>by rw[X.2 a (by omega)];exact Q a o)]
    exact .some ⟨rfl,_,by rw[b],by rw[b];rfl⟩
   ·have b:iy c l=(1,0,⟨[],0,0,0,0,[],0,0,[],[],[]⟩):=by rw[C,bO (.inr (.inr F))]
    simp only[F,dU,fw,cM,aK,aN,bs];exact y f _ 0 1 I rfl P Q (by rw[b,l6])
theorem a3q(l:List Int)(d:D)(h:J)(p:iq h l d)(x:l.length≤9223372036854775807):R Dl [d] h=some (.int .u32 (jr l),h):=by
 apply Wp.val;rw[Ux];simp only[Jf,bs,aL,rT p];refine Wp.loop (λk c e=>e=h∧∃f g n o,∃a:Nat,c=[.int .u32 (mN 4294967295 (l.take a)),f,.int .i64 a,g,n,o]∧k+a=l.length) (λm=>m.1 = .ext 0∧m.2.2=h∧Z 0 m.2.1 = .int .u32 (mN 4294967295 l)) l.length ⟨rfl,_,_,_,_,0,rfl,rfl⟩ ?_ ?_
 ·rintro k c e ⟨rfl,f,g,n,o,a,rfl,w⟩;simp only[Jg,aW,bL,bs,aL,bS];refine Wp.dF ?_ ?_
  ·intro b;have b:a<l.length:=fe b;have i:l[a]?=some l[a]:=dG b;have q:l.take (a+1)=l.take a++[l[a]]:=by rw[g9,i];rfl
   generalize l[a]=r at i q;have t:=eR a (by omega);obtain⟨y,u,v⟩:=Hj p a r i;simp only[u,v,bs,CC,uS];have s:kQ 8 (IntKind.wrap .u32 (BitVec.ofInt IntKind.u32.bits (mN 4294967295 (l.take a)) ^^^ BitVec.ofInt IntKind.u32.bits (IntKind.wrap .u32 r)).toNat)=mN 4294967295 (l.take (a+1)):=by rw[q,CA];rfl
   refine a0J e _ (by rw[sa];exact sL _) _ λf g=>?_
   simp only[dA,ga,cN,aW,bL,bs,cO,t,s];exact .some (.inl ⟨rfl,k - 1,by omega,rfl,_,_,_,_,a+1,rfl,by omega⟩)
  ·intro b;have b:a=l.length:=by
    have:¬(a:Int)<l.length:=by simpa using b
    omega
   subst b;exact .some (.inr ⟨by simp,rfl,rfl,by simp⟩)
 ·rintro⟨z,c,e⟩ ⟨rfl,rfl,j⟩;replace j:Z 0 c=_:=j;simp only[dA,cN,aW,bs,j,MS,cP];exact .some rfl
theorem HC (a:List (List Int × D)) (d:D) (h:J) (B:aI 1 (λp:List Int × D=>[p.2]) a d) (N:∀p∈a,iq h p.1 p.2) (am:((a.map (·.1)).flatten).length≤1000000000) (al:a.length≤1000000000):∃d' h',R s9 [d] h=some (d',h')∧aR h' h.length cD 1 (((a.map (·.1)).flatten).map aY) d'∧h.length≤h'.length∧∀c,c<h.length→h'[c]?=h[c]?:=by
 suffices Wp (R s9 [d] h) (λf=>aR f.2 h.length cD 1 (((a.map (·.1)).flatten).map aY) f.1∧h.length≤f.2.length∧∀c,c<h.length→f.2[c]?=h[c]?) by
  obtain⟨⟨u,h'⟩,l,v⟩:=this;exact⟨u,h',l,v⟩
 have L:∀i,(((a.take i).map (·.1)).flatten).length≤((a.map (·.1)).flatten).length:=λi=>by
  have:((a.take i).map (·.1)).flatten++((a.drop i).map (·.1)).flatten=(a.map (·.1)).flatten:=by
   rw[← lp,← gL,h6]
  rw[← this];simp[-a7N]
 have M:∀i p,a[i]?=some p→((a.take (i+1)).map (·.1)).flatten=((a.take i).map (·.1)).flatten++p.1:=λi p w=>by
  rw[g9,w];simp[-a7N]
 rw[Ut];simp only[I9,bs,aL,GY B];refine Wp.loop (λq k b=>b=h∧∃y z K,∃i:Nat,k=[.int .i64 (((a.take i).map (·.1)).flatten).length,y,.int .i64 i,z,K]∧q+i=a.length)
  (λf=>f.1 = .ext 0∧f.2.2=h∧Z 0 f.2.1 = .int .i64 ((a.map (·.1)).flatten).length) a.length ⟨rfl,_,_,_,0,rfl,rfl⟩ ?_ ?_
 ·rintro q k b ⟨rfl,y,z,K,i,rfl,ad⟩;simp only[Ja,aW,bL,bs,aL,bS];refine Wp.dF ?_ ?_
  ·intro e;have e:i<a.length:=fe e;have o:a[i]?=some a[i]:=dG e;generalize a[i]=p at o;have w:=N p (eW o);have F:=eR i (by omega);have l:=M i p o;have v:=L (i+1);have ag:IntKind.wrap .i64 ((((a.take i).map (·.1)).flatten.length:Int)+p.1.length)=(((a.take (i+1)).map (·.1)).flatten).length:=by
    rw[l]at v ⊢;simp only[bF]at v ⊢;rw[bJ (by omega) (by omega)];omega
   have ae:¬((((a.take (i+1)).map (·.1)).flatten.length:Int)<0):=by omega
   simp only[y8 B,jJ,aN,eQ,o,hU,bs,GO,rT w,cO,ag,F,ae,bT,aK,aU,aJ,ga,cN];exact .some (.inl ⟨rfl,q - 1,by omega,rfl,_,_,_,i+1,rfl,by omega⟩)
  ·intro e;have e:i=a.length:=by
    have:¬(i:Int)<a.length:=by simpa using e
    omega
   subst e;exact .some (.inr ⟨by simp,rfl,rfl,by simp⟩)
 ·rintro ⟨u,k,b⟩ ⟨rfl,rfl,g⟩;replace g:Z 0 k=_:=g;simp only[dA,cN,aW,bs,g,a3p _ b (jJ _) (by omega:((((a.map (·.1)).flatten).length:Nat):Int)≤1000000000)];generalize P:((a.map (·.1)).flatten).length=m at *;have ab:∃E A,(if(m:Int)=0 then some (D.aA,b)else some (.aZ 1 b.length 0 0,aG b cD 1 (List.replicate (m:Int).toNat sb)))=some (E,A)∧b.length≤A.length∧(∀c,c<b.length→A[c]?=b[c]?)∧((m=0∧E = .aA)∨(E = .aZ 1 b.length 0 0∧A[b.length]?=some (.row cD 1 (List.replicate m sb)))):=by
   by_cases H:m=0
   ·subst H;exact⟨_,_,by simp,bB _,λ_ _=>rfl,.inl ⟨rfl,rfl⟩⟩
   ·refine⟨.aZ 1 b.length 0 0,aG b cD 1 (List.replicate m sb),by simp[-a7N,H],by simp[-a7N,aG],λc C=>?_,.inr ⟨rfl,by simp[-a7N,aG]⟩⟩;simp only[aG];rw[fg C]
  obtain⟨E,A,aa,ai,X,ah⟩:=ab;refine Wp.step aa ?_;simp only[bs];refine Wp.loop (λq k n=>∃u y z,∃i:Nat,k=[u,y,.int .i64 i,z]∧q+i=a.length∧b.length≤n.length∧(∀c,c<b.length→n[c]?=b[c]?)∧((m=0∧u = .aA)∨(u = .aZ 1 b.length 0 (((a.take i).map (·.1)).flatten.map aY).length∧n[b.length]?=some (.row cD 1 (((a.take i).map (·.1)).flatten.map aY++List.replicate (m - (((a.take i).map (·.1)).flatten).length) sb)))))
   (λf=>f.1 = .ext 2∧b.length≤f.2.2.length∧(∀c,c<b.length→f.2.2[c]?=b[c]?)∧((m=0∧Z 0 f.2.1 = .aA)∨(Z 0 f.2.1 = .aZ 1 b.length 0 m∧f.2.2[b.length]?=some (.row cD 1 ((a.map (·.1)).flatten.map aY))))) a.length ⟨E,_,_,0,rfl,rfl,ai,X,by simpa using ah⟩ ?_ ?_
  ·rintro q k n ⟨u,y,z,i,rfl,ad,x,r,G⟩;simp only[Jb,aW,bL,bs,aL,bS];refine Wp.dF ?_ ?_
   ·intro e;have e:i<a.length:=fe e;have o:a[i]?=some a[i]:=dG e;generalize a[i]=p at o;have w:iq n p.1 p.2:=(N p (eW o)).cL λc T ao an C=>r c (bR.1 C).1
    have F:=eR i (by omega);have l:=M i p o;have v:=L (i+1);rw[l,bF]at v;simp only[y8 B,jJ,aN,eQ,o,hU,bs,GO];rcases G with⟨H,rfl⟩|⟨rfl,s⟩
    ·have af:p.1=[]:=BT.1 (by omega);have I:dB tab n aP aP .aA p.2=some (.aA,n):=by
      have B:ix n iK iE p.2=some []:=by
       simp only[ix,Ah,Aj,m6 w,af];rfl
      unfold dB;simp only[Ie,Ah,Ig,B,Aj,L7]
     refine Wp.step I ?_;simp only[cO,bs,F];exact .some (.inl ⟨rfl,q - 1,by omega,_,_,_,i+1,rfl,by omega,x,r,.inl ⟨H,rfl⟩⟩)
    ·obtain⟨ak,I,ac,Q⟩:=RV (T:=tab) (t:=aP) (i:=iK) (j:=iE) (id rfl) (id rfl) (id rfl) (by decide) s (m6 w) (jD (by rw[a5l];simp only[fN];omega) (by simp only[fN];omega)) (by simp only[fN,BU];omega);refine Wp.step I ?_;simp only[bs,cO,F];refine .some (.inl ⟨rfl,q - 1,by omega,_,_,_,i+1,rfl,by omega,by rw[Q.1];exact x,λc C=>(Q.2 c (by omega)).trans (r c C),.inr ⟨?_,?_⟩⟩)
     ·rw[l];simp[-a7N];rfl
     ·refine ac.trans ?_;rw[l];simp only[gL,fN,List.drop_replicate,bF];congr 4;omega
   ·intro e;have e:i=a.length:=by
     have:¬(i:Int)<a.length:=by simpa using e
     omega
    subst e;refine .some (.inr ⟨by simp,rfl,x,r,?_⟩);rcases G with⟨l,rfl⟩|⟨rfl,s⟩
    ·exact .inl ⟨l,rfl⟩
    ·right;rw[je]at s ⊢;simp only[aW,fN,P]at s ⊢;simpa using s
  ·rintro⟨aj,k,n⟩ ⟨rfl,x,r,G⟩;simp only[dA,cN,bs,cP];rcases G with⟨l,g⟩|⟨g,s⟩
   ·replace g:Z 0 k=_:=g;rw[g];refine .some ⟨.inl ⟨rfl,?_⟩,x,r⟩;rw[List.map_eq_nil_iff];exact BT.1 (by omega)
   ·replace g:Z 0 k=_:=g;rw[g];exact .some ⟨.inr ⟨b.length,bB _,by rw[fN,P],s⟩,x,r⟩
theorem QD(l p:List Int)(a b:D)(h:J)(e:aI 1 aY l a)(f:aI 1 aY p b)(k:(l++p).length≤1000000000):R yb [a,b] h=some (.int .u32 (jr (l++p)),h):=by
 rw[Uu];obtain⟨i,d,j,c,m,n⟩:=HC [(l,a),(p,b)] (.sl 1 true [[a],[b]]) h (aI.mk 1 (λp:List Int × D=>[p.2]) [(l,a),(p,b)] true) (by
  intro o g;simp only[fc,oj,k9]at g;rcases g with rfl|rfl
  ·exact .inl e
  ·exact .inl f) (by simpa using k) (by simp)
 have c:aR d h.length cD 1 ((l++p).map aY) i:=by simpa using c
 simp only[Jc,bs,Sq a b (fx e) (fx f),j,a3q _ _ d (iq.own c) (by omega),cP];exact ff (by simp) (.int _ _) m n
theorem a3n(j p:List Int)(d b:D)(h:J)(k:aI 1 aY j d)(c:aI 1 aY p b)(K:j.length≤100000000)(L:p.length≤1000000000):∃d',R Di [d,b] h=some (.bD [d',.int .i64 (ju j p)],h)∧aI 1 aY (ki j p) d':=by
 rw[Up];have r:∀n:Int,scope h h (.bD [.aA,.int .i64 n])=some (.bD [.aA,.int .i64 n],h):=λn=>ff (by simp) (.bD _ λy g=>by simp at g;rcases g with rfl|rfl<;>constructor) (bB _) λ_ _=>rfl
 have w:=bJ (n:=(j.length:Int)+8) (by omega) (by omega);have x:=bJ (n:=(j.length:Int)+8+p.length) (by omega) (by omega);by_cases e:p.length=0
 ·have a:ju j p=3:=by simp[-a7N,ju,e]
  exact⟨.aA,by simp[-a7N,uo,fm c,e,a,r],.inl ⟨rfl,by simp[-a7N,ki,a]⟩⟩
 have q:¬p=[]:=by intro C;subst C;simp at e
 by_cases m:8388608<p.length
 ·have a:ju j p=3:=by simp[-a7N,ju,e,m]
  have i:(8388608:Int)<p.length:=by omega
  have A:¬(p.length:Int)=0:=by omega
  exact⟨.aA,by simp[-a7N,uo,fm c,q,i,a,r],.inl ⟨rfl,by simp[-a7N,ki,a]⟩⟩
 have i:¬(8388608:Int)<p.length:=by omega
 have A:¬(p.length:Int)=0:=by omega
 by_cases t:67108864<j.length+8+p.length
 ·have a:ju j p=16:=by simp[-a7N,ju,e,m,t]
  have o:(67108864:Int)<j.length+8+p.length:=by omega
  exact⟨.aA,by simp[-a7N,uo,fm c,fm k,q,i,w,x,o,a,r],.inl ⟨rfl,by simp[-a7N,ki,a]⟩⟩
 have o:¬(67108864:Int)<j.length+8+p.length:=by omega
 have a:ju j p=0:=by simp[-a7N,ju,e,m,t]
 have G:IntKind.wrap .u32 (p.length:Int)=p.length:=qV (by omega) (by omega);have F:=QD (fh p.length) p _ b h (aI.mk 1 aY (fh p.length) true) c (by simp[-a7N,mW];omega);obtain⟨d',f,z,s,H,I⟩:=HC [(j,d),(fh p.length,.sl 1 true ((fh p.length).map aY)),(fh (jr (fh p.length++p)),.sl 1 true ((fh (jr (fh p.length++p))).map aY)),(p,b)]
  (.sl 1 true [[d],[.sl 1 true ((fh p.length).map aY)],[.sl 1 true ((fh (jr (fh p.length++p))).map aY)],[b]]) h (aI.mk 1 (λp:List Int × D=>[p.2]) [(j,d),(fh p.length,.sl 1 true ((fh p.length).map aY)),(fh (jr (fh p.length++p)),.sl 1 true ((fh (jr (fh p.length++p))).map aY)),(p,b)] true)
  (by
   intro M u;simp only[fc,oj,k9]at u;rcases u with rfl|rfl|rfl|rfl
   ·exact .inl k
   ·exact .inl (aI.mk _ _ _ _)
   ·exact .inl (aI.mk _ _ _ _)
   ·exact .inl c) (by simp[-a7N,mW];omega) (by simp)
 have s:aR f h.length cD 1 ((ki j p).map aY) d':=by simpa[-a7N,ki,a]using s
 have v:=gS (n0:=h.length) (n:=2) s (bB _) (λl _=>nC _ f 2 l);have E:=Ss d (.sl 1 true ((fh p.length).map aY)) (.sl 1 true ((fh (jr (fh p.length++p))).map aY)) b (fx k) rfl rfl (fx c);have B:scope h f (.bD [d',.int .i64 0])=some (.bD [cS h.length f 3 d',.int .i64 0],h):=ff (by simp) (by
  refine .bD _ λy g=>?_
  simp at g;rcases g with rfl|rfl
  ·exact e7 v λl _=>pf _ l
  ·constructor) H I
 refine⟨cS h.length f 3 d',?_,v⟩;simp[-a7N,uo,fm c,fm k,q,i,w,x,o,a,G,HB,F,E,z,B]
theorem a3m(h:J):R Dh [] h=some (.bool true,h):=by
 rw[Uo];obtain⟨e,a,d⟩:=a3n [] [1] .aA (.sl 1 true [[.int .u8 1]]) h (aI.aA _ _) (aI.mk 1 aY [1] true) (by simp) (by simp);have b:ju [] [1]=0:=by decide
 have c:(ki [] [1]).length=9:=by simp[-a7N,ki,b,mW]
 rw[b]at a;simp[-a7N,I5,a,fm d,c]
theorem a3Q(l:List Int)(d:D)(h:J)(e:aI 1 aY l d)(bp:l.length≤100000000)(ar:∀z∈l,U8 z):∃x,R yo [d] h=some (.bD [x,.int .i64 (rd l).2],h)∧xh (rd l).1 x:=by
 suffices Wp (R yo [d] h) (λc=>c.2=h∧∃x,c.1 = .bD [x,.int .i64 (rd l).2]∧xh (rd l).1 x) by
  obtain⟨⟨x,bl⟩,r,rfl,d',rfl,a7⟩:=this;exact⟨d',r,a7⟩
 rw[U9];simp only[JZ,bs,aL];refine Wp.loop (λai ae g=>h.length≤g.length∧(∀j,j<h.length→g[j]?=h[j]?)∧∃x s t u v w y A,∃n:Nat,∃b:List (List Int × D),ae=[x,.int .i64 n,s,t,u,v,w,y,A]∧ai+n=l.length∧n≤l.length∧b.length≤n∧aR g h.length aP 1 (b.map λc=>[c.2]) x∧(∀c∈b,aI 1 aY c.1 c.2)∧(rd l).1=b.map (·.1)++(rd (l.drop n)).1∧(rd l).2=n+(rd (l.drop n)).2)
  (λH=>H.1 = .ext 0∧h.length≤H.2.2.length∧(∀j,j<h.length→H.2.2[j]?=h[j]?)∧∃x s t u v w y A,∃ak:Nat,∃b:List (List Int × D),H.2.1=[x,.int .i64 ak,s,t,u,v,w,y,A]∧aR H.2.2 h.length aP 1 (b.map λc=>[c.2]) x∧(∀c∈b,aI 1 aY c.1 c.2)∧(rd l).1=b.map (·.1)∧(rd l).2=ak) l.length
  ⟨bB _,λ_ _=>rfl,_,_,_,_,_,_,_,_,0,[],rfl,rfl,by omega,by simp,aR.aA _ _ _ _,by simp,by simp,by simp⟩ ?_ ?_
 ·rintro ai ae g ⟨k,p,x,s,t,u,v,w,y,A,n,b,rfl,bo,bq,bt,q,i,I,K⟩;have bi:IntKind.wrap .i64 ((l.length:Int) - n)=(l.length:Int) - n:=bJ (by omega) (by omega);simp only[J0,aW,bL,bs,aL,fm e,eB,bi,mO];have stop:Stop (l.drop n)→(rd l).1=b.map (·.1)∧(rd l).2=n:=λG=>by
   rw[qL G]at I K;exact⟨by simpa using I,by simpa using K⟩
  refine Wp.dF ?_ ?_
  ·intro E;have E:n+8≤l.length:=by
    have:(8:Int)≤(l.length:Int) - n:=by simpa using E
    omega
   have aw:IntKind.wrap .i64 ((n:Int)+4)=((n+4:Nat):Int):=by rw[bJ (by omega) (by omega)];omega
   have ax:IntKind.wrap .i64 ((n:Int)+8)=((n+8:Nat):Int):=by rw[bJ (by omega) (by omega)];omega
   obtain⟨al,am,aj⟩:=CB g e n (n+4) (by omega) (by omega);have bd:(l.take (n+4)).drop n=(l.drop n).take 4:=by rw[od];congr 1;omega
   rw[bd]at aj;have ao:((l.drop n).take 4).length=4:=by simp;omega
   have au:∀z∈(l.drop n).take 4,U8 z:=λz ah=>ar z (fM (fG ah))
   have af:=QM _ al g aj ao au;have an:=PJ ao au;unfold jL at an;generalize P:num ((l.drop n).take 4)=L at af an;have ay:IntKind.wrap .i64 L=L:=bJ (by omega) (by omega);obtain⟨a,ba⟩:∃a:Nat,L=a:=⟨L.toNat,by omega⟩
   subst ba;have az:IntKind.wrap .i64 ((l.length:Int) - ((n+8:Nat):Int))=(l.length:Int) - ((n+8:Nat):Int):=bJ (by omega) (by omega);have br:∀(B M a1:Bool) (X:D→Option bK),((W (.bool B) false (some (.bool M))).bind λbh=>(cV (.bool B) (.bool true) bh).bind X)=X (.bool (B||M)):=λB M a1 X=>by cases B<;>cases M<;>rfl
   by_cases bn:a<1∨8388608<a∨l.length - n - 8<a
   ·have G:Stop (l.drop n):=by
      unfold Stop;rw[P,gK];simp only[eQ];omega
    obtain⟨m,o⟩:=stop G;have bm:(decide ((a:Int)<1)||(decide ((a:Int)>8388608)||decide ((a:Int)>(l.length:Int) - ((n+8:Nat):Int))))=true:=by
     simp only[o5,xK];omega
    simp only[cO,aw,am,bs,af,MI,ay,ax,bS,dE];by_cases C:(a:Int)<1
    ·simp only[C,cM,bZ,reduceCtorEq,eP,aJ,bs,bW,aK,aN];exact .some (.inr ⟨by simp,rfl,k,p,_,_,_,_,_,_,_,_,n,b,rfl,q,i,m,o⟩)
    ·by_cases N:(a:Int)>8388608
     ·simp only[C,N,cM,bT,bZ,reduceCtorEq,eP,aJ,aN,bs,bW,aK,dE];exact .some (.inr ⟨by simp,rfl,k,p,_,_,_,_,_,_,_,_,n,b,rfl,q,i,m,o⟩)
     ·have ac:(a:Int)>(l.length:Int) - ((n+8:Nat):Int):=by omega
      simp only[C,N,ac,cM,bT,bZ,reduceCtorEq,eP,aU,aJ,aN,bs,bW,aK,dE,fm e,eB,az];exact .some (.inr ⟨by simp,rfl,k,p,_,_,_,_,_,_,_,_,n,b,rfl,q,i,m,o⟩)
   ·have C:¬(a:Int)<1:=by omega
    have N:¬(a:Int)>8388608:=by omega
    have ac:¬(a:Int)>(l.length:Int) - ((n+8:Nat):Int):=by omega
    have a0:IntKind.wrap .i64 (((n+8:Nat):Int)+(a:Int))=((n+8+a:Nat):Int):=by rw[bJ (by omega) (by omega)];omega
    obtain⟨ad,a6,T⟩:=CB g e (n+8) (n+8+a) (by omega) (by omega);obtain⟨a3,a4,av⟩:=CB g e (n+4) (n+8) (by omega) (by omega);have be:(l.take (n+8+a)).drop (n+8)=((l.drop n).drop 8).take a:=by rw[od,mF];congr 1;omega
    have bc:(l.take (n+8)).drop (n+4)=((l.drop n).drop 4).take 4:=by rw[od,mF];congr 1;omega
    rw[be]at T;rw[bc]at av;have a9:(((l.drop n).drop 4).take 4).length=4:=by simp;omega
    have bb:∀z∈((l.drop n).drop 4).take 4,U8 z:=λz ah=>ar z (fM (fM (fG ah)))
    have a5:=QM _ a3 g av a9 bb;have uV:=QD _ _ al ad g aj T (by simp;omega);simp only[cO,aw,am,bs,af,MI,ay,ax,bS,dE,C,N,ac,cM,bT,bZ,reduceCtorEq,eP,aU,aJ,aN,bW,aK,fm e,eB,az,a0,a6,a4,a5,uV,dH];by_cases Q:num (((l.drop n).drop 4).take 4)=jr ((l.drop n).take 4++((l.drop n).drop 8).take a)
    ·have a8:¬Stop (l.drop n):=by
       unfold Stop;rw[P,gK];simp only[eQ];rintro(r|r|r|r|r)
       ·omega
       ·omega
       ·omega
       ·omega
       ·exact r Q
     rw[wc a8,P]at I K;simp only[eQ,mF]at I K;simp only[Q,dU,eF,bT,aK,aU,aJ,bs,L9 ad (fx T)];refine Rr k q (hC _ _ _ _) (by simp;omega) λbu bk bg bf a2 _ _=>?_
     simp only[bs,cO,a0];refine .some (.inl ⟨rfl,ai - (8+a),by omega,fD k bf,λj ap=>(a2 j ap).trans (p j ap),_,_,_,_,_,_,_,_,n+8+a,b++[(((l.drop n).drop 8).take a,ad)],rfl,by omega,by omega,by simp;omega,?_,?_,?_,?_⟩)
     ·simpa using bg
     ·intro c F;rcases fp.1 F with F|F
      ·exact i c F
      ·rw[np.1 F];exact T
     ·rw[I,mF];simp only[gL,fP,kE,gF,B0,nr]
     ·rw[K];simp only[nr]
    ·have G:Stop (l.drop n):=by
       unfold Stop;rw[P];simp only[eQ];exact .inr (.inr (.inr (.inr Q)))
     obtain⟨m,o⟩:=stop G;simp only[Q,dU,fw,cM,aK,aN];exact .some (.inr ⟨by simp,rfl,k,p,_,_,_,_,_,_,_,_,n,b,rfl,q,i,m,o⟩)
  ·intro E;have E:¬n+8≤l.length:=by
    have:¬(8:Int)≤(l.length:Int) - n:=by simpa using E
    omega
   obtain⟨m,o⟩:=stop (.inl (by rw[gK];omega));exact .some (.inr ⟨by simp,rfl,k,p,_,_,_,_,_,_,_,_,n,b,rfl,q,i,m,o⟩)
 ·rintro⟨bj,ae,g⟩ ⟨rfl,k,p,x,s,t,u,v,w,y,A,ak,b,rfl,q,i,m,o⟩;subst o;simp only[dA,cN,bs,aW,bL,gp];have aq:=gS (f:=λc:List Int × D=>[c.2]) (n0:=h.length) (n:=2) q (bB _) (λaa ag d e=>by
   simp at e;subst e;exact iJ (n:=1) (i aa ag) λab _=>nC _ g 1 ab)
  rw[ff (d' :=.bD [cS h.length g 3 x,.int .i64 (rd l).2]) (by simp) (by
   refine .bD _ λd e=>?_
   simp at e;rcases e with rfl|rfl
   ·exact e7 aq λaa ag d e=>by simp at e;subst e;exact e7 (i aa ag) λab _=>pf _ ab
   ·constructor) k p]
  exact .some ⟨rfl,_,rfl,b,m.symm,aq,i⟩
theorem a6S(n:Int):IntKind.wrap .u32 n=n % 4294967296:=by
 unfold IntKind.wrap;simp[-a7N,IntKind.signed,IntKind.bits,IntKind.min,IntKind.max]
theorem Wy(a:Int)(k:Nat):a.fdiv (2 ^ k)=a / 2 ^ k:=sr _ (Int.le_of_lt (Int.pow_pos (by omega)))
theorem a6N(n:Int):fh (IntKind.wrap .u32 ((IntKind.wrap .u64 n).fdiv (2 ^ 32)))++fh (IntKind.wrap .u32 n)=pI n:=by
 unfold pI fh;simp only[gu,wC,a6S,a6T,Wy,ss,kp,Nat.reduceMul];simp only[Int.reducePow,Int.ediv_one];simp only[List.cons.injEq,and_true];refine⟨by omega,by omega,by omega,by omega,by omega,by omega,by omega,by omega⟩
theorem a2F{h:J}{l:List Int}{d:D}(a:iq h l d):d.one=true:=by
 rcases a with a|⟨b,rfl,_⟩
 ·exact fx a
 ·rfl
theorem QQ(l:List Int)(n:Int)(d:D)(h:J)(i:iq h l d)(t:l.length≤100000000):∃d' h',R vr [d,.int .i64 n] h=some (d',h')∧aR h' h.length cD 1 ((l++pI n).map aY) d'∧h.length≤h'.length∧∀c,c<h.length→h'[c]?=h[c]?:=by
 have q:min ((32:Int).toNat) IntKind.u64.bits=32:=by decide
 have e:=a6N n;generalize f:fh (IntKind.wrap .u32 ((IntKind.wrap .u64 n).fdiv (2 ^ 32)))=a at e;generalize g:fh (IntKind.wrap .u32 n)=b at e;have u:a.length=4:=by rw[← f];rfl
 have v:b.length=4:=by rw[← g];rfl
 obtain⟨d',h',m,k,p,r⟩:=HC [(l,d),(a,.sl 1 true (a.map aY)),(b,.sl 1 true (b.map aY))] (.sl 1 true [[d],[.sl 1 true (a.map aY)],[.sl 1 true (b.map aY)]]) h (aI.mk 1 (λs:List Int × D=>[s.2]) [(l,d),(a,.sl 1 true (a.map aY)),(b,.sl 1 true (b.map aY))] true)
  (by
   intro c j;simp only[fc,oj,k9]at j;rcases j with rfl|rfl|rfl
   ·exact i
   ·exact .inl (aI.mk _ _ _ _)
   ·exact .inl (aI.mk _ _ _ _)) (by simp;omega) (by simp)
 have o:(([(l,d),(a,.sl 1 true (a.map aY)),(b,.sl 1 true (b.map aY))]:List (List Int × D)).map (·.1)).flatten=l++pI n:=by rw[← e];simp[-a7N]
 rw[o]at k;refine⟨d',h',?_,k,p,r⟩;rw[VC];simp only[KD,bs,lx,ke,show ¬(32:Int)<0 by omega,aJ,q,S5,HB,f,g,MH,Sr d (.sl 1 true (a.map aY)) (.sl 1 true (b.map aY)) (a2F i) rfl rfl,m,cP]
theorem PI(b:List Int):∀(a:List Int),num (a++b)=num a*256 ^ b.length+num b
 |[]=>by simp[-a7N,num]
 | z::a=>by
  rw[ss,G9,PI b a,G9,bF,Int.pow_add,w6,Int.mul_assoc];omega
theorem HI(l:List Int)(d:D)(h:J)(i:aI 1 aY l d)(p:4≤l.length)(j:∀z∈l,U8 z):R oO [d] h=some (.int .u32 (num (l.take 4)),h):=by
 obtain⟨a,b,c,e,m,rfl⟩:∃a b c e m,l=a::b::c::e::m:=by
  match l,p with
  |a::b::c::e::m,_=>exact⟨a,b,c,e,m,rfl⟩
 obtain⟨g,x,f⟩:=rY i (k :=.i64) (n:=4) (by omega) (by simp;omega);have f:aI 1 aY [a,b,c,e] g:=f;have o:=QL a b c e g h f (j a (by simp)) (j b (by simp)) (j c (by simp)) (j e (by simp));rw[Nh]at o ⊢;have q:aO tab aP d (.int .i64 0)=some (.aE (aY a)):=by rw[kh i];rfl
 have r:aO tab aP d (.int .i64 1)=some (.aE (aY b)):=by rw[kh i];rfl
 have s:aO tab aP d (.int .i64 2)=some (.aE (aY c)):=by rw[kh i];rfl
 have i3:aO tab aP d (.int .i64 3)=some (.aE (aY e)):=by rw[kh i];rfl
 have t:aO tab aP g (.int .i64 0)=some (.aE (aY a)):=by rw[kh f];rfl
 have u:aO tab aP g (.int .i64 1)=some (.aE (aY b)):=by rw[kh f];rfl
 have v:aO tab aP g (.int .i64 2)=some (.aE (aY c)):=by rw[kh f];rfl
 have w:aO tab aP g (.int .i64 3)=some (.aE (aY e)):=by rw[kh f];rfl
 simp only[wQ,bs,t,u,v,w]at o;simp only[wQ,bs,q,r,s,i3];exact o
theorem QR(l:List Int)(d:D)(h:J)(j:aI 1 aY l d)(G:8≤l.length)(c:∀z∈l,U8 z):R tf [d] h=some (.int .i64 (IntKind.wrap .i64 (num (l.take 8))),h):=by
 rw[VD];have w:min ((32:Int).toNat) IntKind.u64.bits=32:=by decide
 have e:(2:Int) ^ 32=4294967296:=by decide
 obtain⟨i,s,f⟩:=rZ j (k :=.i64) (n:=4) (by omega) (by omega);have f:aI 1 aY (l.drop 4) i:=f;have y:=HI l d h j (by omega) c;have A:=HI (l.drop 4) i h f (by simp;omega) (λz a=>c z (fM a));have u:l.take 8=l.take 4++(l.drop 4).take 4:=by rw[← List.take_add]
 have v:(l.take 4).length=4:=by simp;omega
 have m:((l.drop 4).take 4).length=4:=by simp;omega
 obtain⟨o,p⟩:=nR 4 _ v λz a=>c z (fG a)
 obtain⟨q,r⟩:=nR 4 _ m λz a=>c z (fM (fG a))
 rw[v9]at p r;have t:num (l.take 8)=num (l.take 4)*4294967296+num ((l.drop 4).take 4):=by rw[u,PI,m,v9]
 generalize num (l.take 4)=x at *;generalize num ((l.drop 4).take 4)=g at *;have B:IntKind.wrap .u64 x=x:=iF (by omega) (by omega);have C:IntKind.wrap .u64 g=g:=iF (by omega) (by omega);have E:IntKind.wrap .u64 (x*2 ^ 32)=x*2 ^ 32:=by rw[e];exact iF (by omega) (by omega)
 have F:=zC (x:=x) (b:=g) 32 o q (by rw[e];omega) (by rw[e];omega);simp only[KE,bs,y,A,s,CE,B,C,uR,show ¬(32:Int)<0 by omega,aJ,w,E,uQ,F,nE,cP];rw[t,e]
structure RG (hs:Int) (i:It):Prop where
 fs:i.e.fs.length≤20
 ok:j0 i=0
 host:i.e.a0=hs
 r:(i.r==([42]:aD))=false
 bl:(fW i).length≤20000
 rd:RE i
theorem Ht{i j:It}(h:e5 i=e5 j):gj i=gj j∧j0 i=j0 j∧(∀b,RG b i→RG b j)∧lg i j=true:=by
 obtain⟨H,⟨c,e,g,l,x,v,n,p,K,M,t,r,z,B,D,F⟩⟩:=i;obtain⟨I,⟨d,f,k,m,y,w,o,q,L,N,u,s,A,C,E,G⟩⟩:=j;simp only[e5,RI.mk.injEq]at h;obtain⟨rfl,rfl,rfl,rfl,rfl,rfl,rfl,rfl,rfl,rfl,rfl⟩:=h;refine⟨rfl,rfl,λb a=>⟨a.fs,a.ok,a.host,a.r,a.bl,⟨a.rd.r,a.rd.a0,a.rd.a1,a.rd.a2,a.rd.a3,a.rd.nl,a.rd.ls,a.rd.a5,a.rd.a6,a.rd.t7,a.rd.t8,a.rd.nf,a.rd.fs⟩⟩,?_⟩;simp[-a7N,lg,kO]
def nw(g:J)(a:List It)(d:D):Prop:=aI 11 aT a d∨∃b,aR g b aH 11 (a.map aT) d
theorem nw.cL{g g':J}{c:List It}{d:D}(b:nw g c d)(f:∀a,a<g.length→g'[a]?=g[a]?):nw g' c d:=by
 rcases b with b|⟨i,e⟩
 ·exact .inl b
 ·exact .inr ⟨i,e.cL λa _ h=>f a (e.lt h).2⟩
theorem tK{g:J}{b:List It}{d:D}(a:nw g b d):bC tab dO d=some (.int .i64 b.length):=by
 rcases a with a|⟨e,c⟩
 ·exact pO a
 ·rw[a1v c,fN]
theorem zI{g:J}{a:List It}{d:D}(b:nw g a d)(n:Nat)(i:It)(hi:a[n]?=some i):∃c,aO tab dO d (.int .i64 n)=some c∧Y tab g aH c=some (.agg (aT i)):=by
 rcases b with b|⟨m,k⟩
 ·exact⟨.aE (aT i),by rw[qD b];simp[-a7N,hi],kL i g⟩
 ·have e:n<a.length:=(bR.1 hi).1;obtain⟨j,l,rfl,f⟩:=m5 k (i:=n) (by simpa using e);refine⟨.ptr j n 0,?_,?_⟩
  ·rw[a0q,bO (by simp;omega)];simp[-a7N]
  ·have h:(a.map aT)[n]?=some (aT i):=by rw[eE,hi];rfl
   rw[pM,dM f,h];rfl
def eJ(a b:Int)(d:D):List D:=[.int .i64 a,.int .i64 b,d]
theorem uN(a b:Int)(d:D):aB tab bP 0 (.aE (eJ a b d))=some (.aE (eJ a b d)):=id rfl
theorem Mf(b a:Int)(d:D):aB tab bP 1 (.aE (eJ b a d))=some (.aE [.int .i64 a,d]):=id rfl
theorem ra(a b:Int)(d:D):aB tab bP 2 (.aE (eJ a b d))=some (.aE [d]):=id rfl
theorem uO(a b:Int)(d:D)(g:J):Y tab g U (.aE (eJ a b d))=some (.int .i64 a):=id rfl
theorem sM(a b:Int)(d:D)(g:J):Y tab g bP (.aE (eJ a b d))=some (.agg (eJ a b d)):=id rfl
def iT(b c:Int)(a:List It):List Int:=(pI b++pI c++pN a.length)++(a.map gj).flatten
theorem L0{d e:Int}{a b:List It}(h:a.map e5=b.map e5):iT d e a=iT d e b:=by
 have f:a.length=b.length:=by have:=fR List.length h;simpa using this
 have i:∀(a b:List It),a.map e5=b.map e5→a.map gj=b.map gj:=by
  intro a
  induction a with
  | nil=>intro b c;cases b with
   |nil=>rfl
   |cons j b=>simp at c
  | cons k a g=>intro b c;cases b with
   |nil=>simp at c
   | cons j b =>
    simp only[fP,List.cons.injEq]at c ⊢;exact⟨(Ht c.1).1,g b c.2⟩
 unfold iT;rw[f,i a b h]
theorem a2C{h:J}{n0 b e z:Nat}{rows:List (List D)}{d:D}(i:aR h b e z rows d)(c:n0≤b):aR h n0 e z rows d:=by
 rcases i with a|⟨g,f,a⟩
 ·exact .inl a
 ·exact .inr ⟨g,fD c f,a⟩
theorem R3(b e:Int)(d:List It):∀z∈iT b e d,U8 z:=by
 intro z a;simp only[iT,fp,uD,g8]at a;rcases a with((h|h)|h)|⟨_,⟨c,_,rfl⟩,h⟩
 ·exact nT _ _ z h
 ·exact nT _ _ z h
 ·exact nT _ _ z h
 ·exact Nx c z h
theorem xu(a b:Int)(d:D):gM 3 (.agg (eJ a b d))=some (.aE (eJ a b d)):=nB 3 _ rfl
theorem lY{α:Type}(A B:List α)(x y:α)(n:Nat)(a:A.length=n):(A++x::B).set n y=A++y::B:=by
 subst a;rw[oo _ _ (bB _)];simp[-a7N]
theorem hW{α:Type}(A B:List α)(x:α)(n:Nat)(a:A.length=n):(A++x::B)[n]?=some x:=by
 subst a;simp[-a7N]
theorem mX{g:J}{o n:Nat}{rows:List (aD × aD)}{p:aD × aD}(a:g[o]?=some (.row bE 2 (rows.map aM)))(b:rows[n]?=some p):Y tab g bE (.ptr o n 0)=some (.agg (aM p)):=by
 have c:(rows.map aM)[n]?=some (aM p):=by rw[eE,b];rfl
 rw[ze,dM a,c];rfl
theorem Ip{g:J}{o N:Nat}{P X M Y Q:List (aD × aD)}(aq:N≤1000000000)(ab:(P++X++M++Y++Q).length=N)(x:X.length=Y.length)(ac:g[o]?=some (.row bE 2 ((P++X++M++Y++Q).map aM)))(cmp:D)(a b k:Int)(K:a=P.length)(L:b=(P.length+X.length+M.length:Nat))(u:k=X.length){A:Type}{f:D × J→Option A}{R1:A→Prop}
  (B:∀g',g'[o]?=some (.row bE 2 ((P++Y++M++X++Q).map aM))→bM o g g'→Wp (f (aF [],g')) R1):Wp ((R vi [.aZ 2 o 0 N,.int .i64 a,.int .i64 b,.int .i64 k,cmp] g).bind f) R1:=by
 subst K L u;rw[US];simp only[JD,bs,aL];simp only[bF]at ab;refine Wp.loop (λp l g'=>∃e,∃c:Nat,l=[.int .i64 c,e]∧p+c=X.length∧bM o g g'∧g'[o]?=some (.row bE 2 ((P++Y.take c++X.drop c++M++X.take c++Y.drop c++Q).map aM)))
  (λj=>j.1 = .ext 0∧(∃e d,j.2.1=[e,d])∧bM o g j.2.2∧j.2.2[o]?=some (.row bE 2 ((P++Y++M++X++Q).map aM))) X.length ⟨_,0,rfl,rfl,⟨rfl,λ_ _=>rfl⟩,by simpa using ac⟩ ?_ ?_
 ·rintro p l g' ⟨ar,c,rfl,u,sm,i⟩;simp only[JE,aW,bL,bs,aL,bS];refine Wp.dF ?_ ?_
  ·intro h;have h:c<X.length:=fe h;obtain⟨e,w⟩:=hq h;obtain⟨d,y⟩:∃d,Y[c]?=some d:=⟨_,dG (by omega)⟩
   have T:X.drop c=e::X.drop (c+1):=by
    obtain⟨n,m⟩:=bR.1 w;rw[hS n,m]
   have aa:Y.drop c=d::Y.drop (c+1):=by
    obtain⟨n,m⟩:=bR.1 y;rw[hS n,m]
   have ad:=eR c (by omega);have an:IntKind.wrap .i64 ((P.length:Int)+c)=((P.length+c:Nat):Int):=by
    rw[bJ (by omega) (by omega)];omega
   have ao:IntKind.wrap .i64 (((P.length+X.length+M.length:Nat):Int)+c)=((P.length+X.length+M.length+c:Nat):Int):=by
    rw[bJ (by omega) (by omega)];omega
   have C:P++Y.take c++X.drop c++M++X.take c++Y.drop c++Q=(P++Y.take c)++e::(X.drop (c+1)++M++X.take c++d::(Y.drop (c+1)++Q)):=by rw[T,aa];simp[-a7N]
   have E:(P++Y.take c)++e::(X.drop (c+1)++M++X.take c++d::(Y.drop (c+1)++Q))=(P++Y.take c++e::(X.drop (c+1)++M++X.take c))++d::(Y.drop (c+1)++Q):=by simp
   have F:(P++Y.take c)++d::(X.drop (c+1)++M++X.take c++d::(Y.drop (c+1)++Q))=(P++Y.take c++d::(X.drop (c+1)++M++X.take c))++d::(Y.drop (c+1)++Q):=by simp
   have G:(P++Y.take c++d::(X.drop (c+1)++M++X.take c))++e::(Y.drop (c+1)++Q)=P++Y.take (c+1)++X.drop (c+1)++M++X.take (c+1)++Y.drop (c+1)++Q:=by
    rw[g9,g9,w,y];simp[-a7N]
   have q:(P++Y.take c).length=P.length+c:=by simp;omega
   have r:∀z,(P++Y.take c++z::(X.drop (c+1)++M++X.take c)).length=P.length+X.length+M.length+c:=λz=>by simp;omega
   rw[C]at i;have ag:=mX i (hW _ _ e _ q);have ah:=mX i (by rw[E];exact hW _ _ d _ (r e));have ae:aO tab bQ (.aZ 2 o 0 N) (.int .i64 ((P.length+c:Nat):Int))=some (.ptr o (P.length+c) 0):=by rw[mm,bO (by omega),eQ,eS]
   have af:aO tab bQ (.aZ 2 o 0 N) (.int .i64 ((P.length+X.length+M.length+c:Nat):Int))=some (.ptr o (P.length+X.length+M.length+c) 0):=by rw[mm,bO (by omega),eQ,eS]
   simp only[cO,an,ao,ae,af,ag,ah,bs,aL];have aj:(((P++Y.take c)++e::(X.drop (c+1)++M++X.take c++d::(Y.drop (c+1)++Q))).map aM)[P.length+c]?=some (aM e):=by rw[eE,hW _ _ e _ q];rfl
   refine nY (off:=0) (row:=aM e) (v :=.agg (aM d)) i aj (by rfl) (by exact bB _) (by rfl) λH s al=>?_
   have s:H[o]?=some (.row bE 2 (((P++Y.take c++d::(X.drop (c+1)++M++X.take c))++d::(Y.drop (c+1)++Q)).map aM)):=by
    rw[s,show dZ (aM e) 0 (cX (.agg (aM d)))=aM d from rfl,← j8,lY _ _ e d _ q,F]
   try simp only[bs]
   have ak:(((P++Y.take c++d::(X.drop (c+1)++M++X.take c))++d::(Y.drop (c+1)++Q)).map aM)[P.length+X.length+M.length+c]?=some (aM d):=by rw[eE,hW _ _ d _ (r d)];rfl
   refine nY (off:=0) (row:=aM d) (v :=.agg (aM e)) s ak (by rfl) (by exact bB _) (by rfl) λI t am=>?_
   have t:I[o]?=some (.row bE 2 ((P++Y.take (c+1)++X.drop (c+1)++M++X.take (c+1)++Y.drop (c+1)++Q).map aM)):=by
    rw[t,show dZ (aM d) 0 (cX (.agg (aM e)))=aM e from rfl,← j8,lY _ _ d e _ (r d),G]
   simp only[bs,ad];exact .some (.inl ⟨rfl,p - 1,by omega,_,c+1,rfl,by omega,(sm.trans al).trans am,t⟩)
  ·intro h;have h:c=X.length:=by
    have:¬(c:Int)<X.length:=by simpa using h
    omega
   subst h;refine .some (.inr ⟨by simp,rfl,⟨_,_,rfl⟩,sm,?_⟩);rw[i,x,je,qb,← x,je,qb];simp[-a7N]
 ·rintro⟨ap,l,g'⟩ ⟨rfl,⟨e,d,rfl⟩,sm,ai⟩;simp only[dA,lz,bs];exact B g' ai sm
theorem a6s{g:J}{o N:Nat}{P U V Q:List (aD × aD)}(x:N≤1000000000)(F:(P++U++V++Q).length=N)(T:0<U.length)(aa:0<V.length)(ag:g[o]?=some (.row bE 2 ((P++U++V++Q).map aM)))(cmp:D)(a m b:Int)(ac:a=P.length)(G:m=(P.length+U.length:Nat))(ad:b=(P.length+U.length+V.length:Nat)){I:Type}{f:D × J→Option I}{R1:I→Prop}
  (K:∀g',g'[o]?=some (.row bE 2 ((P++V++U++Q).map aM))→bM o g g'→Wp (f (aF [],g')) R1):Wp ((R Dv [.aZ 2 o 0 N,.int .i64 a,.int .i64 m,.int .i64 b,cmp] g).bind f) R1:=by
 obtain⟨i,af⟩:∃i:Nat,i=P.length+U.length:=⟨_,rfl⟩
 rw[← af]at G;subst ac G ad;have ae:=F;simp only[bF]at ae;have ah:IntKind.wrap .i64 ((i:Int) - (P.length:Int))=(U.length:Int):=by rw[bJ (by omega) (by omega)];omega
 have ai:IntKind.wrap .i64 (((P.length+U.length+V.length:Nat):Int) - (i:Int))=(V.length:Int):=by rw[bJ (by omega) (by omega)];omega
 rw[UR];simp only[JB,bs,aL,eB,ah,ai];refine Wp.loop (λH v g'=>∃q r,∃e c d h:List (aD × aD),v=[.int .i64 c.length,.int .i64 d.length,q,r]∧H=c.length+d.length∧0<c.length∧0<d.length∧e.length+c.length=i∧e++d++c++h=P++V++U++Q∧(e++c++d++h).length=N∧bM o g g'∧g'[o]?=some (.row bE 2 ((e++c++d++h).map aM)))
  (λt=>t.1 = .ext 0∧∃q r,∃e c d h:List (aD × aD),t.2.1=[.int .i64 c.length,.int .i64 d.length,q,r]∧c.length=d.length∧e.length+c.length=i∧e++d++c++h=P++V++U++Q∧(e++c++d++h).length=N∧bM o g t.2.2∧t.2.2[o]?=some (.row bE 2 ((e++c++d++h).map aM)))
  (U.length+V.length) ⟨_,_,P,U,V,Q,rfl,rfl,T,aa,by omega,rfl,F,⟨rfl,λ_ _=>rfl⟩,ag⟩ ?_ ?_
 ·rintro H v g' ⟨q,r,e,c,d,h,rfl,ap,am,an,B,k,s,sm,l⟩;have z:=s;simp only[bF]at z;simp only[JC,aW,bL,bs,aL,dH];refine Wp.dF ?_ ?_
  ·intro j;have j:c.length≠d.length:=by
    have:¬(c.length:Int)=d.length:=by simpa using j
    omega
   simp only[dE,bs];have u:IntKind.wrap .i64 ((i:Int) - (c.length:Int))=(e.length:Int):=by rw[bJ (by omega) (by omega)];omega
   by_cases ao:d.length<c.length
   ·have y:decide ((c.length:Int)>(d.length:Int))=true:=fX (by omega);obtain⟨X,M,ab,C⟩:∃X M,c=X++M∧X.length=d.length:=⟨c.take d.length,c.drop d.length,(h6 _ _).symm,by simp;omega⟩
    subst ab;simp only[bF]at *;have A:IntKind.wrap .i64 (((X.length+M.length:Nat):Int) - (d.length:Int))=(M.length:Int):=by rw[bJ (by omega) (by omega)];omega
    simp only[y,aK,aN,eB,u,A,bs,aL];refine Ip (P:=e) (X:=X) (M:=M) (Y:=d) (Q:=h) x (by simp only[bF];omega) C (by simpa using l) cmp _ _ _ rfl (by omega) (by omega) λw n p=>?_
    simp only[bs,ga,aW,bL];rw[← C];refine .some (.inl ⟨rfl,M.length+X.length,by omega,_,_,e++d,M,X,h,rfl,rfl,by omega,by omega,by simp only[bF];omega,by rw[← k];simp[-a7N],by simp only[bF];omega,sm.trans p,by rw[n]⟩)
   ·have y:decide ((c.length:Int)>(d.length:Int))=false:=g2 (by omega);obtain⟨M,Y,L,E⟩:∃M Y,d=M++Y∧Y.length=c.length:=⟨d.take (d.length - c.length),d.drop (d.length - c.length),(h6 _ _).symm,by simp;omega⟩
    subst L;simp only[bF]at *;have aj:IntKind.wrap .i64 ((i:Int)+((M.length+Y.length:Nat):Int))=((i+(M.length+Y.length):Nat):Int):=by rw[bJ (by omega) (by omega)];omega
    have ak:IntKind.wrap .i64 (((i+(M.length+Y.length):Nat):Int) - (c.length:Int))=((e.length+c.length+M.length:Nat):Int):=by rw[bJ (by omega) (by omega)];omega
    have A:IntKind.wrap .i64 (((M.length+Y.length:Nat):Int) - (c.length:Int))=(M.length:Int):=by rw[bJ (by omega) (by omega)];omega
    simp only[y,aK,aU,aJ,eB,cO,u,aj,ak,A,bs,aL];refine Ip (P:=e) (X:=c) (M:=M) (Y:=Y) (Q:=h) x (by simp only[bF];omega) E.symm (by simpa using l) cmp _ _ _ rfl rfl rfl λw n p=>?_
    simp only[bs,ga,aW,bL];rw[← E];refine .some (.inl ⟨rfl,Y.length+M.length,by omega,_,_,e,Y,M,c++h,rfl,rfl,by omega,by omega,by omega,by rw[← k];simp[-a7N],by simp only[bF];omega,sm.trans p,by rw[n];simp[-a7N]⟩)
  ·intro j;have j:c.length=d.length:=by
    have:(c.length:Int)=d.length:=by simpa using j
    omega
   exact .some (.inr ⟨by simp,rfl,_,_,e,c,d,h,rfl,j,B,k,s,sm,l⟩)
 ·rintro⟨al,v,g'⟩ ⟨rfl,q,r,e,c,d,h,rfl,j,B,k,s,sm,l⟩;have z:=s;simp only[bF]at z;have u:IntKind.wrap .i64 ((i:Int) - (c.length:Int))=(e.length:Int):=by rw[bJ (by omega) (by omega)];omega
  simp only[dA,cN,aW,bL,bs,aL,eB,u];refine Ip (P:=e) (X:=c) (M:=[]) (Y:=d) (Q:=h) x (by simp only[bF,e6];omega) j (by simpa using l) cmp _ _ _ rfl (by simp only[e6];omega) rfl λw n p=>?_
  simp only[bs];refine K w ?_ (sm.trans p);rw[n,← k];simp[-a7N]
theorem a5a{g:J}{o:Nat}{A B:List (aD × aD)}{x y:aD × aD}{n:Nat}(a:A.length=n)(j:g[o]?=some (.row bE 2 ((A++x::y::B).map aM))){d:Type}{f:J→Option d}{Q:d→Prop}
  (e:∀g',g'[o]?=some (.row bE 2 ((A++y::x::B).map aM))→bM o g g'→Wp (f g') Q):Wp ((aS tab g bE (.ptr o n 0) (.agg (aM y))).bind λg1=>(aS tab g1 bE (.ptr o (n+1) 0) (.agg (aM x))).bind f) Q:=by
 have l:((A++x::y::B).map aM)[n]?=some (aM x):=by rw[eE,hW _ _ x _ a];rfl
 refine nY (off:=0) (row:=aM x) (v :=.agg (aM y)) j l (by rfl) (by exact bB _) (by rfl) λg1 b p=>?_
 have h:A++y::y::B=(A++[y])++y::B:=by simp
 have c:(A++[y]).length=n+1:=by simp[-a7N,a]
 have b:g1[o]?=some (.row bE 2 (((A++[y])++y::B).map aM)):=by
  rw[b,show dZ (aM x) 0 (cX (.agg (aM y)))=aM y from rfl,← j8,lY _ _ x y _ a,h]
 have m:(((A++[y])++y::B).map aM)[n+1]?=some (aM y):=by rw[eE,hW _ _ y _ c];rfl
 refine nY (off:=0) (row:=aM y) (v :=.agg (aM x)) b m (by rfl) (by exact bB _) (by rfl) λi k q=>?_
 refine e i ?_ (p.trans q);rw[k,show dZ (aM y) 0 (cX (.agg (aM x)))=aM x from rfl,← j8,lY _ _ y x _ c];simp[-a7N]
theorem a5b{g:J}{o:Nat}{A B:List (aD × aD)}{x y:aD × aD}{n:Nat}(a:A.length=n)(c:g[o]?=some (.row bE 2 ((A++x::y::B).map aM))){e:Type}{f:J→Option e}{Q:e→Prop}
  (h:∀g',g'[o]?=some (.row bE 2 ((A++y::x::B).map aM))→bM o g g'→Wp (f g') Q):Wp ((aS tab g bE (.ptr o (n+1) 0) (.agg (aM x))).bind λg1=>(aS tab g1 bE (.ptr o n 0) (.agg (aM y))).bind f) Q:=by
 have i:A++x::y::B=(A++[x])++y::B:=by simp
 have d:(A++[x]).length=n+1:=by simp[-a7N,a]
 rw[i]at c;have m:(((A++[x])++y::B).map aM)[n+1]?=some (aM y):=by rw[eE,hW _ _ y _ d];rfl
 refine nY (off:=0) (row:=aM y) (v :=.agg (aM x)) c m (by rfl) (by exact bB _) (by rfl) λg1 b p=>?_
 have b:g1[o]?=some (.row bE 2 ((A++x::x::B).map aM)):=by
  rw[b,show dZ (aM y) 0 (cX (.agg (aM x)))=aM x from rfl,← j8,lY _ _ y x _ d];simp[-a7N]
 have l:((A++x::x::B).map aM)[n]?=some (aM x):=by rw[eE,hW _ _ x _ a];rfl
 refine nY (off:=0) (row:=aM x) (v :=.agg (aM y)) b l (by rfl) (by exact bB _) (by rfl) λj k q=>?_
 refine h j ?_ (p.trans q);rw[k,show dZ (aM x) 0 (cX (.agg (aM y)))=aM y from rfl,← j8,lY _ _ x y _ a]
theorem oR{o N n:Nat}(h:n<N):aO tab bQ (.aZ 2 o 0 N) (.int .i64 (n:Int))=some (.ptr o n 0):=by rw[mm,bO (by omega),eQ,eS]
theorem wL4{g:J}{o N:Nat}{P A Q:List (aD × aD)}{x:aD × aD}(ac:N≤1000000000)(y:(P++x::A++Q).length=N)(B:g[o]?=some (.row bE 2 ((P++x::A++Q).map aM)))(p:bK)(C:Z 0 p.2.1 = .int .i64 ((P.length+A.length+1:Nat):Int))(a:Int)(u:a=P.length)(X:D){q:Type}{f:bK→Option q}{R1:q→Prop}
  (r:∀g' h i,g'[o]?=some (.row bE 2 ((P++A++x::Q).map aM))→bM o g g'→Wp (f (.ext 2,[h,i],g')) R1):Wp ((cA (A7 (.aZ 2 o 0 N) p) [.int .i64 a,X] g).bind f) R1:=by
 subst u;simp only[bF,g7]at y;refine Wp.loop (λl k g'=>∃d,∃b:Nat,k=[.int .i64 ((P.length+b:Nat):Int),d]∧l+b=A.length∧bM o g g'∧g'[o]?=some (.row bE 2 ((P++A.take b++x::(A.drop b++Q)).map aM)))
  (λj=>j.1 = .ext 2∧(∃h i,j.2.1=[h,i])∧bM o g j.2.2∧j.2.2[o]?=some (.row bE 2 ((P++A++x::Q).map aM))) A.length ⟨_,0,rfl,rfl,⟨rfl,λ_ _=>rfl⟩,by simpa using B⟩ ?_ ?_
 ·rintro l k g' ⟨ae,b,rfl,ad,sm,e⟩;have R:IntKind.wrap .i64 (((P.length+A.length+1:Nat):Int) - 1)=((P.length+A.length:Nat):Int):=by rw[bJ (by omega) (by omega)];omega
  simp only[A7,aW,bL,bs,aL,C,eB,R,bS];refine Wp.dF ?_ ?_
  ·intro c;have c:b<A.length:=by
    have:((P.length+b:Nat):Int)<((P.length+A.length:Nat):Int):=by simpa using c
    omega
   obtain⟨d,m⟩:=hq c;have v:A.drop b=d::A.drop (b+1):=by
    obtain⟨z,w⟩:=bR.1 m;rw[hS z,w]
   have E:IntKind.wrap .i64 (((P.length+b:Nat):Int)+1)=((P.length+b+1:Nat):Int):=by
    rw[bJ (by omega) (by omega)];omega
   have s:P++A.take b++x::(A.drop b++Q)=(P++A.take b)++x::d::(A.drop (b+1)++Q):=by rw[v];simp[-a7N]
   have t:(P++A.take b++[x])++d::(A.drop (b+1)++Q)=(P++A.take b)++x::d::(A.drop (b+1)++Q):=by simp
   have n:(P++A.take b).length=P.length+b:=by simp;omega
   have K:(P++A.take b++[x]).length=P.length+b+1:=by simp;omega
   rw[s]at e;have H:=mX e (hW _ _ x _ n);have I:=mX e (by rw[← t];exact hW _ _ d _ K);have F:=@oR o N (P.length+b) (by omega);have G:=@oR o N (P.length+b+1) (by omega);simp only[cO,E,F,G,H,I,bs,aL];refine a5a n e λab M T=>?_
   try simp only[bs]
   refine .some (.inl ⟨rfl,l - 1,by omega,_,b+1,rfl,by omega,sm.trans T,?_⟩);rw[M,g9,m];simp[-a7N]
  ·intro c;have c:b=A.length:=by
    have:¬((P.length+b:Nat):Int)<((P.length+A.length:Nat):Int):=by simpa using c
    omega
   subst c;rw[je,qb]at e;exact .some (.inr ⟨by simp,rfl,⟨_,_,rfl⟩,sm,by simpa using e⟩)
 ·rintro⟨aa,k,g'⟩ ⟨rfl,⟨h,i,rfl⟩,sm,L⟩;exact r g' h i L sm
theorem wL2{g:J}{o N:Nat}{P A Q:List (aD × aD)}{x:aD × aD}(ab:N≤1000000000)(z:(P++A++x::Q).length=N)(E:g[o]?=some (.row bE 2 ((P++A++x::Q).map aM)))(r:bK)(F:Z 0 r.2.1 = .int .i64 (P.length:Int))(m:Int)(B:m=(P.length+A.length:Nat))(T:D){s:Type}{f:bK→Option s}{R1:s→Prop}
  (t:∀g' e h,g'[o]?=some (.row bE 2 ((P++x::A++Q).map aM))→bM o g g'→Wp (f (.ext 6,[e,h],g')) R1):Wp ((cA (A5 (.aZ 2 o 0 N) r) [.int .i64 m,T] g).bind f) R1:=by
 subst B;simp only[bF,g7]at z;refine Wp.loop (λb k g'=>∃c,k=[.int .i64 ((P.length+b:Nat):Int),c]∧b≤A.length∧bM o g g'∧g'[o]?=some (.row bE 2 ((P++A.take b++x::(A.drop b++Q)).map aM)))
  (λj=>j.1 = .ext 6∧(∃e h,j.2.1=[e,h])∧bM o g j.2.2∧j.2.2[o]?=some (.row bE 2 ((P++x::A++Q).map aM))) A.length ⟨_,rfl,bB _,⟨rfl,λ_ _=>rfl⟩,by simpa using E⟩ ?_ ?_
 ·rintro b k g' ⟨ad,rfl,ac,sm,i⟩;simp only[A5,aW,bL,bs,aL,F,dE];refine Wp.dF ?_ ?_
  ·intro d;have d:0<b:=by
    have:((P.length+b:Nat):Int)>(P.length:Int):=by simpa using d
    omega
   obtain⟨a,rfl⟩:∃a,b=a+1:=⟨b - 1,by omega⟩
   obtain⟨c,n⟩:∃c,A[a]?=some c:=⟨_,dG (by omega)⟩
   have w:A.drop a=c::A.drop (a+1):=by
    obtain⟨C,y⟩:=bR.1 n;rw[hS C,y]
   have l:IntKind.wrap .i64 (((P.length+(a+1):Nat):Int) - 1)=((P.length+a:Nat):Int):=by
    rw[bJ (by omega) (by omega)];omega
   have u:P++A.take (a+1)++x::(A.drop (a+1)++Q)=(P++A.take a)++c::x::(A.drop (a+1)++Q):=by rw[g9,n];simp[-a7N]
   have v:(P++A.take a++[c])++x::(A.drop (a+1)++Q)=(P++A.take a)++c::x::(A.drop (a+1)++Q):=by simp
   have q:(P++A.take a).length=P.length+a:=by simp;omega
   have K:(P++A.take a++[c]).length=P.length+a+1:=by simp;omega
   rw[u]at i;have H:=mX i (hW _ _ c _ q);have I:=mX i (by rw[← v];exact hW _ _ x _ K);have G:=@oR o N (P.length+a) (by omega);have p:=@oR o N (P.length+(a+1)) (by omega);rw[show P.length+(a+1)=P.length+a+1 from rfl]at l p ⊢;simp only[eB,l,G,p,H,I,bs,aL];refine a5b q i λaa M R=>?_
   try simp only[bs]
   refine .some (.inl ⟨rfl,a,by omega,_,rfl,by omega,sm.trans R,?_⟩);rw[M,w];simp[-a7N]
  ·intro d;have d:b=0:=by
    have:¬((P.length+b:Nat):Int)>(P.length:Int):=by simpa using d
    omega
   subst d;exact .some (.inr ⟨by simp,rfl,⟨_,_,rfl⟩,sm,by simpa using i⟩)
 ·rintro⟨X,k,g'⟩ ⟨rfl,⟨e,h,rfl⟩,sm,L⟩;exact t g' e h L sm
theorem qG{i j:Nat}(hi:i≤1000000000)(c:j≤1000000000):IntKind.wrap .i64 ((i:Int)+j)=((i+j:Nat):Int)∧IntKind.wrap .u64 ((i+j:Nat):Int)=((i+j:Nat):Int)∧(((i+j:Nat):Int)).fdiv (2 ^ min ((1:Int).toNat) IntKind.u64.bits)=(((i+j) / 2:Nat):Int)∧IntKind.wrap .i64 (((i+j) / 2:Nat):Int)=(((i+j) / 2:Nat):Int):=by
 have a:min ((1:Int).toNat) IntKind.u64.bits=1:=by decide
 have b:(2:Int) ^ 1=2:=by decide
 refine⟨?_,iF (by omega) (by omega),?_,bJ (by omega) (by omega)⟩
 ·rw[bJ (by omega) (by omega)];omega
 ·rw[a,b,sr _ (by omega)];omega
theorem wL3{g:J}{o N:Nat}{i:List (aD × aD)}(ax:N≤1000000000)(a0:i.length=N)(z:g[o]?=some (.row bE 2 (i.map aM)))(cmp:D)(a m b:Nat)(h:Nat→Prop)(T:a<N)(aa:m≤b)(ay:b≤N)(x:aD × aD)(ac:i[a]?=some x)
  (X:∀t y,m≤t→t<b→i[t]?=some y→∃v,hj R cmp [.agg (aM y),.agg (aM x)] g=some (.int .i64 v,g)∧(v<0↔h t)) (aq ar au:D) {I:Type} {f:bK→Option I} {Q:I→Prop}
  (K:∀(c:Nat) j k l,m≤c→c≤b→(c=m∨h (c - 1))→(c=b∨¬h c)→Wp (f (.ext 0,[.int .i64 (c:Int),.int .i64 (c:Int),j,k,l],g)) Q):Wp ((cA (A6 (.aZ 2 o 0 N) (.int .i64 (a:Int)) cmp) [.int .i64 (m:Int),.int .i64 (b:Int),aq,ar,au] g).bind f) Q:=by
 refine Wp.loop (λC q r=>r=g∧∃F G H,∃e d:Nat,q=[.int .i64 (e:Int),.int .i64 (d:Int),F,G,H]∧C=d - e∧m≤e∧e≤d∧d≤b∧(e=m∨h (e - 1))∧(d=b∨¬h d))
  (λs=>s.1 = .ext 0∧s.2.2=g∧∃j k l,∃c:Nat,s.2.1=[.int .i64 (c:Int),.int .i64 (c:Int),j,k,l]∧m≤c∧c≤b∧(c=m∨h (c - 1))∧(c=b∨¬h c)) (b - m) ⟨rfl,_,_,_,m,b,rfl,rfl,bB _,aa,bB _,.inl rfl,.inl rfl⟩ ?_ ?_
 ·rintro C q r ⟨rfl,F,G,H,e,d,rfl,az,M,aw,P,u,w⟩;simp only[A6,aW,bL,bs,aL,bS];refine Wp.dF ?_ ?_
  ·intro n;have n:e<d:=by
    have:(e:Int)<(d:Int):=by simpa using n
    omega
   obtain⟨al,am,an,ao⟩:=@qG e d (by omega) (by omega);obtain⟨y,B⟩:∃y,i[(e+d) / 2]?=some y:=⟨_,dG (by omega)⟩
   obtain⟨v,ab,A⟩:=X ((e+d) / 2) y (by omega) (by omega) B;have ad:=@oR o N ((e+d) / 2) (by omega);have ae:=@oR o N a T;have aj:=mX z B;have ak:=mX z ac;have ap:IntKind.wrap .i64 ((((e+d) / 2:Nat):Int)+1)=(((e+d) / 2+1:Nat):Int):=by rw[bJ (by omega) (by omega)];omega
   simp only[cO,al,nF,am,ke,show ¬(1:Int)<0 by omega,aJ,an,oI,ao,ad,ae,aj,ak,ab,bs,bS,aL];by_cases p:v<0
   ·have:=A.1 p;simp only[p,cM,aK,aN,ap,bs,ga,aW,bL];exact .some (.inl ⟨rfl,d - ((e+d) / 2+1),by omega,rfl,_,_,_,_,_,rfl,rfl,by omega,by omega,by omega,.inr (by simpa using this),w⟩)
   ·have:=λL=>p (A.2 L)
    simp only[p,bT,aK,aU,aJ,bs,ga,aW,bL];exact .some (.inl ⟨rfl,(e+d) / 2 - e,by omega,rfl,_,_,_,_,_,rfl,rfl,by omega,by omega,by omega,u,.inr this⟩)
  ·intro n;have n:¬e<d:=by
    have:¬(e:Int)<(d:Int):=by simpa using n
    omega
   obtain rfl:d=e:=by omega
   exact .some (.inr ⟨by simp,rfl,rfl,_,_,_,d,rfl,M,P,u,w⟩)
 ·rintro⟨av,q,r⟩ ⟨rfl,E,j,k,l,c,rfl,af,ag,ah,ai⟩;simp only at E;subst E;exact K c j k l af ag ah ai
theorem wL1{g:J}{o N:Nat}{i:List (aD × aD)}(ax:N≤1000000000)(a0:i.length=N)(z:g[o]?=some (.row bE 2 (i.map aM)))(cmp:D)(m a b:Nat)(h:Nat→Prop)(X:m<N)(aa:a≤b)(ay:b≤N)(x:aD × aD)(ac:i[m]?=some x)
  (T:∀t y,a≤t→t<b→i[t]?=some y→∃v,hj R cmp [.agg (aM x),.agg (aM y)] g=some (.int .i64 v,g)∧(¬v<0↔h t)) (aq ar au:D) {I:Type} {f:bK→Option I} {Q:I→Prop}
  (K:∀(c:Nat) j k l,a≤c→c≤b→(c=a∨h (c - 1))→(c=b∨¬h c)→Wp (f (.ext 4,[.int .i64 (c:Int),.int .i64 (c:Int),j,k,l],g)) Q):Wp ((cA (A4 (.aZ 2 o 0 N) (.int .i64 (m:Int)) cmp) [.int .i64 (a:Int),.int .i64 (b:Int),aq,ar,au] g).bind f) Q:=by
 refine Wp.loop (λC q r=>r=g∧∃F G H,∃e d:Nat,q=[.int .i64 (e:Int),.int .i64 (d:Int),F,G,H]∧C=d - e∧a≤e∧e≤d∧d≤b∧(e=a∨h (e - 1))∧(d=b∨¬h d))
  (λs=>s.1 = .ext 4∧s.2.2=g∧∃j k l,∃c:Nat,s.2.1=[.int .i64 (c:Int),.int .i64 (c:Int),j,k,l]∧a≤c∧c≤b∧(c=a∨h (c - 1))∧(c=b∨¬h c)) (b - a) ⟨rfl,_,_,_,a,b,rfl,rfl,bB _,aa,bB _,.inl rfl,.inl rfl⟩ ?_ ?_
 ·rintro C q r ⟨rfl,F,G,H,e,d,rfl,az,M,aw,P,u,w⟩;simp only[A4,aW,bL,bs,aL,bS];refine Wp.dF ?_ ?_
  ·intro n;have n:e<d:=by
    have:(e:Int)<(d:Int):=by simpa using n
    omega
   obtain⟨al,am,an,ao⟩:=@qG e d (by omega) (by omega);obtain⟨y,B⟩:∃y,i[(e+d) / 2]?=some y:=⟨_,dG (by omega)⟩
   obtain⟨v,ab,A⟩:=T ((e+d) / 2) y (by omega) (by omega) B;have ad:=@oR o N ((e+d) / 2) (by omega);have ae:=@oR o N m X;have aj:=mX z B;have ak:=mX z ac;have ap:IntKind.wrap .i64 ((((e+d) / 2:Nat):Int)+1)=(((e+d) / 2+1:Nat):Int):=by rw[bJ (by omega) (by omega)];omega
   simp only[cO,al,nF,am,ke,show ¬(1:Int)<0 by omega,aJ,an,oI,ao,ad,ae,aj,ak,ab,bs,bS,gB,aL];by_cases p:v<0
   ·have:=λL=>(A.2 L) p
    simp only[p,cM,fy,aK,aU,aJ,bs,ga,aW,bL];exact .some (.inl ⟨rfl,(e+d) / 2 - e,by omega,rfl,_,_,_,_,_,rfl,rfl,by omega,by omega,by omega,u,.inr this⟩)
   ·have:=A.1 p;simp only[p,bT,gb,aK,aN,ap,bs,ga,aW,bL];exact .some (.inl ⟨rfl,d - ((e+d) / 2+1),by omega,rfl,_,_,_,_,_,rfl,rfl,by omega,by omega,by omega,.inr (by simpa using this),w⟩)
  ·intro n;have n:¬e<d:=by
    have:¬(e:Int)<(d:Int):=by simpa using n
    omega
   obtain rfl:d=e:=by omega
   exact .some (.inr ⟨by simp,rfl,rfl,_,_,_,d,rfl,M,P,u,w⟩)
 ·rintro⟨av,q,r⟩ ⟨rfl,E,j,k,l,c,rfl,af,ag,ah,ai⟩;simp only at E;subst E;exact K c j k l af ag ah ai
theorem wL0{g:J}{o N:Nat}{i:List (aD × aD)}(ax:N≤1000000000)(a1:i.length=N)(x:g[o]?=some (.row bE 2 (i.map aM)))(cmp:D)(p a b:Nat)(h:Nat→Prop)(aa:a≤b)(az:b≤p+1)(ay:b≤N)(a2:p<a+N)
  (X:∀t y z,a≤t→t<b→i[t]?=some y→i[p - t]?=some z→∃v,hj R cmp [.agg (aM z),.agg (aM y)] g=some (.int .i64 v,g)∧(¬v<0↔h t)) (aq ar au:D) {K:Type} {f:bK→Option K} {Q:K→Prop}
  (L:∀(c:Nat) j k l,a≤c→c≤b→(c=a∨h (c - 1))→(c=b∨¬h c)→Wp (f (.ext 8,[.int .i64 (c:Int),.int .i64 (c:Int),j,k,l],g)) Q):Wp ((cA (wO (.aZ 2 o 0 N) cmp (.int .i64 (p:Int))) [.int .i64 (a:Int),.int .i64 (b:Int),aq,ar,au] g).bind f) Q:=by
 refine Wp.loop (λE q r=>r=g∧∃G H I,∃e d:Nat,q=[.int .i64 (e:Int),.int .i64 (d:Int),G,H,I]∧E=d - e∧a≤e∧e≤d∧d≤b∧(e=a∨h (e - 1))∧(d=b∨¬h d))
  (λs=>s.1 = .ext 8∧s.2.2=g∧∃j k l,∃c:Nat,s.2.1=[.int .i64 (c:Int),.int .i64 (c:Int),j,k,l]∧a≤c∧c≤b∧(c=a∨h (c - 1))∧(c=b∨¬h c)) (b - a) ⟨rfl,_,_,_,a,b,rfl,rfl,bB _,aa,bB _,.inl rfl,.inl rfl⟩ ?_ ?_
 ·rintro E q r ⟨rfl,G,H,I,e,d,rfl,a0,P,aw,T,u,w⟩;simp only[wO,aW,bL,bs,aL,bS];refine Wp.dF ?_ ?_
  ·intro m;have m:e<d:=by
    have:(e:Int)<(d:Int):=by simpa using m
    omega
   obtain⟨ak,al,am,an⟩:=@qG e d (by omega) (by omega);obtain⟨y,B⟩:∃y,i[(e+d) / 2]?=some y:=⟨_,dG (by omega)⟩
   obtain⟨z,C⟩:∃z,i[p - (e+d) / 2]?=some z:=⟨_,dG (by omega)⟩
   obtain⟨v,ab,A⟩:=X ((e+d) / 2) y z (by omega) (by omega) B C;have ac:=@oR o N ((e+d) / 2) (by omega);have ad:=@oR o N (p - (e+d) / 2) (by omega);have ai:=mX x B;have aj:=mX x C;have ap:IntKind.wrap .i64 ((p:Int) - (((e+d) / 2:Nat):Int))=((p - (e+d) / 2:Nat):Int):=by rw[bJ (by omega) (by omega)];omega
   have ao:IntKind.wrap .i64 ((((e+d) / 2:Nat):Int)+1)=(((e+d) / 2+1:Nat):Int):=by rw[bJ (by omega) (by omega)];omega
   simp only[cO,ak,nF,al,ke,show ¬(1:Int)<0 by omega,aJ,am,oI,an,eB,ap,ac,ad,ai,aj,ab,bs,bS,gB,aL];by_cases n:v<0
   ·have:=λM=>(A.2 M) n
    simp only[n,cM,fy,aK,aU,aJ,bs,ga,aW,bL];exact .some (.inl ⟨rfl,(e+d) / 2 - e,by omega,rfl,_,_,_,_,_,rfl,rfl,by omega,by omega,by omega,u,.inr this⟩)
   ·have:=A.1 n;simp only[n,bT,gb,aK,aN,ao,bs,ga,aW,bL];exact .some (.inl ⟨rfl,d - ((e+d) / 2+1),by omega,rfl,_,_,_,_,_,rfl,rfl,by omega,by omega,by omega,.inr (by simpa using this),w⟩)
  ·intro m;have m:¬e<d:=by
    have:¬(e:Int)<(d:Int):=by simpa using m
    omega
   obtain rfl:d=e:=by omega
   exact .some (.inr ⟨by simp,rfl,rfl,_,_,_,d,rfl,P,T,u,w⟩)
 ·rintro⟨av,q,r⟩ ⟨rfl,F,j,k,l,c,rfl,ae,af,ag,ah⟩;simp only at F;subst F;exact L c j k l ae af ag ah
def p6(cmp:D)(c:aD × aD→aD × aD→Int):Prop:=∀b d a,hj R cmp [.agg (aM b),.agg (aM d)] a=some (.int .i64 (c b d),a)
theorem a6p{g:J}{o N:Nat}{P B Q:List (aD × aD)}{x:aD × aD}(t:N≤1000000000)(p:(P++x::B++Q).length=N)(u:g[o]?=some (.row bE 2 ((P++x::B++Q).map aM)))(cmp:D)(c:aD × aD→aD × aD→Int)(K:p6 cmp c)(a m b:Int)(H:a=(P.length:Nat))(X:m=(P.length+1:Nat))(I:b=(P.length+1+B.length:Nat)){z:Type}{f:D × J→Option z}{R1:z→Prop}
  (C:∀g' h i,B=h++i→(h=[]∨∃y r,h=r++[y]∧c y x<0)→(i=[]∨∃y r,i=y::r∧¬c y x<0)→g'[o]?=some (.row bE 2 ((P++(h++x::i)++Q).map aM))→bM o g g'→Wp (f (aF [],g')) R1):Wp ((R qv [.aZ 2 o 0 N,.int .i64 a,.int .i64 m,.int .i64 b,cmp] g).bind f) R1:=by
 subst H X I;have T:=p;simp only[bF,g7]at T;have ae:IntKind.wrap .i64 (((P.length+1:Nat):Int) - (P.length:Int))=1:=by rw[bJ (by omega) (by omega)];omega
 have F:(P++x::B++Q)[P.length]?=some x:=by
  rw[show P++x::B++Q=P++x::(B++Q) by simp];exact hW _ _ x _ rfl
 have s:∀d,(P++x::B++Q)[P.length+1+d]?=(B++Q)[d]?:=λd=>by
  rw[show P++x::B++Q=(P++[x])++(B++Q) by simp,gO (by simp)];simp[-a7N]
 rw[CR];simp only[wN,bs,aL,eB,ae,e8,cM,aK,aN];refine wL3 t p u cmp P.length (P.length+1) (P.length+1+B.length) (λd=>∃y,(P++x::B++Q)[d]?=some y∧c y x<0) (by omega) (by omega) (by omega) x F (λd y _ _ e=>⟨c y x,K y x g,λn=>⟨y,e,n⟩,λ⟨ao,j,G⟩=>by rw[e]at j;injection j with j;rw[j];exact G⟩) _ _ _ λv af ag ah am an w l=>?_
 obtain⟨d,rfl⟩:∃d,v=P.length+1+d:=⟨v - (P.length+1),by omega⟩
 have al:d≤B.length:=by omega
 simp only[dA,cN,bs,aW,bL,aL];have q:P++x::B++Q=P++x::B.take d++(B.drop d++Q):=by
  simp only[gF,ss];rw[← gF (B.take d),h6]
 have ab:(B.take d).length=d:=by simp;omega
 refine wL4 (P:=P) (A:=B.take d) (Q:=B.drop d++Q) (x:=x) t (by rw[← q];exact p) (by rw[← q];exact u) _ (by rw[ab];show D.int _ _=_;congr 1;omega) _ rfl _ λE ai aj ac ad=>?_
 simp only[dA,cN,bs];refine C E (B.take d) (B.drop d) (h6 _ _).symm ?_ ?_ (by rw[ac];simp[-a7N]) ad
 ·rcases ot d with rfl|ak
  ·exact .inl (by simp)
  ·right;rcases w with w|⟨y,e,k⟩
   ·omega
   ·rw[show P.length+1+d - 1=P.length+1+(d - 1) by omega,s,fg (by omega)]at e;refine⟨y,B.take (d - 1),?_,k⟩
    conv=>lhs;rw[show d=(d - 1)+1 by omega,g9,e]
    simp[-a7N]
 ·rcases gG d B.length with k|L
  ·right;obtain⟨y,e⟩:=hq k;rcases l with l|l
   ·omega
   ·refine⟨y,B.drop (d+1),?_,λn=>l ⟨y,by rw[s,fg k];exact e,n⟩⟩;obtain⟨aa,M⟩:=bR.1 e;rw[hS aa,M]
  ·exact .inl (mG L)
theorem a6q{g:J}{o N:Nat}{P A Q:List (aD × aD)}{x:aD × aD}(t:N≤1000000000)(p:(P++A++x::Q).length=N)(am:A.length≠1)(u:g[o]?=some (.row bE 2 ((P++A++x::Q).map aM)))(cmp:D)(c:aD × aD→aD × aD→Int)(K:p6 cmp c)(a m b:Int)(H:a=(P.length:Nat))(ab:m=(P.length+A.length:Nat))(I:b=(P.length+A.length+1:Nat)){B:Type}{f:D × J→Option B}{R1:B→Prop}
  (C:∀g' h i,A=h++i→(h=[]∨∃y r,h=r++[y]∧¬c x y<0)→(i=[]∨∃y r,i=y::r∧c x y<0)→g'[o]?=some (.row bE 2 ((P++(h++x::i)++Q).map aM))→bM o g g'→Wp (f (aF [],g')) R1):Wp ((R qv [.aZ 2 o 0 N,.int .i64 a,.int .i64 m,.int .i64 b,cmp] g).bind f) R1:=by
 subst H ab I;have aa:=p;simp only[bF,g7]at aa;have af:IntKind.wrap .i64 (((P.length+A.length:Nat):Int) - (P.length:Int))=A.length:=by rw[bJ (by omega) (by omega)];omega
 have ag:IntKind.wrap .i64 (((P.length+A.length+1:Nat):Int) - ((P.length+A.length:Nat):Int))=1:=by rw[bJ (by omega) (by omega)];omega
 have L:decide ((A.length:Int)=1)=false:=g2 (by omega);have F:(P++A++x::Q)[P.length+A.length]?=some x:=hW _ _ x _ (by simp);have s:∀d,d<A.length→(P++A++x::Q)[P.length+d]?=A[d]?:=λd ao=>by
  rw[gF,gO (by simp),fg (by omega)];simp[-a7N]
 rw[CR];simp only[wN,ur,bs,aL,eB,af,ag,e8,L,cM,aK,aU,aJ,aN];refine wL1 t p u cmp (P.length+A.length) P.length (P.length+A.length) (λd=>∃y,(P++A++x::Q)[d]?=some y∧¬c x y<0) (by omega) (by omega) (by omega) x F (λd y _ _ e=>⟨c x y,K x y g,λn=>⟨y,e,n⟩,λ⟨au,j,G⟩=>by rw[e]at j;injection j with j;rw[j];exact G⟩) _ _ _ λw ah ai aj aq ar z l=>?_
 obtain⟨d,rfl⟩:∃d,w=P.length+d:=⟨w - P.length,by omega⟩
 have ap:d≤A.length:=by omega
 simp only[dA,cN,bs,aW,bL,aL];have v:(A.take d).length=d:=by simp;omega
 have q:P++A++x::Q=(P++A.take d)++A.drop d++x::Q:=by
  rw[gF P (A.take d),h6]
 have M:(A.drop d).length=A.length - d:=gK;refine wL2 (P:=P++A.take d) (A:=A.drop d) (Q:=Q) (x:=x) t (by rw[← q];exact p) (by rw[← q];exact u) _ (by rw[bF,v];rfl) _ (by rw[bF,v,M];congr 1;omega) _ λE ak al ad ae=>?_
 simp only[dA,cN,bs];refine C E (A.take d) (A.drop d) (h6 _ _).symm ?_ ?_ (by rw[ad];simp[-a7N]) ae
 ·rcases ot d with rfl|an
  ·exact .inl (by simp)
  ·right;rcases z with z|⟨y,e,k⟩
   ·omega
   ·rw[show P.length+d - 1=P.length+(d - 1) by omega,s _ (by omega)]at e;refine⟨y,A.take (d - 1),?_,k⟩
    conv=>lhs;rw[show d=(d - 1)+1 by omega,g9,e]
    simp[-a7N]
 ·rcases gG d A.length with k|T
  ·right;obtain⟨y,e⟩:=hq k;rcases l with l|l
   ·omega
   ·refine⟨y,A.drop (d+1),?_,n4 λn=>l ⟨y,by rw[s _ k];exact e,n⟩⟩;obtain⟨ac,X⟩:=bR.1 e;rw[hS ac,X]
  ·exact .inl (mG T)
theorem yT{α:Type}(P A B:List α)(t:Nat)(a:P.length≤t)(b:t<P.length+A.length):(P++A++B)[t]?=A[t - P.length]?:=by
 rw[gF,gO a,fg (by omega)]
theorem zc{α:Type}{A:List α}{t:Nat}{y:α}(b:0<t)(a:A[t - 1]?=some y):∃r,A.take t=r++[y]:=by
 refine⟨A.take (t - 1),?_⟩
 conv=>lhs;rw[show t=(t - 1)+1 by omega,g9,a]
 simp[-a7N]
theorem xY{α:Type}{A:List α}{t:Nat}{y:α}(c:A[t]?=some y):∃r,A.drop t=y::r:=by
 obtain⟨b,a⟩:=bR.1 c;exact⟨A.drop (t+1),by rw[hS b,a]⟩
theorem sG(b:Bool)(a c:Int)(t:Nat){h:Type}(f:D→Option h):((W (.bool b) true (some (.int .i64 a))).bind λd=>(W (.bool b) true (some (.int .i64 c))).bind λe=>(W (.bool b) true (O tab .lss t d e)).bind λg=>(cV (.bool b) g (.bool false)).bind f)=f (.bool (b&&decide (a<c))):=by
 cases b
 ·simp only[bZ,reduceCtorEq,aJ,bs,bW,aU,l7]
 ·simp only[bZ,aN,bs,bW,bS,wG]
def LG(c:aD × aD→aD × aD→Int)(S dQ:aD × aD→aD × aD→Prop)(cmp:D)(o N n:Nat):Prop:=
 ∀(g:J) (d a b f:List (aD × aD)) (h j i:Int),a.length+b.length≤n→(d++a++b++f).length=N→0<a.length→0<b.length→a.Pairwise S→b.Pairwise S→(∀l∈a,∀m∈b,dQ l m) →
  g[o]?=some (.row bE 2 ((d++a++b++f).map aM))→h=(d.length:Nat)→j=(d.length+a.length:Nat)→i=(d.length+a.length+b.length:Nat) →
  Wp (R qv [.aZ 2 o 0 N,.int .i64 h,.int .i64 j,.int .i64 i,cmp] g) λk=>∃e:List (aD × aD),e.Perm (a++b)∧e.Pairwise S∧k.2[o]?=some (.row bE 2 ((d++e++f).map aM))∧bM o g k.2
theorem S3{g:J}{o N:Nat}{P A B Q:List (aD × aD)}(ad:N≤1000000000)(aa:(P++A++B++Q).length=N)(ap:0<A.length)(aq:0<B.length)(aj:g[o]?=some (.row bE 2 ((P++A++B++Q).map aM)))(cmp:D)(c:aD × aD→aD × aD→Int)(ae:p6 cmp c)
  (a v u:Nat) (av:a=(P.length+(P.length+A.length+B.length)) / 2) (al:(P.length+A.length>a∧v+B.length=a∧u=a)∨(P.length+A.length≤a∧v=P.length∧u=P.length+A.length))
  (p:Int) (ak:p=(a+(P.length+A.length) - 1:Nat)) (am an ao:D) {ab:Type} {f:bK→Option ab} {R1:ab→Prop}
  (ac:∀(k:Nat) C E F j w l z,A=j++w→B=l++z→k=P.length+j.length→a=P.length+j.length+l.length →
   (j=[]∨z=[]∨∃x y r s,j=r++[x]∧z=y::s∧¬c y x<0)→(w=[]∨l=[]∨∃x y r s,l=r++[y]∧w=x::s∧c y x<0) →
   Wp (f (.ext 8,[.int .i64 (k:Int),.int .i64 (k:Int),C,E,F],g)) R1):Wp ((cA (wO (.aZ 2 o 0 N) cmp (.int .i64 p)) [.int .i64 (v:Int),.int .i64 (u:Int),am,an,ao] g).bind f) R1:=by
 subst ak;have ah:=aa;simp only[bF]at ah;have T:∀t,P.length≤t→t<P.length+A.length→(P++A++B++Q)[t]?=A[t - P.length]?:=λt H d=>by
  rw[gF (P++A)];exact yT P A _ t H d
 have X:∀t,P.length+A.length≤t→t<P.length+A.length+B.length→(P++A++B++Q)[t]?=B[t - (P.length+A.length)]?:=λt H d=>by
  have:=yT (P++A) B Q t (by simpa using H) (by simpa using d);simpa using this
 obtain⟨R,m⟩:∃R:Nat→Prop,∀t,R t↔∃y b,(P++A++B++Q)[t]?=some y∧(P++A++B++Q)[a+(P.length+A.length) - 1 - t]?=some b∧¬c b y<0:=⟨_,λt=>Iff.rfl⟩
 refine wL0 ad aa aj cmp (a+(P.length+A.length) - 1) v u R (by omega) (by omega) (by omega) (by omega)
  (λt y b _ _ e h=>⟨c b y,ae b y g,λG=>(m t).2 ⟨y,b,e,h,G⟩,λaf=>by
   obtain⟨a0,a1,d,i,I⟩:=(m t).1 af;rw[e]at d;rw[h]at i;injection d with d;injection i with i;rw[d,i];exact I⟩) _ _ _ λk C E F aw ax n q=>?_
 have ar:k - P.length≤A.length:=by omega
 have au:a - k≤B.length:=by omega
 have ay:(A.take (k - P.length)).length=k - P.length:=by simp;omega
 have az:(B.take (a - k)).length=a - k:=by simp;omega
 refine ac k C E F (A.take (k - P.length)) (A.drop (k - P.length)) (B.take (a - k)) (B.drop (a - k)) (h6 _ _).symm (h6 _ _).symm (by omega) (by omega) ?_ ?_
 ·rcases n with n|n
  ·rcases al with⟨d,i,I⟩|⟨d,i,I⟩
   ·right;left;exact mG (by omega)
   ·left;apply hM;omega
  ·by_cases ag:k=P.length
   ·left;apply hM;omega
   ·right;by_cases K:B.length≤a - k
    ·left;exact mG K
    ·right;obtain⟨y,b,e,h,ai⟩:=(m _).1 n;rw[T _ (by omega) (by omega)]at e;rw[X _ (by omega) (by omega)]at h;obtain⟨r,L⟩:=zc (A:=A) (t:=k - P.length) (y:=y) (by omega) (by rw[← e];congr 1;omega);obtain⟨s,M⟩:=xY (A:=B) (t:=a - k) (y:=b) (by rw[← h];congr 1;omega);exact⟨y,b,r,s,L,M,ai⟩
 ·by_cases ag:k=P.length+A.length
  ·left;exact mG (by omega)
  ·right;by_cases K:a - k=0
   ·left;rw[K];rfl
   ·right;rcases q with q|q
    ·omega
    ·obtain⟨y,e⟩:∃y,A[k - P.length]?=some y:=⟨_,dG (by omega)⟩
     obtain⟨b,h⟩:∃b,B[a - k - 1]?=some b:=⟨_,dG (by omega)⟩
     obtain⟨r,L⟩:=zc (A:=B) (t:=a - k) (y:=b) (by omega) h;obtain⟨s,M⟩:=xY (A:=A) (t:=k - P.length) (y:=y) e;refine⟨y,b,r,s,L,M,n4 λG=>q ((m _).2 ⟨y,b,?_,?_,G⟩)⟩
     ·rw[T _ (by omega) (by omega)];exact e
     ·rw[X _ (by omega) (by omega),← h];congr 1;omega
theorem a6r{c:aD × aD→aD × aD→Int}{S dQ:aD × aD→aD × aD→Prop}(ba:me c S dQ){cmp:D}(a7:p6 cmp c){o N n:Nat}(al:N≤1000000000)(au:LG c S dQ cmp o N n)
  {g:J} {P A B Q:List (aD × aD)} {a m b:Int} (bt:A.length+B.length≤n+1) (ao:(P++A++B++Q).length=N) (a4:0<A.length) (a5:0<B.length) (w:A.Pairwise S) (z:B.Pairwise S) (ab:∀x∈A,∀y∈B,dQ x y)
  (R:g[o]?=some (.row bE 2 ((P++A++B++Q).map aM))) (a6:a=(P.length:Nat)) (ap:m=(P.length+A.length:Nat)) (am:b=(P.length+A.length+B.length:Nat)) :
  Wp (uu (.aZ 2 o 0 N) (.int .i64 a) (.int .i64 m) (.int .i64 b) cmp g) λp=>∃C:List (aD × aD),C.Perm (A++B)∧C.Pairwise S∧p.2[o]?=some (.row bE 2 ((P++C++Q).map aM))∧bM o g p.2:=by
 have a8:=ao;simp only[bF]at a8;obtain⟨d,aq⟩:∃d:Nat,d=(P.length+(P.length+A.length+B.length)) / 2:=⟨_,rfl⟩
 obtain⟨e,ar⟩:∃e:Nat,e=P.length+A.length:=⟨_,rfl⟩
 obtain⟨t,an⟩:∃t:Nat,t=P.length+A.length+B.length:=⟨_,rfl⟩
 rw[← ar]at ap;rw[← an]at am;subst a6 ap am;obtain⟨bg,bh,aw,ax⟩:=@qG P.length t (by omega) (by omega);rw[← show d=(P.length+t) / 2 by rw[aq,an]]at aw ax;have bk:IntKind.wrap .i64 ((d:Int)+(e:Int))=((d+e:Nat):Int):=by rw[bJ (by omega) (by omega)];omega
 have bl:IntKind.wrap .i64 (((d+e:Nat):Int) - 1)=((d+(P.length+A.length) - 1:Nat):Int):=by rw[bJ (by omega) (by omega)];omega
 simp only[uu,bs,aL,cO,bg,nF,bh,ke,show ¬(1:Int)<0 by omega,aJ,aw,oI,ax,bk,dE];refine Wp.join (P:=λh=>h.1 = .aQ∧h.2.2=g∧∃L K:Nat,h.2.1=[.int .i64 (L:Int),.int .i64 (K:Int)]∧((P.length+A.length>d∧L+B.length=d∧K=d)∨(P.length+A.length≤d∧L=P.length∧K=P.length+A.length))) ?_ ?_ ?_
 ·intro H;have H:d<e:=by
   have:(e:Int)>(d:Int):=by simpa using H
   omega
  have bm:IntKind.wrap .i64 (((d+e:Nat):Int) - (t:Int))=((d - B.length:Nat):Int):=by rw[bJ (by omega) (by omega)];omega
  simp only[eB,bm,bs];exact .some ⟨rfl,rfl,d - B.length,d,rfl,.inl ⟨by omega,by omega,rfl⟩⟩
 ·intro H;have H:¬d<e:=by
   have:¬(e:Int)>(d:Int):=by simpa using H
   omega
  exact .some ⟨rfl,rfl,P.length,e,rfl,.inr ⟨by omega,rfl,ar⟩⟩
 rintro⟨X,T,aa⟩ ⟨rfl,v,L,K,rfl,a9⟩;simp only at v;subst v;simp only[cN,eB,bl,bs,aW,bL,aL];refine S3 al ao a4 a5 R cmp c a7 d L K aq a9 _ rfl _ _ _ λu bo bp bq r j f q az a0 br em a2 a3=>?_
 subst az a0;simp only[bF]at *;have bn:IntKind.wrap .i64 (((d+e:Nat):Int) - (u:Int))=((e+f.length:Nat):Int):=by rw[bJ (by omega) (by omega)];omega
 simp only[dA,cN,bs,aW,bL,aL,eB,bn,bS,sG];rw[jd]at w z;refine Wp.bind (P:=λh=>h.1 = .aQ∧h.2.2[o]?=some (.row bE 2 ((P++r++f++j++q++Q).map aM))∧bM o aa h.2.2) ?_ ?_
 ·by_cases F:0<j.length
  ·have i:decide ((u:Int)<(e:Int))=true:=fX (by omega);by_cases G:0<f.length
   ·have k:decide ((e:Int)<((e+f.length:Nat):Int))=true:=fX (by omega);simp only[i,k,q0,aK,aN];refine a6s (P:=P++r) (U:=j) (V:=f) (Q:=q++Q) al (by simp only[bF];omega) F G (by rw[R];simp[-a7N]) cmp _ _ _ (by simp only[bF];omega) (by simp only[bF];omega) (by simp only[bF];omega) λaj I M=>?_
    exact .some ⟨rfl,by simp only[I];simp[-a7N],M⟩
   ·have l:f=[]:=hM (by omega);subst l;have k:decide ((e:Int)<((e+([]:List (aD × aD)).length:Nat):Int))=false:=g2 (by simp);simp only[i,k,qZ,aK,aU,aJ];exact .some ⟨rfl,by simp only[R];simp[-a7N],.refl _ _⟩
  ·have l:j=[]:=hM (by omega);subst l;have i:decide ((u:Int)<(e:Int))=false:=g2 (by simp only[e6]at *;omega);simp only[i,l7,aK,aU,aJ];exact .some ⟨rfl,by simp only[R];simp[-a7N],.refl _ _⟩
 rintro⟨X,T,aj⟩ ⟨rfl,I,M⟩;simp only[cN,bs,aL,bS,sG];refine Wp.bind (P:=λh=>h.1 = .aQ∧∃s:List (aD × aD),s.Perm (r++f)∧s.Pairwise S∧h.2.2[o]?=some (.row bE 2 ((P++s++(j++q++Q)).map aM))∧bM o aa h.2.2) ?_ ?_
 ·by_cases F:0<r.length
  ·have i:decide (((P.length:Nat):Int)<(u:Int))=true:=fX (by omega);by_cases G:0<f.length
   ·have k:decide ((u:Int)<(d:Int))=true:=fX (by omega);simp only[i,k,q0,aK,aN];refine Wp.bind (au aj P r f (j++q++Q) _ _ _ (by omega) (by simp only[bF];omega) F G w.1 z.1 (λx ac y ad=>ab x (by simp[-a7N,ac]) y (by simp[-a7N,ad])) (by rw[I];simp[-a7N]) rfl (by omega) (by omega)) ?_;rintro⟨ay,ak⟩ ⟨C,af,v,ag,ah⟩;exact .some ⟨rfl,C,af,v,ag,M.trans ah⟩
   ·have l:f=[]:=hM (by omega);subst l;have k:decide ((u:Int)<(d:Int))=false:=g2 (by simp only[e6]at *;omega);simp only[i,k,qZ,aK,aU,aJ];exact .some ⟨rfl,r,by simp,w.1,by simp only[I];simp[-a7N],M⟩
  ·have l:r=[]:=hM (by omega);subst l;have i:decide (((P.length:Nat):Int)<(u:Int))=false:=g2 (by simp only[e6]at *;omega);simp only[i,l7,aK,aU,aJ];exact .some ⟨rfl,f,by simp,z.1,by simp only[I];simp[-a7N],M⟩
 rintro⟨X,T,ak⟩ ⟨rfl,s,av,bc,ae,ai⟩;have bu:s.length=r.length+f.length:=by rw[av.length_eq];simp[-a7N]
 simp only[cN,bs,aL,bS,sG];refine Wp.bind (P:=λh=>h.1 = .aQ∧∃E:List (aD × aD),E.Perm (j++q)∧E.Pairwise S∧h.2.2[o]?=some (.row bE 2 ((P++(s++E)++Q).map aM))∧bM o aa h.2.2) ?_ ?_
 ·by_cases F:0<j.length
  ·have i:decide ((d:Int)<((e+f.length:Nat):Int))=true:=fX (by omega);by_cases G:0<q.length
   ·have k:decide (((e+f.length:Nat):Int)<(t:Int))=true:=fX (by omega);simp only[i,k,q0,aK,aN];refine Wp.bind (au ak (P++s) j q Q _ _ _ (by omega) (by simp only[bF];omega) F G w.2.1 z.2.1 (λx ac y ad=>ab x (by simp[-a7N,ac]) y (by simp[-a7N,ad])) (by rw[ae];simp[-a7N]) (by simp only[bF];omega) (by simp only[bF];omega) (by simp only[bF];omega)) ?_;rintro⟨ay,a1⟩ ⟨C,af,v,ag,ah⟩;exact .some ⟨rfl,C,af,v,by rw[ag];simp[-a7N],ai.trans ah⟩
   ·have l:q=[]:=hM (by omega);subst l;have k:decide (((e+f.length:Nat):Int)<(t:Int))=false:=g2 (by simp only[e6]at *;omega);simp only[i,k,qZ,aK,aU,aJ];exact .some ⟨rfl,j,by simp,w.2.1,by simp only[ae];simp[-a7N],ai⟩
  ·have l:j=[]:=hM (by omega);subst l;have i:decide ((d:Int)<((e+f.length:Nat):Int))=false:=g2 (by simp only[e6]at *;omega);simp only[i,l7,aK,aU,aJ];exact .some ⟨rfl,q,by simp,z.2.1,by simp only[ae];simp[-a7N],ai⟩
 rintro⟨X,T,a1⟩ ⟨rfl,E,bd,be,bb,bf⟩;simp only[lz,bs];obtain⟨bi,bj⟩:=On ba (jd.2 w) (jd.2 z) ab a2 a3 av bc bd be;exact .some ⟨s++E,bi,bj,bb,bf⟩
theorem Io {c:aD × aD→aD × aD→Int} {S dQ:aD × aD→aD × aD→Prop} (i:me c S dQ) {cmp:D} (w:p6 cmp c) {o N:Nat} (t:N≤1000000000):∀n,LG c S dQ cmp o N n
 |0=>λg P A B Q a m b X _ s=>by omega
 | n + 1 => λg P A B Q a m b X y aj ak ad j z F u l v=>by
  have an:=Io i w (o:=o) t n;have al:=y;simp only[bF]at al;by_cases T:A.length=1
  ·obtain ⟨x,rfl⟩:=BS.1 T;have := a6p (g:=g) (o:=o) (N:=N) (P:=P) (B:=B) (Q:=Q) (x:=x) t (by simpa using y) (by simpa using F) cmp c w a m b u (by rw[l];rfl) (by rw[v];rfl) (f:=some) (R1:=λq=>∃h:List (aD × aD),h.Perm ([x]++B)∧h.Pairwise S∧q.2[o]?=some (.row bE 2 ((P++h++Q).map aM))∧bM o g q.2)
    (λai R ae k s E H K =>.some ⟨R++x::ae,by rw[k];exact BX,by
     subst k;rw[jd]at j ⊢;refine⟨j.1,im.2 ⟨?_,j.2.1⟩,?_⟩
     ·rcases E with rfl|⟨e,I,rfl,p⟩
      ·intro r d;cases d
      ·have ab:=i.ge x e (z x (by simp) e (by simp)) p;intro r d;rcases fc.1 d with rfl|d
       ·exact ab
       ·exact i.tr _ _ _ ab ((im.1 j.2.1).1 r d)
     ·have am:∀C∈R,S C x:=by
        rcases s with rfl|⟨e,I,rfl,p⟩
        ·intro r d;cases d
        ·have ac:=i.lt x e (z x (by simp) e (by simp)) p;intro r d;rcases fp.1 d with d|d
         ·exact i.tr _ _ _ ((jd.1 j.1).2.2 r d e (by simp)) ac
         ·simp at d;subst d;exact ac
      intro C aa ao G;rcases fc.1 G with rfl|G
      ·exact am C aa
      ·exact j.2.2 C aa ao G,by rw[H],K⟩)
   rwa [show ∀x:Option (D × J),x.bind some=x from λx=>by cases x<;>rfl]at this
  ·by_cases af:B.length=1
   ·obtain⟨x,rfl⟩:=BS.1 af;have:=a6q (g:=g) (o:=o) (N:=N) (P:=P) (A:=A) (Q:=Q) (x:=x) t (by simpa using y) T (by simpa using F) cmp c w a m b u (by rw[l]) (by rw[v];rfl) (f:=some) (R1:=λq=>∃h:List (aD × aD),h.Perm (A++[x])∧h.Pairwise S∧q.2[o]?=some (.row bE 2 ((P++h++Q).map aM))∧bM o g q.2)
     (λai L M k s E H K =>.some ⟨L++x::M,by rw[k];exact List.perm_middle.trans (by simpa using(BW (l₁:=[x]) (l₂:=L++M))),Hi i (by rw[← k];exact ad) (λe p=>z e (by rw[k];exact p) x (by simp)) E s,by rw[H],K⟩)
    rwa [show ∀x:Option (D × J),x.bind some=x from λx=>by cases x<;>rfl]at this
   ·have I:=a6r i w t an X y aj ak ad j z F u l v;rw[CR];have ap:IntKind.wrap .i64 (m - a)=(A.length:Int):=by rw[l,u,bJ (by omega) (by omega)];omega
    have aq:IntKind.wrap .i64 (b - m)=(B.length:Int):=by rw[l,v,bJ (by omega) (by omega)];omega
    have ag:decide ((A.length:Int)=1)=false:=g2 (by omega);have ah:decide ((B.length:Int)=1)=false:=g2 (by omega);simp only[wN,ur,bs,eB,ap,aq,e8,ag,ah,aK,aU,aJ];exact I
theorem fB.len{α:Type}{S dQ:α→α→Prop}{k:Nat}{l:List α}(h:fB S dQ k l)(a:l.length<k):l.Pairwise S:=h.all (by omega)
theorem PY{α:Type}{dQ:α→α→Prop}{A B:List α}(h:(A++B).Pairwise dQ):A.Pairwise dQ∧B.Pairwise dQ∧∀x∈A,∀y∈B,dQ x y:=jd.1 h
theorem OA{c:aD × aD→aD × aD→Int}{S dQ:aD × aD→aD × aD→Prop}(y:me c S dQ){cmp:D}(u:p6 cmp c){o N:Nat}(r:N≤1000000000){g:J}{P A Q:List (aD × aD)}(f:(P++A++Q).length=N)(e:A.Pairwise dQ)
  (w:g[o]?=some (.row bE 2 ((P++A++Q).map aM))) (a b:Int) (s:a=P.length) (t:b=(P.length+A.length:Nat)) :
  Wp (R rH [.aZ 2 o 0 N,.int .i64 a,.int .i64 b,cmp] g) λp=>∃C:List (aD × aD),C.Perm A∧C.Pairwise S∧p.2[o]?=some (.row bE 2 ((P++C++Q).map aM))∧bM o g p.2:=by
 subst s t;have v:=f;simp only[bF]at v;obtain⟨k,q,l,i,j⟩:=a3G c cmp u o N P.length (P.length+A.length) r (by omega) (by omega) _ f g w;refine⟨(k,q),l,?_⟩;cases A with
 | nil =>
  refine⟨[],by simp,List.Pairwise.nil,?_,j⟩;rw[i];simp[-a7N,jO]
 | cons d A =>
  obtain⟨C,z,B,E⟩:=y1 y P Q A [d] (by simp) (λH h F x=>by simp at h;subst h;exact(im.1 e).1 F x) (im.1 e).2;refine⟨C,B,E,?_,j⟩;rw[i];have m:P.length+(d::A).length - (P.length+1)=A.length:=by simp;omega
  rw[m];have n:P++d::A++Q=P++[d]++A++Q:=by simp
  rw[n];exact fR (λG:List (aD × aD)=>some (Ob.row bE 2 (G.map aM))) z
theorem a6o{c:aD × aD→aD × aD→Int}{S dQ:aD × aD→aD × aD→Prop}(ag:me c S dQ){cmp:D}(ad:p6 cmp c){o N:Nat}(ac:N≤1000000000){g:J}{l:List (aD × aD)}(I:l.length=N)(bi:l.Pairwise dQ)
  (be:g[o]?=some (.row bE 2 (l.map aM))):Wp (R yg [.aZ 2 o 0 N,.int .i64 N,cmp] g) λp=>∃C:List (aD × aD),C.Perm l∧C.Pairwise S∧p.2[o]?=some (.row bE 2 (C.map aM))∧bM o g p.2:=by
 rw[Nd];simp only[AY,bs,aL];refine Wp.loop (λs h n=>∃m,∃X a:List (aD × aD),h=[.int .i64 (X.length:Nat),.int .i64 ((X.length+20:Nat):Int),m]∧s=a.length∧(X++a).Perm l∧a.Pairwise dQ∧jI S dQ 20 X a∧n[o]?=some (.row bE 2 ((X++a).map aM))∧bM o g n)
  (λe=>e.1 = .ext 0∧∃m,∃X a:List (aD × aD),e.2.1=[.int .i64 (X.length:Nat),.int .i64 ((X.length+20:Nat):Int),m]∧a.length<20∧(X++a).Perm l∧a.Pairwise dQ∧jI S dQ 20 X a∧e.2.2[o]?=some (.row bE 2 ((X++a).map aM))∧bM o g e.2.2)
  l.length ⟨_,[],l,rfl,rfl,by simp,bi,jI.nil,by simpa using be,.refl _ _⟩ ?_ ?_
 ·rintro s h n ⟨m,X,a,rfl,rfl,j,G,H,a0,sm⟩;have r:X.length+a.length=N:=by rw[← I,← j.length_eq];simp[-a7N]
  simp only[AZ,aW,bL,bs,aL,iw];refine Wp.dF ?_ ?_
  ·intro i;have i:20≤a.length:=by
    have:((X.length+20:Nat):Int)≤(N:Int):=by simpa using i
    omega
   obtain⟨A,y,rfl,bd⟩:∃A y,a=A++y∧A.length=20:=⟨a.take 20,a.drop 20,(h6 _ _).symm,by simp;omega⟩
   obtain⟨bq,br,bt⟩:=PY G;simp only[bF]at r i;refine Wp.bind (OA ag ad ac (P:=X) (A:=A) (Q:=y) (by simp only[bF];omega) bq (by rw[a0];simp[-a7N]) _ _ rfl (by omega)) ?_;rintro⟨am,aq⟩ ⟨C,f,t,k,u⟩;have L:C.length=20:=by rw[f.length_eq,bd]
   have aj:IntKind.wrap .i64 (((X.length+20:Nat):Int)+20)=((X.length+20+20:Nat):Int):=by rw[bJ (by omega) (by omega)];omega
   simp only[cO,aj,bs];have ao:(X++C).length=X.length+20:=by simp[-a7N,L]
   refine .some (.inl ⟨rfl,y.length,by simp only[bF];omega,_,X++C,y,by rw[ao],rfl,?_,br,H.step f L t bt,k,sm.trans u⟩);refine List.Perm.trans ?_ j;rw[gF];exact(f.append_right y).append_left X
  ·intro i;have i:¬20≤a.length:=by
    have:¬((X.length+20:Nat):Int)≤(N:Int):=by simpa using i
    omega
   exact .some (.inr ⟨by simp,rfl,_,X,a,rfl,by omega,j,G,H,a0,sm⟩)
 rintro⟨ap,h,bv⟩ ⟨rfl,m,X,a,rfl,az,j,G,H,a1,a2⟩;have r:X.length+a.length=N:=by rw[← I,← j.length_eq];simp[-a7N]
 simp only[dA,cN,aW,bL,bs];refine Wp.bind (OA ag ad ac (P:=X) (A:=a) (Q:=[]) (by simp only[bF,e6];omega) G (by simpa using a1) _ _ rfl (by omega)) ?_;rintro⟨am,aq⟩ ⟨C,f,t,k,u⟩;have z:fB S dQ 20 (X++C):=H.done f (by rw[f.length_eq];omega) t;have au:(X++C).Perm l:=(f.append_left X).trans j;have k:aq[o]?=some (.row bE 2 ((X++C).map aM)):=by simpa using k
 have a3:bM o g aq:=a2.trans u;generalize X++C=d at z au k;clear f t H G a1 a2 u;simp only[bs,aL];refine Wp.loop (λs h n=>∃T Y Z aa B ab,∃b:Nat,∃d:List (aD × aD),h=[.int .i64 (b:Int),T,Y,Z,aa,B,ab]∧s=N - b∧0<b∧b≤2000000000∧d.Perm l∧fB S dQ b d∧n[o]?=some (.row bE 2 (d.map aM))∧bM o g n)
  (λe=>e.1 = .ext 2∧∃T Y Z aa B ab a4,e.2.1=[T,Y,Z,aa,B,ab,a4]∧∃d:List (aD × aD),d.Perm l∧d.Pairwise S∧e.2.2[o]?=some (.row bE 2 (d.map aM))∧bM o g e.2.2)
  (N - 20) ⟨_,_,_,_,_,_,20,d,rfl,rfl,by omega,by omega,au,z,k,a3⟩ ?_ ?_
 ·clear k a3 z au d r j;rintro s h bc ⟨T,Y,Z,aa,B,ab,b,d,rfl,rfl,bx,bz,j,z,ae,ai⟩;have bk:d.length=N:=by rw[j.length_eq,I]
  simp only[A0,aW,bL,bs,aL,bS];refine Wp.dF ?_ ?_
  ·intro i;have i:b<N:=by
    have:(b:Int)<(N:Int):=by simpa using i
    omega
   have aj:IntKind.wrap .i64 ((2:Int)*(b:Int))=((2*b:Nat):Int):=by rw[bJ (by omega) (by omega)];omega
   simp only[oJ,aj,bs,aL];refine Wp.loop (λs h n=>∃m,∃X a:List (aD × aD),h=[.int .i64 (X.length:Nat),.int .i64 ((X.length+2*b:Nat):Int),m]∧s=a.length∧(X++a).Perm l∧fB S dQ b a∧jI S dQ (2*b) X a∧n[o]?=some (.row bE 2 ((X++a).map aM))∧bM o g n)
    (λe=>e.1 = .ext 4∧∃m a5,∃X a:List (aD × aD),e.2.1=[.int .i64 (X.length:Nat),m,a5]∧a.length<2*b∧(X++a).Perm l∧fB S dQ b a∧jI S dQ (2*b) X a∧e.2.2[o]?=some (.row bE 2 ((X++a).map aM))∧bM o g e.2.2)
    N ⟨B,[],d,by simp,bk.symm,by simpa using j,z,jI.nil,by simpa using ae,ai⟩ ?_ ?_
   ·rintro s h ar ⟨m,X,a,rfl,rfl,w,F,jN,K,M⟩;have r:X.length+a.length=N:=by rw[← I,← w.length_eq];simp[-a7N]
    simp only[Jz,aW,bL,bs,aL,iw];refine Wp.dF ?_ ?_
    ·intro v;have v:2*b≤a.length:=by
      have:((X.length+2*b:Nat):Int)≤(N:Int):=by simpa using v
      omega
     obtain⟨A,bu,rfl,bj,av,ah,a9⟩:=F.fst (by omega);simp only[bF]at r v;obtain⟨q,E,rfl,b0,aw,bl,ba⟩:=a9.fst (by omega);simp only[bF]at r v;have ax:IntKind.wrap .i64 ((X.length:Int)+(b:Int))=((X.length+A.length:Nat):Int):=by rw[bJ (by omega) (by omega)];omega
     simp only[cO,ax,bs,aL];refine Wp.bind (Io ag ad ac (A.length+q.length) ar X A q E _ _ _ (bB _) (by simp only[bF];omega) (by omega) (by omega) av aw (λak x al af=>ah ak x al (by simp[-a7N,af])) (by rw[K];simp[-a7N]) rfl rfl (by omega)) ?_;rintro⟨am,ay⟩ ⟨C,f,t,k,u⟩;have L:C.length=2*b:=by rw[f.length_eq,bF];omega
     have bo:IntKind.wrap .i64 (((X.length+2*b:Nat):Int)+((2*b:Nat):Int))=((X.length+2*b+2*b:Nat):Int):=by rw[bJ (by omega) (by omega)];omega
     simp only[oJ,cO,aj,bo,bs];have ao:(X++C).length=X.length+2*b:=by simp[-a7N,L]
     refine .some (.inl ⟨rfl,E.length,by simp only[bF];omega,_,X++C,E,by rw[ao],rfl,?_,ba,jI.step (A:=A++q) (by rw[gF];exact jN) f L t (λak x al af=>?_),k,M.trans u⟩)
     ·refine List.Perm.trans ?_ w;rw[gF,← gF A q E];exact(f.append_right E).append_left X
     ·rcases fp.1 x with x|x
      ·exact ah ak x al (by simp[-a7N,af])
      ·exact bl ak x al af
    ·intro v;have v:¬2*b≤a.length:=by
      have:¬((X.length+2*b:Nat):Int)≤(N:Int):=by simpa using v
      omega
     exact .some (.inr ⟨by simp,rfl,_,_,X,a,rfl,by omega,w,F,jN,K,M⟩)
   rintro⟨ap,h,ar⟩ ⟨rfl,m,a5,X,a,rfl,az,w,F,jN,K,M⟩;have r:X.length+a.length=N:=by rw[← I,← w.length_eq];simp[-a7N]
   have ax:IntKind.wrap .i64 ((X.length:Int)+(b:Int))=((X.length+b:Nat):Int):=by rw[bJ (by omega) (by omega)];omega
   have bp:IntKind.wrap .i64 ((b:Int)*2)=((2*b:Nat):Int):=by rw[bJ (by omega) (by omega)];omega
   simp only[dA,cN,aW,bL,bs,cO,ax,bS,aL];refine Wp.bind (P:=λe=>e.1 = .aQ∧∃d:List (aD × aD),d.Perm l∧fB S dQ (2*b) d∧e.2.2[o]?=some (.row bE 2 (d.map aM))∧bM o g e.2.2) ?_ ?_
   ·by_cases bw:X.length+b<N
    ·have an:decide (((X.length+b:Nat):Int)<(N:Int))=true:=fX (by omega);obtain⟨A,q,rfl,bj,av,ah,a8⟩:=F.fst (by omega);simp only[bF]at r az;have aw:q.Pairwise S:=a8.all (by omega);simp only[an,aK,aN];refine Wp.bind (Io ag ad ac (A.length+q.length) ar X A q [] _ _ _ (bB _) (by simp only[bF,e6];omega) (by omega) (by omega) av aw ah (by rw[K];simp[-a7N]) rfl (by omega) (by omega)) ?_;rintro⟨am,ay⟩ ⟨C,f,t,k,u⟩;refine .some ⟨rfl,X++C,(f.append_left X).trans w,jN.done f (by rw[f.length_eq,bF];omega) t,by simpa using k,M.trans u⟩
    ·have an:decide (((X.length+b:Nat):Int)<(N:Int))=false:=g2 (by omega);simp only[an,aK,aU,aJ];exact .some ⟨rfl,X++a,w,jN.done (BK _) (by omega) (F.all (by omega)),K,M⟩
   rintro⟨ap,h,ay⟩ ⟨rfl,a6,bh,bb,bf,bm⟩;simp only[cN,bs,bp];exact .some (.inl ⟨rfl,N - 2*b,by omega,_,_,_,_,_,_,2*b,a6,rfl,rfl,by omega,by omega,bh,bb,bf,bm⟩)
  ·intro i;have i:¬b<N:=by
    have:¬(b:Int)<(N:Int):=by simpa using i
    omega
   exact .some (.inr ⟨by simp,rfl,_,_,_,_,_,_,_,rfl,d,j,z.all (by omega),ae,ai⟩)
 rintro⟨ap,h,bc⟩ ⟨rfl,T,Y,Z,aa,B,ab,a4,rfl,a7,bg,bn,ae,ai⟩;simp only[dA,lz,bs];exact .some ⟨a7,bg,bn,ae,ai⟩
def ku(x y:aD × aD):Prop:=¬cF y x<0
theorem vR(x y:aD × aD):ku x y↔Op.bytesLess y.1 x.1=false:=by
 unfold ku cF;rw[Cy];simp[-a7N]
theorem a1i{x y z:aD × aD}(h:ku x y)(k:ku y z):ku x z:=by
 rw[vR]at *;cases b:Op.bytesLess z.1 x.1
 ·rfl
 ·by_cases a:y.1=x.1
  ·rw[a,b]at k;cases k
  ·have:=sI b (sH h a);rw[this]at k;cases k
theorem O6:me cF ku (λ_ _=>True) where
 tr:=λc d g=>a1i
 lt:=λc d _ a=>by
  unfold ku;intro b;unfold cF at a b;rw[Cy]at a b;have:=sI a b;rw[q8]at this;cases this
 ge:=λc d _ a=>a
theorem O5{x y:aD × aD}(h:ku x y)(k:ku y x):x.1=y.1:=by
 rw[vR]at h k;apply n4;intro a;have:=sH k a;rw[this]at h;cases h
theorem wo:∀{C:List (aD × aD)},C.Pairwise ku→(kb C=false↔(C.map Prod.fst).Nodup)
 |[],_=>by simp[-a7N,kb]
 |[x],_=>by simp[-a7N,kb]
 | x::y::r,h=>by
  have k:=wo (C:=y::r) (im.1 h).2;have i:=(im.1 h).1;have j:=(im.1 (im.1 h).2).1;rw[fP,List.nodup_cons];unfold kb;rw[Bool.or_eq_false_iff,k];constructor
  ·rintro⟨a,b⟩;refine⟨λg=>?_,b⟩;have a:y.1≠x.1:=by simpa using a
   obtain⟨l,c,d⟩:=g8.1 g;rcases fc.1 c with rfl|c
   ·exact a d
   ·have e:ku y x:=by
      have:=j l c;rw[vR]at this ⊢;rw[← d];exact this
    exact a (O5 e (i y (by simp)))
  ·rintro⟨a,b⟩;refine⟨?_,b⟩;have:y.1≠x.1:=λf=>a (by rw[fP,f];simp[-a7N])
   simpa using this
theorem Q2:∀{C E:List (aD × aD)},C.Pairwise ku→E.Pairwise ku→C.Perm E→(C.map Prod.fst).Nodup→C=E
 |[],E,_,_,a,_=>by rw[List.nil_perm.1 a]
 |x::C,[],_,_,a,_=>by cases List.perm_nil.1 a
 | x::C,y::E,b,c,a,d=>by
  rw[im]at b c;rw[fP,List.nodup_cons]at d;have i:x=y:=by
   apply n4;intro e;have g:x∈E:=by
    have:x∈y::E:=a.mem_iff.1 (by simp);rcases fc.1 this with h|h
    ·exact absurd h e
    ·exact h
   have f:y∈C:=by
    have:y∈x::C:=a.mem_iff.2 (by simp);rcases fc.1 this with h|h
    ·exact absurd h.symm e
    ·exact h
   have:=O5 (b.1 y f) (c.1 x g);exact d.1 (by rw[this];exact g8.2 ⟨y,f,rfl⟩)
  subst i;rw[Q2 b.2 c.2 ((List.perm_cons x).1 a) d.2]
theorem Q5(l:List (aD × aD)):(kP l).Perm l∧(kP l).Pairwise ku:=by
 cases l with
 |nil=>exact⟨by simp[-a7N,kP,jO],by simp[-a7N,kP,jO]⟩
 | cons b a =>
  obtain⟨c,e,f,g⟩:=y1 O6 [] [] a [b] (by simp) (λ_ _ _ _=>trivial) (List.Pairwise.imp (λ_=>trivial) (List.pairwise_of_forall (l:=a) (R:=λ_ _=>True) (λ_ _=>trivial)));have d:kP (b::a)=c:=by
   unfold kP;have:(b::a).length - 1=a.length:=by simp
   rw[this];simpa using e
  rw[d];exact⟨by simpa using f,g⟩
theorem Q1{C l:List (aD × aD)}(k:C.Perm l)(h:C.Pairwise ku):kb C=kb (kP l)∧(kb C=false→C=kP l):=by
 obtain⟨j,e⟩:=Q5 l;have g:C.Perm (kP l):=k.trans j.symm;have f:(C.map Prod.fst).Nodup↔((kP l).map Prod.fst).Nodup:=(g.map Prod.fst).nodup_iff;have a:=wo h;have d:=wo e;refine⟨?_,λi=>Q2 h e g (a.1 i)⟩;cases b:kb C<;>cases c:kb (kP l)
 ·rfl
 ·have:=d.2 (f.1 (a.1 b));rw[this]at c;cases c
 ·have:=a.2 (f.2 (d.1 c));rw[this]at b;cases b
 ·rfl
theorem a6n{cmp:D}(c:p6 cmp cF){o N:Nat}(b:N≤1000000000){g:J}{l:List (aD × aD)}(e:l.length=N)(f:g[o]?=some (.row bE 2 (l.map aM))):
  ∃d g',∃C:List (aD × aD),R vg [.aZ 2 o 0 N,cmp] g=some (d,g')∧C.Perm l∧C.Pairwise ku∧g'[o]?=some (.row bE 2 (C.map aM))∧bM o g g':=by
 obtain⟨⟨d,g'⟩,a,C,h,i,j,k⟩:=a6o O6 c b e (List.pairwise_of_forall λ_ _=>trivial) f;refine⟨aF [],g',C,?_,h,i,j,k⟩;rw[Nc];simp only[AX,bs,O8,a]
theorem a3w(l:List (aD × aD))(d:D)(h:J)(p:aI 2 aM l d):∃d' h',R vd [d] h=some (.bD [d',.int .i64 (fJ l).1],h')∧h.length≤h'.length∧(∀a,a<h.length→h'[a]?=h[a]?)∧((fJ l).1=0→k1 h' (fJ l).2 d'):=by
 suffices Wp (R vd [d] h) (λs=>∃d',s.1 = .bD [d',.int .i64 (fJ l).1]∧h.length≤s.2.length∧(∀a,a<h.length→s.2[a]?=h[a]?)∧((fJ l).1=0→k1 s.2 (fJ l).2 d')) by
  obtain⟨⟨b,h'⟩,i,d',rfl,c⟩:=this;exact⟨d',h',i,c⟩
 rw[UG];by_cases m:32<l.length
 ·have t:(32:Int)<(l.length:Int):=by omega
  have f:fJ l=(4,[]):=by simp only[fJ,m,aN]
  rw[f];simp only[AU,bs,aL,hZ p,dE,t,cM,aK,aN,gp];exact .some ⟨.aA,rfl,bB _,λ_ _=>rfl,λj=>by cases j⟩
 have t:¬(32:Int)<(l.length:Int):=by omega
 simp only[AU,bs,aL,hZ p,dE,t,bT,aK,aU,aJ];refine a0K l d h p (by omega) _ _ _ _ _ (λr b k u ac=>?_) (λr b k u ac=>?_)
 ·simp only[dA,cN,aW,bL,bs];obtain⟨g,i,F,I,w,q⟩:=Ik l d h p (by omega);simp only[F,bs];have P:∃b c,∃e:List (aD × aD),R vg [g,.fn (.func rG) [] []] i=some (b,c)∧h.length≤c.length∧(∀a,a<h.length→c[a]?=h[a]?)∧e.Perm l∧e.Pairwise ku∧k1 c e g:=by
   rcases q with⟨rfl,q⟩|⟨B,ad,rfl,K⟩
   ·obtain⟨b,Q⟩:=a3B g (.fn (.func rG) [] []) i q;exact⟨b,i,[],Q,I,w,BK _,List.Pairwise.nil,.inl q⟩
   ·obtain⟨b,c,e,T,C,X,aa,E⟩:=a6n (cmp :=.fn (.func rG) [] []) (λb k H=>SE b k H) (o:=B) (N:=l.length) (by omega) rfl K;refine⟨b,c,e,T,by have:=E.1;omega,λa L=>(E.2 a (by omega)).trans (w a L),C,X,.inr ⟨B,by rw[C.length_eq],aa⟩⟩
  obtain⟨ae,c,e,G,y,x,z,M,A⟩:=P;obtain⟨v,ab⟩:=Q1 z M;simp only[G,bs];refine a0L e g c A (by rw[z.length_eq];omega) _ _ _ _ (λn b k u=>?_) (λn b k u=>?_)
  ·have f:fJ l=(0,kP l):=by simp only[fJ,m,aJ,r,aN,← v,n,aU]
   rw[f];simp only[dA,cN,bs,gp];exact .some ⟨g,rfl,y,x,λ_=>by rw[← ab n];exact A⟩
  ·have f:fJ l=(7,[]):=by simp only[fJ,m,aJ,r,aN,← v,n]
   rw[f];simp only[jQ,jG,jX,aW,bL,bs,gp];exact .some ⟨.aA,rfl,y,x,λj=>by cases j⟩
 ·have f:fJ l=(6,[]):=by simp only[fJ,m,aJ,r];rfl
  rw[f];simp only[jQ,jG,jX,aW,bL,bs,gp];exact .some ⟨.aA,rfl,bB _,λ_ _=>rfl,λj=>by cases j⟩
theorem a3t(e:Ev)(h:J):R u7 [.agg (bG e)] h=some (.int .i64 (pq e),h):=a3s e h λa=>a3w e.fs e.fd a e.gH
theorem HE(i:It)(h:J):R pv [.agg (aT i)] h=some (.int .i64 (j0 i),h):=a3r i h (a3t i.e h)
structure Rw where
 k:List aD
 kd:D
 hk:aI 1 (λs=>[D.str s]) k kd
 hkl:k.length≤1000000
 n:List Int
 nd:D
 hn:aI 1 inr n nd
 hnl:n.length≤1000000
 er:Int
theorem rp{α:Type}{l:List α}{i:Nat}{x:α}(h:l[i]?=some x):l.drop i=x::l.drop (i+1):=by
 obtain⟨b,a⟩:=bR.1 h;rw[hS b,a]
def rwa:Rw:=⟨[],.aA,.aA _ _,by simp,[1],.sl 1 true [[.int .i64 1]],.inr ⟨true,rfl⟩,by simp,0⟩
end Go.Proofs.YtkcdpfogoepamaaGreatDoor

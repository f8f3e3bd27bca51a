/- Part 4 of the texts that the theorem needs: an interpreter on data, proved sound; the functions on data; laws about them. -/
import Derived.Test.YtinlnkhheafjaaaDoorM3
set_option linter.unusedSimpArgs false
set_option linter.unusedVariables false
set_option linter.unnecessarySimpa false
set_option maxRecDepth 100000
namespace Go.Eng
abbrev e7:=@Int.toNat_natCast
abbrev fw:=@not_true
abbrev iV:=@Bool.true_eq_false
abbrev iX:=@List.head?_cons
abbrev jm:=@List.map_append
abbrev kH:=@Decidable.not_not
abbrev lg:=@or_false
abbrev lh:=@or_self
abbrev lz:=@List.getElem?_cons_succ
abbrev lJ:=@beq_self_eq_true
abbrev l7:=@or_true
abbrev mq:=@true_or
abbrev nR:=@Int.natCast_nonneg
abbrev om:=@false_or
abbrev sd:=@List.all_cons
abbrev sF:=@UInt8.lt_iff_toNat_lt
end Go.Eng
namespace Go.Proofs.YtinlnkhheafjaaaDoor
open Go.Eng Go.Pi
open Option renaming bind_some → Ma
abbrev aG:=List UInt8
def aW(p:aG × aG):List D:=[.str p.1,.str p.2]
structure dO where
 off:Int
 len:Int
 fS:aG
 deriving DecidableEq
def cN(l:dO):List D:=[.int .i64 l.off,.int .i64 l.len,.str l.fS]
structure Ev where
 a0:Int
 a1:Int
 a2:Int
 a3:Int
 ls:List dO
 ld:D
 a5:Int
 a6:Int
 s7:aG
 s8:aG
 fs:List (aG × aG)
 fd:D
 ho:aV 2 aW fs fd
 hl:fs.length≤9223372036854775807
 ih:aV 3 cN ls ld
 tP:ls.length≤9223372036854775807
def bR(e:Ev):List D:=[.int .i64 e.a0,.int .i64 e.a1,.int .i64 e.a2,.int .i64 e.a3,e.ld,.int .i64 e.a5,.int .i64 e.a6,.str e.s7,.str e.s8,e.fd]
structure It where
 r:aG
 e:Ev
def aJ(i:It):List D :=.str i.r::bR i.e
theorem zj(n0:Nat)(h:Z)(n:Nat)(p:aG × aG):∀d∈aW p,bL n0 h n d=d:=by simp[-Ma,aW]
theorem tg(n:Nat)(p:aG × aG):∀d∈aW p,Ok n d:=by
 intro d a;simp[-Ma,aW]at a;rcases a with rfl|rfl<;>constructor
theorem qY(n0:Nat)(h:Z)(n:Nat)(p:dO):∀d∈cN p,bL n0 h n d=d:=by simp[-Ma,cN]
theorem ve(n:Nat)(p:dO):∀d∈cN p,Ok n d:=by
 intro d a;simp[-Ma,cN]at a;rcases a with rfl|rfl|rfl<;>constructor
theorem yX(n0:Nat)(h:Z)(n:Nat)(e:Ev):∀d∈bR e,bL n0 h (n+1) d=d:=by
 intro d b;simp[-Ma,bR]at b;rcases b with rfl|rfl|rfl|rfl|rfl|rfl|rfl|rfl|rfl|rfl
 all_goals first|exact vQ e.ih (λa _=>qY _ _ _ a)|exact vQ e.ho (λa _=>zj _ _ _ a)|simp[-Ma]
theorem yY(n:Nat)(e:Ev):∀d∈bR e,Ok n d:=by
 intro d b;simp[-Ma,bR]at b;rcases b with rfl|rfl|rfl|rfl|rfl|rfl|rfl|rfl|rfl|rfl
 all_goals first|exact km e.ih (λa _=>ve _ a)|exact km e.ho (λa _=>tg _ a)|constructor
theorem u3(n:Nat)(i:It):Ok n (.agg (aJ i)):=by
 refine .agg _ λc b=>?_
 simp[-Ma,aJ,bR]at b;rcases b with rfl|rfl|rfl|rfl|rfl|rfl|rfl|rfl|rfl|rfl|rfl
 all_goals first|exact km i.e.ih (λa _=>ve _ a)|exact km i.e.ho (λa _=>tg _ a)|constructor
theorem u2(n0:Nat)(h:Z)(n:Nat)(i:It):∀d∈aJ i,bL n0 h (n+1) d=d:=by
 intro d a;rcases ga.1 a with rfl|a
 ·simp[-Ma]
 ·exact yX n0 h n i.e d a
theorem u4(n:Nat)(i:It):∀d∈aJ i,Ok n d:=by
 intro d a;rcases ga.1 a with rfl|a
 ·exact .str _
 ·exact yY n i.e d a
theorem qp(e:Ev)(h:Z):aA tab h aF (.aE (bR e))=some (.agg (bR e)):=id rfl
theorem oP(i:It):aC tab aP 1 (.aE (aJ i))=some (.aE (bR i.e)):=id rfl
theorem zF(i:It):aC tab aP 0 (.aE (aJ i))=some (.aE (aJ i)):=id rfl
theorem zG(i:It)(h:Z):aA tab h bE (.aE (aJ i))=some (.str i.r):=id rfl
theorem oS(i:It)(h:Z):aA tab h aP (.aE (aJ i))=some (.agg (aJ i)):=id rfl
theorem C0(i:It):bF tab bD 1 [0] [.agg (aJ i)]=some (.sl 11 true [aJ i]):=id rfl
theorem oV(l:dO)(h:Z):aA tab h bW (.aE (cN l))=some (.agg (cN l)):=id rfl
theorem tf(l:aG × aG)(h:Z):aA tab h bG (.aE (aW l))=some (.agg (aW l)):=id rfl
theorem HO(a b:dO):U tab .neq bW (.agg (cN a)) (.agg (cN b))=some (.bool (decide (a≠b))):=by
 obtain⟨c,d,e⟩:=a;obtain⟨f,g,h⟩:=b;simp[-Ma,cN];by_cases i:c=f<;>by_cases j:d=g<;>by_cases k:e=h<;>simp[-Ma,i,j,k]
theorem zk(a b:aG × aG):U tab .neq bG (.agg (aW a)) (.agg (aW b))=some (.bool (decide (a≠b))):=by
 obtain⟨c,d⟩:=a;obtain⟨e,f⟩:=b;simp[-Ma,aW];by_cases g:c=e<;>by_cases h:d=f<;>simp[-Ma,g,h]
def KE(c:Int):Int:=if c % 2=1 then IntKind.wrap .u32 (BitVec.ofInt IntKind.u32.bits (c.fdiv 2) ^^^ BitVec.ofInt IntKind.u32.bits 3988292384).toNat else c.fdiv 2
def Bt:Nat→Int→Int
 |0,c=>c
 |n+1,c=>Bt n (KE c)
def C1(c z:Int):Int:=Bt 8 (IntKind.wrap .u32 (BitVec.ofInt IntKind.u32.bits c ^^^ BitVec.ofInt IntKind.u32.bits (IntKind.wrap .u32 z)).toNat)
def yw:Int→List Int→Int
 |c,[]=>c
 |c,z::r=>yw (C1 c z) r
def Dn(l:List Int):Int:=IntKind.wrap .u32 (BitVec.ofInt IntKind.u32.bits (if IntKind.u32.signed then -1 else IntKind.u32.max) ^^^ BitVec.ofInt IntKind.u32.bits (yw 4294967295 l)).toNat
theorem Kk(l r:List dO)(d e:D)(h:Z)(n:aV 3 cN l d)(w:aV 3 cN r e)(F:l.length≤9223372036854775807):R tF [d,e] h=some (.bool (decide (l=r)),h):=by
 apply Wp.val;rw[ET];simp only[xv,O,bS,k5 n,k5 w,dP];refine Wp.eY ?_ ?_
 ·intro i;have i:l.length≠r.length:=by
   have:¬(l.length:Int)=r.length:=by simpa using i
   omega
  have p:l≠r:=λo=>i (by rw[o])
  simp only[O,cS];exact .some (by simp[-Ma,p])
 ·intro i;have i:l.length=r.length:=by
   have:(l.length:Int)=r.length:=by simpa using i
   omega
  refine Wp.loop (λs j m=>m=h∧∃t u v,∃a:Nat,j=[t,.int .i64 a,u,v]∧s+a=l.length∧l.take a=r.take a)
   (λb=>b.2.2=h∧((b.1 = .ret∧Y 0 b.2.1 = .bool false∧l≠r)∨(b.1 = .ext 0∧l=r))) l.length ⟨rfl,_,_,_,0,rfl,rfl,rfl⟩ ?_ ?_
  ·rintro s j m ⟨rfl,t,u,v,a,rfl,E,x⟩;simp only[xw,cL,dT,O,bS,k5 n,dZ];refine Wp.eY ?_ ?_
   ·intro g;have g:a<l.length:=jd g;have k:l[a]?=some l[a]:=cA g;have c:r[a]?=some (r[a]'(by omega)):=cA (by omega);have C:=iU a (by omega);generalize l[a]=b at k;generalize r[a]'(by omega)=y at c;simp only[lY n,lY w,nR,aL,e7,k,c,gC,O,oV,HO];refine Wp.eY ?_ ?_
    ·intro f;have f:b≠y:=by simpa using f
     try simp only[O]
     refine .some (.inr ⟨by simp,rfl,.inl ⟨rfl,rfl,λo=>?_⟩⟩);subst o;rw[k]at c;injection c with c;exact f c
    ·intro f;have f:b=y:=by simpa using f
     subst f;simp only[eL,O,C];refine .some (.inl ⟨rfl,s - 1,by omega,rfl,_,_,_,a+1,rfl,by omega,?_⟩);rw[jq,jq,x,k,c]
   ·intro g;have g:a=l.length:=by
     have:¬(a:Int)<l.length:=by simpa using g
     omega
    refine .some (.inr ⟨by simp,rfl,.inr ⟨rfl,?_⟩⟩);have z:l.take a=l:=gK (by omega);have A:r.take a=r:=gK (by omega);rw[← z,← A,x]
  ·rintro⟨b,j,m⟩ ⟨rfl,⟨rfl,q,p⟩|⟨rfl,B⟩⟩
   ·replace q:Y 0 j = .bool false:=q;simp only[nG,nE,m1,cL,O,q,cS];exact .some (by simp[-Ma,p])
   ·simp only[fb,dW,O,cS];exact .some (by simp[-Ma,B])
theorem Kl(l r:List (aG × aG))(d e:D)(h:Z)(n:aV 2 aW l d)(w:aV 2 aW r e)(F:l.length≤9223372036854775807):R tG [d,e] h=some (.bool (decide (l=r)),h):=by
 apply Wp.val;rw[EU];simp only[xx,O,bS,je n,je w,dP];refine Wp.eY ?_ ?_
 ·intro i;have i:l.length≠r.length:=by
   have:¬(l.length:Int)=r.length:=by simpa using i
   omega
  have p:l≠r:=λo=>i (by rw[o])
  simp only[O,cS];exact .some (by simp[-Ma,p])
 ·intro i;have i:l.length=r.length:=by
   have:(l.length:Int)=r.length:=by simpa using i
   omega
  refine Wp.loop (λs j m=>m=h∧∃t u v,∃a:Nat,j=[t,.int .i64 a,u,v]∧s+a=l.length∧l.take a=r.take a)
   (λb=>b.2.2=h∧((b.1 = .ret∧Y 0 b.2.1 = .bool false∧l≠r)∨(b.1 = .ext 0∧l=r))) l.length ⟨rfl,_,_,_,0,rfl,rfl,rfl⟩ ?_ ?_
  ·rintro s j m ⟨rfl,t,u,v,a,rfl,E,x⟩;simp only[xy,cL,dT,O,bS,je n,dZ];refine Wp.eY ?_ ?_
   ·intro g;have g:a<l.length:=jd g;have k:l[a]?=some l[a]:=cA g;have c:r[a]?=some (r[a]'(by omega)):=cA (by omega);have C:=iU a (by omega);generalize l[a]=b at k;generalize r[a]'(by omega)=y at c;simp only[qV n,qV w,nR,aL,e7,k,c,gC,O,tf,zk];refine Wp.eY ?_ ?_
    ·intro f;have f:b≠y:=by simpa using f
     try simp only[O]
     refine .some (.inr ⟨by simp,rfl,.inl ⟨rfl,rfl,λo=>?_⟩⟩);subst o;rw[k]at c;injection c with c;exact f c
    ·intro f;have f:b=y:=by simpa using f
     subst f;simp only[eL,O,C];refine .some (.inl ⟨rfl,s - 1,by omega,rfl,_,_,_,a+1,rfl,by omega,?_⟩);rw[jq,jq,x,k,c]
   ·intro g;have g:a=l.length:=by
     have:¬(a:Int)<l.length:=by simpa using g
     omega
    refine .some (.inr ⟨by simp,rfl,.inr ⟨rfl,?_⟩⟩);have z:l.take a=l:=gK (by omega);have A:r.take a=r:=gK (by omega);rw[← z,← A,x]
  ·rintro⟨b,j,m⟩ ⟨rfl,⟨rfl,q,p⟩|⟨rfl,B⟩⟩
   ·replace q:Y 0 j = .bool false:=q;simp only[nG,nE,m1,cL,O,q,cS];exact .some (by simp[-Ma,p])
   ·simp only[fb,dW,O,cS];exact .some (by simp[-Ma,B])
def im(a b:Ev):Bool:=decide (a.a0=b.a0)&&(decide (a.a1=b.a1)&&(decide (a.a2=b.a2)&&(decide (a.a3=b.a3)&&(decide (a.a5=b.a5)&&(decide (a.a6=b.a6)&&(decide (a.s7=b.s7)&&(decide (a.s8=b.s8)&&(decide (a.ls=b.ls)&&decide (a.fs=b.fs)))))))))
def hU(i j:It):Bool:=decide (i.r=j.r)&&im i.e j.e
theorem Kh(i j:It)(h:Z):R tD [.agg (aJ i),.agg (aJ j)] h=some (.bool (hU i j),h):=by
 apply Wp.val;rw[EO];simp only[xo,ma,O,bS,oP,zF,zG,qp];generalize y:aK h aF 10 [[.int .i64 0,.int .i64 0,.int .i64 0,.int .i64 0,.J,.int .i64 0,.int .i64 0,.str [],.str [],.J]]=B;have Q:B.length=h.length+1:=by simp[-Ma,← y,aK]
 have N:∀b,b<h.length→B[b]?=h[b]?:=λb A=>by simp only[← y,aK];rw[dS A]
 have X:B[h.length]?=some (.row aF 10 [[.int .i64 0,.int .i64 0,.int .i64 0,.int .i64 0,.J,.int .i64 0,.int .i64 0,.str [],.str [],.J]]):=by simp[-Ma,← y,aK]
 clear y;refine pH X (by rfl) (by rfl) (by simp) (by rfl) λw s L=>?_
 replace s:w[h.length]?=some (.row aF 10 [bR i.e]):=s;have K:w.length=h.length+1:=by rw[L.1,Q]
 try simp only[lK]
 rw[K];generalize z:aK w aF 10 [[.int .i64 0,.int .i64 0,.int .i64 0,.int .i64 0,.J,.int .i64 0,.int .i64 0,.str [],.str [],.J]]=C;have ad:h.length≤C.length:=by simp[-Ma,← z,aK];omega
 have I:∀b,b<h.length+1→C[b]?=w[b]?:=λb A=>by simp only[← z,aK];rw[dS (by omega)]
 have aa:C[h.length+1]?=some (.row aF 10 [[.int .i64 0,.int .i64 0,.int .i64 0,.int .i64 0,.J,.int .i64 0,.int .i64 0,.str [],.str [],.J]]):=by
  simp only[← z,aK];rw[← K,g4 (aT _)];simp[-Ma]
 replace s:=(I h.length (by omega)).trans s;clear z;refine pH aa (by rfl) (by rfl) (by simp) (by rfl) λp E F=>?_
 replace E:p[h.length+1]?=some (.row aF 10 [bR j.e]):=E;replace s:=(F.2 h.length (by omega)).trans s;have P:∀b,b<h.length→p[b]?=h[b]?:=λb A=>(((F.2 b (by omega)).trans (I b (by omega))).trans (L.2 b (by omega))).trans (N b A)
 have T:h.length≤p.length:=by have:=F.1;omega
 have k:p.row h.length 0=some (bR i.e):=eI s;have l:p.row (h.length+1) 0=some (bR j.e):=eI E;have f:∀v:Bool,scope h p (.bool v)=some (.bool v,h):=λv=>kj (by simp) (.bool v) T P
 obtain⟨ab,a⟩:=i;obtain⟨ac,c⟩:=j;by_cases d:ab=ac
 case neg=>exact⟨_,by simp[-Ma,d,f,hU],rfl⟩
 by_cases g:a.a0=c.a0
 case neg=>exact⟨_,by simp[-Ma,d,g,f,hU,im,k,l,bR],rfl⟩
 by_cases m:a.a1=c.a1
 case neg=>exact⟨_,by simp[-Ma,d,g,m,f,hU,im,k,l,bR],rfl⟩
 by_cases o:a.a2=c.a2
 case neg=>exact⟨_,by simp[-Ma,d,g,m,o,f,hU,im,k,l,bR],rfl⟩
 by_cases q:a.a3=c.a3
 case neg=>exact⟨_,by simp[-Ma,d,g,m,o,q,f,hU,im,k,l,bR],rfl⟩
 by_cases r:a.a5=c.a5
 case neg=>exact⟨_,by simp[-Ma,d,g,m,o,q,r,f,hU,im,k,l,bR],rfl⟩
 by_cases t:a.a6=c.a6
 case neg=>exact⟨_,by simp[-Ma,d,g,m,o,q,r,t,f,hU,im,k,l,bR],rfl⟩
 by_cases u:a.s7=c.s7
 case neg=>exact⟨_,by simp[-Ma,d,g,m,o,q,r,t,u,f,hU,im,k,l,bR],rfl⟩
 by_cases x:a.s8=c.s8
 case neg=>exact⟨_,by simp[-Ma,d,g,m,o,q,r,t,u,x,f,hU,im,k,l,bR],rfl⟩
 have G:=Kk a.ls c.ls a.ld c.ld p a.ih c.ih a.tP;have M:=Kl a.fs c.fs a.fd c.fd p a.ho c.ho a.hl;by_cases D:a.ls=c.ls
 case neg=>exact⟨_,by simp[-Ma,d,g,m,o,q,r,t,u,x,D,f,hU,im,k,l,bR,G],rfl⟩
 by_cases H:a.fs=c.fs
 case neg=>exact⟨_,by simp[-Ma,d,g,m,o,q,r,t,u,x,D,H,f,hU,im,k,l,bR,G,M],rfl⟩
 exact⟨_,by simp[-Ma,d,g,m,o,q,r,t,u,x,D,H,f,hU,im,k,l,bR,G,M],rfl⟩
def idx{b:Type}(a:b→Bool):Nat→List b→Int
 |_,[] => -1
 |k,x::r=>if a x=true then k else idx a (k+1) r
theorem u0{b:Type}(a:b→Bool):∀(l:List b) (k:Nat),decide (0≤idx a k l)=l.any a
 |[],k=>by simp[-Ma,idx]
 | x::r,k=>by
  unfold idx;by_cases h:a x=true
  ·simp[-Ma,h]
  ·simp[-Ma,h,u0 a r]
theorem zx{zs:List Int}{d:D}(a:iw .u8 zs d):aX tab hC d=some (.int .i64 zs.length):=by
 rcases a with⟨rfl,rfl⟩|rfl
 ·rfl
 ·simp[-Ma,ints]
theorem Gt{zs:List Int}{d:D}(b:iw .u8 zs d)(i:Nat)(z:Int)(a:zs[i]?=some z):aM tab hC d (.int .i64 i)=some (.aE [.int .u8 z]):=by
 rcases b with⟨rfl,rfl⟩|rfl
 ·cases a
 ·simp[-Ma,ints,a]
theorem KD(h:Z)(o k f:Nat)(v:D):cE tab h W (.ptr o k f) v=il 1 h (.ptr o k f) v:=rfl
def blank(l:dO):dO:={ l with fS:=[] }
theorem qW{h:Z}{a T z:Nat}{cs:List D}(c:h[a]?=some (.row T z [cs]))(b:cs.length=10):aA tab h aF (.ptr a 0 0)=some (.agg cs):=by
 rw[HD,eI c];simp[-Ma,mj,b];exact gK (by omega)
theorem u7{h:Z}{a T z:Nat}{cs:List D}(c:h[a]?=some (.row T z [cs]))(b:cs.length=11):aA tab h aP (.ptr a 0 0)=some (.agg cs):=by
 rw[z3,eI c];simp[-Ma,mj,b];exact gK (by omega)
theorem Km(n:Int)(h:Z):R qP [.int .i64 n] h=some (.bool false,h):=by
 rw[EV];simp[-Ma,xz]
def iI(a b:Int):Int:=if a<b then -1 else if b<a then 1 else 0
theorem Kj(a b:Int)(h:Z):R qO [.int .i64 a,.int .i64 b] h=some (.int .i64 (iI a b),h):=by
 rw[ES];simp[-Ma,xu,Km,iI];by_cases c:a<b
 ·simp[-Ma,c]
 ·by_cases d:b<a<;>simp[-Ma,c,d]
def k6(c:Int):Bool:=(decide (97≤c)&&decide (c≤122))||(decide (65≤c)&&decide (c≤90))
def sY(c:Int):Bool:=decide (48≤c)&&decide (c≤57)
def pF(c:Int):Bool:=(sY c||k6 c)||decide (c=95)
def kF(c:UInt8):Bool:=pF c.toNat||decide ((c.toNat:Int)=46)
def ig(s:aG):Bool:=match s with
 |[]=>false
 |c::a=>decide ((c::a).length≤32)&&(k6 c.toNat||decide ((c.toNat:Int)=95))&&(c::a).all kF
theorem Kv(s:aG)(i:Nat)(c:UInt8)(a:s[i]?=some c):lN tab bE (.str s) (.int .i64 i)=some (.int .u8 c.toNat):=by
 show(if(0:Int)≤(i:Int)then(match s[(i:Int).toNat]? with|some c=>some (D.int .u8 c.toNat)|none=>none)else none)=_;simp[-Ma,a]
def pP(l:List (aG × aG)):Prop:=∀c a b,l[c]?=some a→l[c+1]?=some b→Op.bytesLess a.1 b.1=true∧a.1≠b.1
theorem tb(p:aG × aG):(aC tab bG 0 (.aE (aW p)))=some (.aE (aW p)):=id rfl
theorem tc(p:aG × aG)(h:Z):aA tab h bE (.aE (aW p))=some (.str p.1):=id rfl
theorem Hk(l:List dO)(d:D)(n:D)(j:dO→Bool)(h:Z)(p:aV 3 cN l d)(A:l.length≤9223372036854775807)(q:∀x,gh R n [.agg (cN x)] h=some (.bool (j x),h)){u:Type}(k:bP→Option u)(X:Int→Option u)
   (y:∀v r,k (.ret,.int .i64 v::r,h)=X v) (z:∀r,k (.ext 0,r,h)=X (-1)):∀(i c:List dO),l=c++i→∀a b e f,
   (bZ (nK d n (.int .i64 l.length)) [a,b,.int .i64 c.length,e,f] h).bind k=X (idx j c.length i):=by
 intro i
 induction i with
 | nil =>
  rintro c rfl a b e f;rw[ik];simp[-Ma,nK,z,idx]
 | cons g i C =>
  rintro c rfl a b e f;have B:IntKind.wrap .i64 ((c.length:Int)+1)=(c++[g]).length:=by
   rw[cX (by omega) (by simp at A;omega)];simp[-Ma]
  have t:(c.length:Int)<(c++g::i).length:=by simp;omega
  rw[ik];generalize o:c++g::i=w at *;have s:w[c.length]?=some g:=by rw[← o];exact qS _ _ _
  by_cases m:j g=true
  ·simp[-Ma,nK,lY p,t,s,oV,q,m,y,idx]
  ·have:=C (c++[g]) (by simp[-Ma,← o]) a (.int .i64 c.length) (.bool true) (.bool (j g));simp only[← B]at this;simp[-Ma,nK,lY p,t,s,oV,q,m,idx];simp[-Ma,m]at this;exact this
theorem JM(l:List dO)(d:D)(a:D)(b:dO→Bool)(h:Z)(c:aV 3 cN l d)(g:l.length≤9223372036854775807)(f:∀x,gh R a [.agg (cN x)] h=some (.bool (b x),h)):
   R th [d,a] h=some (.int .i64 (idx b 0 l),h):=by
 rw[D3];simp only[wy,O,k5 c,bS];rw[show(0:Int)=(([]:List dO).length:Int)from rfl,Hk l d a b h c g f _ (λe=>some (.int .i64 e,h)) (λe i=>by simp) (λi=>by simp) l [] rfl];rfl
theorem CE{T:aZ}{t e:Nat}{i j:TI}(k:T t=Option.some i)(hi:i.td = .sl e)(c:T e=Option.some j)(m:0<j.V){h:Z}{ys:List (List D)}{y:D}(l:g9 h j.V y=Option.some ys)(d:cC ys.length j.fJ=true):
  ∃b h',dH T h t t (.sl j.V true []) y=Option.some (b,h')∧h.length≤h'.length∧(∀a,a<h.length→h'[a]?=h[a]?)∧((b = .sl j.V true []∧ys=[])∨Own h' h.length e j.V ys b):=by
 have n:Nat.blt 0 j.V=true:=h5 m;have g:iK h i j y=Option.some ys:=by simp[-Ma,iK,hi,l]
 unfold dH;simp only[k,hi,c,n,g];cases ys with
 |nil=>exact⟨_,_,rfl,aT _,λ_ _=>rfl,.inl ⟨rfl,rfl⟩⟩
 | cons o p =>
  simp only[fB,dA,d,gv,aL,jW,true_and];exact⟨_,_,rfl,by simp[-Ma,aK],λa f=>by simp only[aK];rw[dS f],.inr (.inr ⟨h.length,aT _,rfl,by simp[-Ma,aK]⟩)⟩
def dC(n:Int):List D:=[.int .i64 n]
def iR:List Int→Int
 |[]=>0
 |x::r=>if x=0 then iR r else x
theorem Hq(l:List Int)(d:D)(h:Z)(m:aV 1 dC l d)(x:l.length≤9223372036854775807){s:Type}(j:bP→Option s)(X:Int→Option s)
   (u:∀v r,j (.ret,.int .i64 v::r,h)=X v) (w:∀r,j (.ext 0,r,h)=X 0):∀(g c:List Int),l=c++g→∀n:Int,n=c.length→∀a b e f,
   (bZ (nN (.int .i64 0) d (.int .i64 l.length)) [a,b,.int .i64 n,e,f] h).bind j=X (iR g):=by
 intro g
 induction g with
 | nil =>
  rintro c rfl n rfl a b e f;rw[ik];simp[-Ma,nN,w,iR]
 | cons i g z =>
  rintro c rfl n rfl a b e f;have y:IntKind.wrap .i64 ((c.length:Int)+1)=(c++[i]).length:=by
   rw[cX (by omega) (by simp at x;omega)];simp[-Ma]
  have p:(c.length:Int)<(c++i::g).length:=by simp;omega
  rw[ik];generalize k:c++i::g=t at *;have o:t[c.length]?=some i:=by rw[← k];exact qS _ _ _
  by_cases q:i=0
  ·subst q;have:=z (c++[0]) (by simp[-Ma,← k]) _ rfl a (.int .i64 0) (.bool true) (.bool false);simp only[← y]at this;simp[-Ma,nN,oQ m,p,o,dC,iR];exact this
  ·simp[-Ma,nN,oQ m,p,o,dC,q,u,iR]
theorem Ki(l:List Int)(d:D)(h:Z)(a:aV 1 dC l d)(c:l.length≤9223372036854775807):R tE [d] h=some (.int .i64 (iR l),h):=by
 rw[ER];simp only[xr,O,oT a,bS];rw[Hq l d h a c _ (λb=>some (.int .i64 b,h)) (λb e=>by simp) (λe=>by simp) l [] rfl 0 rfl]
theorem Ax(o pos:Nat)(zs:List Int)(d:D)(h:Z)(b:h[o]?=some (.row gZ 2 [[d,.int .i64 pos]]))(a:iw .u8 zs d):R tC [.ptr o 0 0] h=some (.bool (decide (pos<zs.length)),h):=by
 rw[EM];simp[-Ma,xm,Z.row,b,zx a]
def CM(h:Z)(o:Nat):Prop:=∃(b:D) (a:List Int) (c:Nat),h[o]?=some (.row gZ 2 [[b,.int .i64 c]])∧iw .u8 a b∧a.length≤400∧c≤400∧∀d∈a,0≤d∧d<256
theorem CM.bA{h h':Z}{o:Nat}(b:CM h o)(c:h'[o]?=h[o]?):CM h' o:=by
 obtain⟨a,g,f,d,e⟩:=b;exact⟨a,g,f,by rw[c];exact d,e⟩
theorem CM.lt{h:Z}{o:Nat}(a:CM h o):o<h.length:=by
 obtain⟨c,f,e,b,d⟩:=a;exact(bB.1 b).1
theorem CM.ok{h:Z}{o:Nat}(e:CM h o)(n:Nat):∀T V rows,h[o]?=some (.row T V rows)→∀row∈rows,∀d∈row,Ok n d:=by
 obtain⟨d,k,i,g,f,_⟩:=e;intro T V rows a row b j c;rw[g]at a;injection a with a;injection a with _ _ a;subst a;simp at b;subst b;simp at c;rcases c with rfl|rfl
 ·exact Gu f n
 ·exact .int _ _
theorem gR{h:Z}{o:Nat}(r:CM h o)(n:Int)(B:1≤n)(C:n≤1000000000):∃v h',R gw [.ptr o 0 0,.int .i64 n] h=some (.int .i64 v,h')∧CM h' o∧bY o h h'∧0≤v∧v<n:=by
 obtain⟨c,b,a,e,d,k,u,i⟩:=r;have s:¬n<1:=by omega
 have t:¬n=0:=by omega
 by_cases g:a<b.length
 ·have j:b[a]?=some b[a]:=cA g;have l:=i b[a] (nV _);generalize b[a]=f at j l;have x:IntKind.wrap .i64 ((a:Int)+1)=(a:Int)+1:=cX (by omega) (by omega);have y:IntKind.wrap .i64 ((a:Int)+1 - 1)=(a:Int):=by rw[cX (by omega) (by omega)];omega
  have z:IntKind.wrap .i64 (a:Int)=(a:Int):=cX (by omega) (by omega);have A:IntKind.wrap .i64 f=f:=cX (by omega) (by omega);have m:o<h.length:=(bB.1 e).1;have w:∀X,(h.set o X)[o]?=some X:=λX=>jV m
  have p:=Int.tmod_nonneg n l.1;have q:=Int.tmod_lt_of_pos f (show 0<n by omega);refine⟨f.tmod n,h.set o (.row gZ 2 [[c,.int .i64 ((a+1:Nat):Int)]]),?_,⟨c,b,a+1,by simp[-Ma,m],d,k,by omega,i⟩,⟨by simp,λF E=>by rw[hZ (by omega)]⟩,p,q⟩;rw[yR];simp[-Ma,sa,Ax o a b c h e d,g,s,t,Z.row,e,KD,il,D.eZ,bT,D.one,dF,x,y,z,Gt d a f j,A,w]
 ·refine⟨0,h,?_,⟨c,b,a,e,d,k,u,i⟩,.refl _ _,by omega,by omega⟩;rw[yR];simp[-Ma,sa,Ax o a b c h e d,g]
theorem IL{h:Z}{o:Nat}(f:CM h o)(l:List aG)(d:D)(a:aV 1 (λs=>[.str s]) l d)(n:1≤l.length)(h2:l.length≤1000):∃s h',R ft [.ptr o 0 0,d] h=some (.str s,h')∧CM h' o∧bY o h h'∧s∈l:=by
 obtain⟨k,h',e,c,j,b,m⟩:=gR f l.length (by omega) (by omega);obtain⟨s,i,g⟩:=AM l k b m;refine⟨s,h',?_,c,j,i⟩;rw[EJ];simp[-Ma,xh,HL a,e,Hj a,b,g]
theorem jH{h:Z}{o:Nat}(g:CM h o)(l:List aG)(m:Nat)(i:∀s∈l,s.length≤m)(e:1≤l.length)(h2:l.length≤1000){b:Type}{f:D × Z→Option b}{Q:b→Prop}
  (k:∀s h',CM h' o→bY o h h'→s∈l→s.length≤m→Wp (f (.str s,h')) Q):Wp ((R ft [.ptr o 0 0,.sl 1 true (l.map λs=>[.str s])] h).bind f) Q:=by
 obtain⟨s,h',d,c,j,a⟩:=IL g l _ (.mk _ _ _ _) e h2;rw[d];exact k s h' c j a (i s a)
theorem lH(t:Nat){s a:aG}(c:s.length≤1000000000)(d:a.length≤1000000000){b:Type}{f:D→Option b}{Q:b→Prop}(k:∀v:aG,v.length=s.length+a.length→Wp (f (.str v)) Q):Wp ((U tab .add t (.str s) (.str a)).bind f) Q:=by
 rw[Dr _ _ _ _ (by omega)];exact k _ (by simp)
theorem IU{h:Z}{o:Nat}(v:CM h o)(b:Int)(F:0≤b)(G:b≤20):∃s h',R qN [.ptr o 0 0,.int .i64 b] h=some (.str s,h')∧CM h' o∧bY o h h'∧s.length≤80:=by
 suffices Wp (R qN [.ptr o 0 0,.int .i64 b] h) (λk=>∃s,k.1 = .str s∧CM k.2 o∧bY o h k.2∧s.length≤80) by
  obtain⟨⟨C,h'⟩,p,s,rfl,u⟩:=this;exact⟨s,h',p,u⟩
 rw[EP];have r:=cX (n:=b+1) (by omega) (by omega);simp only[xp,O,bS,eL,r];obtain⟨z,p,t,i,y,A,K⟩:=gR v (b+1) (by omega) (by omega);refine Wp.step t ?_;simp only[O];refine Wp.loop (λa j e=>∃s c,j=[.str s,.int .i64 a,c]∧CM e o∧bY o h e∧a≤20∧s.length+4*a≤80) (λf=>f.1 = .ext 0∧∃s c l,f.2.1=[.str s,c,l]∧CM f.2.2 o∧bY o h f.2.2∧s.length≤80) z.toNat ⟨[],.any,by rw[Int.toNat_of_nonneg A],i,y,by omega,by simp;omega⟩ ?_ ?_
 ·rintro a j e ⟨s,c,rfl,d,g,E,q⟩;simp only[xq,cL,dT,O,eM];refine Wp.eY ?_ ?_
  ·intro m;have m:0<(a:Int):=by simpa using m
   simp only[IF,O];refine jH d Ai 4 (by decide) (by decide) (by decide) λI D i x _ H=>?_
   simp only[O];refine lH _ (by omega) (by omega) λB r=>?_
   have w:IntKind.wrap .i64 ((a:Int) - 1)=((a - 1:Nat):Int):=by
    rw[cX (by omega) (by omega)];omega
   simp only[O,fh,w];exact .some (.inl ⟨rfl,a - 1,by omega,B,_,rfl,i,g.trans x,by omega,by omega⟩)
  ·intro _;exact .some (.inr ⟨by simp,rfl,s,_,_,rfl,d,g,by omega⟩)
 ·rintro⟨C,j,e⟩ ⟨rfl,s,c,l,rfl,d,g,q⟩;simp only[fb,dW,cL,O,cS];exact .some ⟨s,rfl,d,g,q⟩
theorem IQ{h:Z}{o:Nat}(v:CM h o):∃s h',R qM [.ptr o 0 0] h=some (.str s,h')∧CM h' o∧bY o h h'∧s.length≤200:=by
 suffices Wp (R qM [.ptr o 0 0] h) (λg=>∃s,g.1 = .str s∧CM g.2 o∧bY o h g.2∧s.length≤200) by
  obtain⟨⟨B,h'⟩,m,s,rfl,u⟩:=this;exact⟨s,h',m,u⟩
 rw[EN];simp only[xn,O,bS,Ia,Ic,Ig,Ii,Ik,Im,Ip,Ir,Iu,Iw,Iy,IA,IC,IE];obtain⟨y,m,l,e,a,z,A⟩:=gR v 8 (by omega) (by omega);refine Wp.step l ?_;clear l;simp only[gi,O];have f:∀(s:aG) (c:Z),CM c o→bY o h c→s.length≤200→Wp (some ((.str s:D),c)) (λg=>∃s,g.1 = .str s∧CM g.2 o∧bY o h g.2∧s.length≤200):=λs c n p q =>.some ⟨s,rfl,n,p,q⟩
 refine Wp.eY (λ_=>?_) (λ_=>?_)
 ·repeat first
    | (refine jH (by assumption) _ 8 (by decide) (by decide) (by decide) λj c e b _ i=>?_
       replace a:=a.trans b;clear b
       try simp only[O])
    | (refine lH _ (by first|omega|(simp[-Ma];omega)|simp[-Ma]) (by first|omega|(simp[-Ma];omega)|simp[-Ma]) λk d=>?_
       try simp only[e8,fB]at d
       try simp only[O])
  try simp only[cS]
  exact f _ _ (by assumption) a (by omega)
 refine Wp.eY (λ_=>?_) (λ_=>?_)
 ·repeat first
    | (refine jH (by assumption) _ 8 (by decide) (by decide) (by decide) λj c e b _ i=>?_
       replace a:=a.trans b;clear b
       try simp only[O])
    | (refine lH _ (by first|omega|(simp[-Ma];omega)|simp[-Ma]) (by first|omega|(simp[-Ma];omega)|simp[-Ma]) λk d=>?_
       try simp only[e8,fB]at d
       try simp only[O])
  try simp only[cS]
  exact f _ _ (by assumption) a (by omega)
 refine Wp.eY (λ_=>?_) (λ_=>?_)
 ·repeat first
    | (refine jH (by assumption) _ 8 (by decide) (by decide) (by decide) λj c e b _ i=>?_
       replace a:=a.trans b;clear b
       try simp only[O])
    | (refine lH _ (by first|omega|(simp[-Ma];omega)|simp[-Ma]) (by first|omega|(simp[-Ma];omega)|simp[-Ma]) λk d=>?_
       try simp only[e8,fB]at d
       try simp only[O])
  try simp only[cS]
  exact f _ _ (by assumption) a (by omega)
 refine Wp.eY (λ_=>?_) (λ_=>?_)
 ·repeat first
    | (refine jH (by assumption) _ 8 (by decide) (by decide) (by decide) λj c e b _ i=>?_
       replace a:=a.trans b;clear b
       try simp only[O])
    | (refine lH _ (by first|omega|(simp[-Ma];omega)|simp[-Ma]) (by first|omega|(simp[-Ma];omega)|simp[-Ma]) λk d=>?_
       try simp only[e8,fB]at d
       try simp only[O])
  try simp only[cS]
  exact f _ _ (by assumption) a (by omega)
 refine Wp.eY (λ_=>?_) (λ_=>?_)
 ·repeat first
    | (refine jH (by assumption) _ 8 (by decide) (by decide) (by decide) λj c e b _ i=>?_
       replace a:=a.trans b;clear b
       try simp only[O])
    | (refine lH _ (by first|omega|(simp[-Ma];omega)|simp[-Ma]) (by first|omega|(simp[-Ma];omega)|simp[-Ma]) λk d=>?_
       try simp only[e8,fB]at d
       try simp only[O])
  try simp only[cS]
  exact f _ _ (by assumption) a (by omega)
 refine Wp.eY (λ_=>?_) (λ_=>?_)
 ·repeat first
    | (refine jH (by assumption) _ 8 (by decide) (by decide) (by decide) λj c e b _ i=>?_
       replace a:=a.trans b;clear b
       try simp only[O])
    | (refine lH _ (by first|omega|(simp[-Ma];omega)|simp[-Ma]) (by first|omega|(simp[-Ma];omega)|simp[-Ma]) λk d=>?_
       try simp only[e8,fB]at d
       try simp only[O])
  try simp only[cS]
  exact f _ _ (by assumption) a (by omega)
 obtain⟨s,c,t,r,w,x⟩:=IU e 6 (by omega) (by omega);simp only[t,O,cS];exact f _ _ r (a.trans w) (by omega)
structure Sm (h0:Z) (o:Nat) (g:Z):Prop where
 lt:o<h0.length
 cd:CM g o
 gr:kr h0.length o h0 g
theorem Sm.refl{h:Z}{o:Nat}(a:CM h o):Sm h o h:=⟨a.lt,a,.refl _ _ _⟩
theorem Sm.next{a g g':Z}{o:Nat}(s:Sm a o g)(b:CM g' o)(c:bY o g g'):Sm a o g':=⟨s.lt,b,s.gr.trans c.grow⟩
theorem Sm.app{b g g':Z}{o:Nat}(s:Sm b o g)(d:g.length≤g'.length)(c:∀a,a<b.length→g'[a]?=g[a]?):Sm b o g':=⟨s.lt,s.cd.bA (c o s.lt),s.gr.trans ⟨d,λa e _=>c a e⟩⟩
theorem Sm.le{a g:Z}{o:Nat}(s:Sm a o g):a.length≤g.length:=s.gr.1
theorem Sm.scope{a g:Z}{o:Nat}(s:Sm a o g){d d':D}(f:bL a.length g 4 d=d')(h:Ok a.length d'):∃h',scope a g d=some (d',h')∧CM h' o∧bY o a h':=by
 obtain⟨b,c,e⟩:=Kp f h s.gr (s.cd.ok a.length);exact⟨_,b,s.cd.bA (e o s.lt),c⟩
def fF:Int→List dO→Int→Prop
 |a,[],b=>a=b
 |a,l::r,b=>l.off=a∧1≤l.len∧l.len≤20∧l.fS.length≤200∧fF (a+l.len) r b
theorem Am:∀(f:List dO) (a b:Int) (l:dO),fF a f b→l.off=b→1≤l.len→l.len≤20→l.fS.length≤200→fF a (f++[l]) (b+l.len)
 | [],a,b,l,h,c,h2,d,e=>by
  simp only[fF]at h;subst h;exact⟨c,h2,d,e,rfl⟩
 |x::r,a,b,l,h,c,h2,d,e=>⟨h.1,h.2.1,h.2.2.1,h.2.2.2.1,Am r _ b l h.2.2.2.2 c h2 d e⟩
theorem kD:∀(c:List dO) (a b:Int),fF a c b→a+c.length≤b∧b≤a+20*c.length
 |[],a,b,h=>by simp[-Ma,fF]at h;simp[-Ma];omega
 | x::r,a,b,h=>by
  have:=kD r _ b h.2.2.2.2;have:=h.2.1;have:=h.2.2.1;simp only[e8];omega
theorem HB{h:Z}{a T z:Nat}{cs:List D}(c:h[a]?=some (.row T z [cs]))(b:cs.length=3):aA tab h bW (.ptr a 0 0)=some (.agg cs):=by
 rw[HF,eI c];simp[-Ma,mj,b];exact gK (by omega)
theorem la(g:Z)(T z:Nat)(rows:List (List D)):(aK g T z rows)[g.length]?=some (.row T z rows):=by simp[-Ma,aK]
theorem lf(g:Z)(T z:Nat)(rows:List (List D)){a:Nat}(b:a<g.length):(aK g T z rows)[a]?=g[a]?:=by
 simp only[aK];rw[dS b]
theorem hQ(g:Z)(T z:Nat)(rows:List (List D)):(aK g T z rows).length=g.length+1:=by simp[-Ma,aK]
theorem IP{h:Z}{o:Nat}(ac:CM h o)(fr:Int)(ba:0≤fr)(bb:fr≤1000000)(p:Int)(bg:1≤p)(bh:p≤10):∃x h',R qL [.ptr o 0 0,.int .i64 fr,.int .i64 p,.bool true] h=some (x,h')∧CM h' o∧bY o h h'∧∃b e,aV 3 cN b x∧fF fr b e∧1≤b.length∧b.length≤p.toNat:=by
 suffices Wp (R qL [.ptr o 0 0,.int .i64 fr,.int .i64 p,.bool true] h) (λP=>CM P.2 o∧bY o h P.2∧∃b e,aV 3 cN b P.1∧fF fr b e∧1≤b.length∧b.length≤p.toNat) by
  obtain⟨⟨x,h'⟩,X,ao⟩:=this;exact⟨x,h',X,ao⟩
 rw[EL];simp only[xk,O,bS];obtain⟨H,X,u,I,F,bk,bl⟩:=gR ac p (by omega) (by omega);have r:=(Sm.refl ac).next I F;refine Wp.step u ?_;clear u;have az:=cX (n:=1+H) (by omega) (by omega);simp only[eL,az,O];refine Wp.loop (λk K v=>∃(d:Int) (x i s t:D) (b:List dO),K=[.int .i64 d,x,.int .i64 k,i,s,t]∧Sm h o v∧Own v h.length bW 3 (b.map cN) x∧fF fr b d∧b.length+k=(1+H).toNat)
  (λE=>E.1 = .ext 0∧∃(i x s t S e:D) (d:Int) (b:List dO),E.2.1=[i,x,s,t,S,e]∧Sm h o E.2.2∧Own E.2.2 h.length bW 3 (b.map cN) x∧fF fr b d∧b.length=(1+H).toNat)
  (1+H).toNat ⟨fr,.J,.any,.any,.any,[],by rw[Int.toNat_of_nonneg (by omega)],r,Own.J _ _ _ _,rfl,by simp⟩ ?_ ?_
 ·rintro k K v ⟨d,x,i,s,t,b,rfl,m,f,y,bc⟩;simp only[xl,cL,dT,O,eM];refine Wp.eY ?_ ?_
  ·intro w;have w:0<(k:Int):=by simpa using w
   have a9:=kD _ _ _ y;obtain⟨j,c,u,I,F,bi,bj⟩:=gR m.cd 20 (by omega) (by omega);have r:=m.next I F;replace f:=f.same F m.lt;refine Wp.step u ?_;clear u;have a0:=cX (n:=1+j) (by omega) (by omega);have N:∀a,x.eN a→a<c.length:=λa g=>(f.lt g).2
   simp only[eL,a0,O,bS,yb,ye];generalize B:aK c bW 3 [[.int .i64 0,.int .i64 0,.str []]]=L;have ag:L[c.length]?=some (.row bW 3 [[.int .i64 0,.int .i64 0,.str []]]):=by rw[← B];exact la _ _ _ _
   have aa:∀a,a<c.length→L[a]?=c[a]?:=λa g=>by rw[← B];exact lf _ _ _ _ g
   have ae:L.length=c.length+1:=by rw[← B];exact hQ _ _ _ _
   clear B;have bf:=r.le;refine BK ag (by rfl) (by rfl) (by simp) (by rfl) λA q l=>?_
   replace q:A[c.length]?=some (.row bW 3 [[.int .i64 d,.int .i64 (1+j),.str []]]):=q;have ab:∀a,a<c.length→A[a]?=c[a]?:=λa g=>(l.2 a (by omega)).trans (aa a g)
   have ar:A.length=c.length+1:=l.1.trans ae;have Q:=r.app (by omega) λa g=>ab a (by omega)
   replace f:Own A h.length bW 3 (b.map cN) x:=f.bA λa _ g=>ab a (N a g)
   clear ag aa ae l;simp only[aQ,aL,bS,O];obtain⟨z,am,T,al,G,ay⟩:=IQ Q.cd;have ah:=Q.next al G;replace f:=f.same G m.lt;have av:o≠c.length:=λad=>by have:=r.lt;omega
   replace q:=(G.2 c.length (Ne.symm av)).trans q;have au:am.length=c.length+1:=G.1.trans ar;refine Wp.step T ?_;clear T;simp only[O,j9,dA];refine Lf q (by rfl) (by rfl) (by simp) (by rfl) λM C l=>?_
   replace C:M[c.length]?=some (.row bW 3 [cN ⟨d,1+j,z⟩]):=C;have be:M.length=c.length+1:=l.1.trans au;have ai:=ah.app (by omega) λa g=>l.2 a (by omega)
   replace f:Own M h.length bW 3 (b.map cN) x:=f.bA λa _ g=>l.2 a (by have:=N a g;omega)
   clear q l;simp only[O,dW,HB C rfl];rw[show bF tab cD 1 [0] [.agg (cN ⟨d,1+j,z⟩)]=some (.sl 3 true [cN ⟨d,1+j,z⟩])from id rfl];simp only[O];refine wb (by omega) f (lp _ _ _ _) (by simp;omega) λa7 an a4 a3 ak a2 _=>?_
   have aj:=ai.app a3 ak;have a5:=(a2 c.length (by omega) (λad=>by have:=N _ ad;omega)).trans C;have a6:an.row c.length 0=some (cN ⟨d,1+j,z⟩):=eI a5;have a1:=cX (n:=d+(1+j)) (by omega) (by omega);have aq:IntKind.wrap .i64 ((k:Int) - 1)=((k - 1:Nat):Int):=by
    rw[cX (by omega) (by omega)];omega
   simp only[O,j8,dA,fE,a6,cN,hX,hF,iX,eL,a1,fh,aq];exact .some (.inl ⟨rfl,k - 1,by omega,d+(1+j),a7,_,_,_,b++[⟨d,1+j,z⟩],rfl,aj,by rw[jm];exact a4,Am _ _ _ _ y rfl (by simp;omega) (by simp;omega) (by simpa using ay),by simp;omega⟩)
  ·intro w;have w:¬0<(k:Int):=by simpa using w
   exact .some (.inr ⟨by simp,rfl,_,x,_,_,_,_,d,b,rfl,m,f,y,by omega⟩)
 ·rintro⟨a8,K,v⟩ ⟨rfl,i,x,s,t,S,e,d,b,rfl,m,f,y,bd⟩;simp only[fb,dW,cL,dT,O,cS];have af:=l9 (n:=3) f (aT _) (λi _=>qY _ v _ i);obtain⟨h',aw,ap,ax⟩:=m.scope rfl (km af λi _=>ve _ i);rw[aw];exact .some ⟨ap,ax,b,d,af,y,by omega,by omega⟩
def MF(l:List (aG × aG)):Prop:=(l.map (·.1)).Sublist jf∧∀a∈l,a.2∈nj
theorem IM{h:Z}{o:Nat}(t:CM h o):∃x h',R qK [.ptr o 0 0] h=some (x,h')∧CM h' o∧bY o h h'∧∃l,aV 2 aW l x∧MF l:=by
 suffices Wp (R qK [.ptr o 0 0] h) (λe=>CM e.2 o∧bY o h e.2∧∃l,aV 2 aW l e.1∧MF l) by
  obtain⟨⟨x,h'⟩,y,I⟩:=this;exact⟨x,h',y,I⟩
 rw[EK];simp only[xi,O,bS,H7,HG,fY,H6];refine Wp.loop (λu s c=>∃x d m p,∃(a:Nat) (l:List (aG × aG)),s=[x,d,.int .i64 a,m,p]∧Sm h o c∧u+a=4∧Own c h.length bG 2 (l.map aW) x∧(l.map (·.1)).Sublist (jf.take a)∧∀e∈l,e.2∈nj)
  (λk=>k.1 = .ext 0∧∃x d m p w l,k.2.1=[x,d,m,p,w]∧Sm h o k.2.2∧Own k.2.2 h.length bG 2 (l.map aW) x∧MF l) 4 ⟨.J,.any,.any,.any,0,[],rfl,.refl t,rfl,Own.J _ _ _ _,by simp,by simp⟩ ?_ ?_
 ·rintro u s c ⟨x,d,m,p,a,l,rfl,f,ac,b,j,q⟩;have S:IntKind.wrap .i64 ((a:Int)+1)=(a+1:Nat):=by
   rw[cX (by omega) (by omega)];omega
  simp only[xj,cL,dT,O,bS,dZ];refine Wp.eY ?_ ?_
  ·intro g;have g:a<4:=jd g;have z:jf[a]?=some jf[a]:=cA g;simp only[zL,nR,aL,e7,dG,z,gC,O,jC];obtain⟨ae,y,G,E,B,af,ag⟩:=gR f.cd 3 (by omega) (by omega);have r:=f.next E B;replace b:=b.same B t.lt;refine Wp.step G ?_;simp only[eM,O];refine Wp.join (P:=λk=>∃x c,∃l:List (aG × aG),k=(.aO,[x],c)∧Sm h o c∧Own c h.length bG 2 (l.map aW) x∧(l.map (·.1)).Sublist (jf.take (a+1))∧∀e∈l,e.2∈nj) ?_ ?_ ?_
   ·intro _;simp only[H8,O];refine jH r.cd nj 8 (by decide) (by decide) (by decide) λX ab F C Q _=>?_
    have v:=r.next F C;replace b:=b.same C t.lt;simp only[O,CQ,CZ];have ad:l.length≤4:=by
     have:=j.length_le;simp at this;omega
    refine K6 v.le b (lp _ _ _ _) (by simp;omega) λaa H b T D _ _=>?_
    simp only[O];refine .some ⟨aa,H,l++[(jf[a],X)],rfl,v.app T D,by rw[jm];exact b,?_,?_⟩
    ·rw[jq,z,jm];exact j.append (List.Sublist.refl _)
    ·intro e i;rcases fZ.1 i with i|i
     ·exact q e i
     ·simp at i;subst i;exact Q
   ·intro _;refine .some ⟨_,_,l,rfl,r,b,j.trans ?_,q⟩;rw[jq];exact List.sublist_append_left _ _
   ·rintro _ ⟨x,c,l,rfl,f,b,j,q⟩;simp only[nF,dW,cL,eL,O,S];exact .some (.inl ⟨rfl,u - 1,by omega,x,_,_,_,a+1,l,rfl,f,by omega,b,j,q⟩)
  ·intro g;have g:¬a<4:=by
    have:¬(a:Int)<4:=by simpa using g
    omega
   refine .some (.inr ⟨by simp,rfl,x,_,_,_,_,l,rfl,f,b,j.trans (List.take_sublist _ _),q⟩)
 ·rintro⟨x,s,c⟩ ⟨rfl,x,d,m,p,w,l,rfl,f,b,L⟩;simp only[fb,dW,cL,O,cS];have A:=l9 (n:=3) b (aT _) (λd _=>zj _ c _ d);obtain⟨h',M,K,N⟩:=f.scope rfl (km A λd _=>tg _ d);exact⟨_,M,K,N,l,A,L⟩
structure nJ (e:Ev):Prop where
 h0:0≤e.a0
 h2:e.a0≤2
 f0:0≤e.a1
 f2:e.a1≤2
 a0:0≤e.a2
 a9:e.a2≤100
 ch:fF e.a2 e.ls e.a3
 l1:1≤e.ls.length
 l3:e.ls.length≤3
 t0:0≤e.a5
 t9:e.a5≤255000
 wt:e.a6∈ng
 tr:e.s7∈nh
 st:e.s8∈ni
 fs:MF e.fs
theorem IJ{h:Z}{o:Nat}(a4:CM h o):∃e h',R qD [.ptr o 0 0] h=some (.agg (bR e),h')∧CM h' o∧bY o h h'∧nJ e:=by
 suffices Wp (R qD [.ptr o 0 0] h) (λaa=>∃e,aa.1 = .agg (bR e)∧CM aa.2 o∧bY o h aa.2∧nJ e) by
  obtain⟨⟨ad,h'⟩,y,e,rfl,z⟩:=this;exact⟨e,h',y,z⟩
 have c3:=a4.lt;rw[Eo];simp only[wU,O,bS,H3,H4,H5];generalize A:aK h aF 10 [[.int .i64 0,.int .i64 0,.int .i64 0,.int .i64 0,.J,.int .i64 0,.int .i64 0,.str [],.str [],.J]]=K;have j:K[h.length]?=some (.row aF 10 [[.int .i64 0,.int .i64 0,.int .i64 0,.int .i64 0,.J,.int .i64 0,.int .i64 0,.str [],.str [],.J]]):=by rw[← A];exact la _ _ _ _
 have H:Sm h o K:=(Sm.refl a4).app (by rw[← A,hQ];omega) λa m=>by rw[← A];exact lf _ _ _ _ m
 have b4:K.length=h.length+1:=by rw[← A];exact hQ _ _ _ _
 clear A;obtain⟨p,ct,ar,ai,be,bo,cp⟩:=gR H.cd 3 (by omega) (by omega);refine Wp.step ar ?_;clear ar;simp only[O];obtain⟨q,cu,av,ak,bf,bp,cq⟩:=gR ai 3 (by omega) (by omega);refine Wp.step av ?_;clear av;simp only[O];obtain⟨i,cw,aw,al,bg,cn,cr⟩:=gR ak 6 (by omega) (by omega);refine Wp.step aw ?_;clear aw;simp only[O,lL,cX (n:=10*i) (by omega) (by omega)];obtain⟨k,cx,ax,am,bh,co,cs⟩:=gR al 256 (by omega) (by omega);refine Wp.step ax ?_;clear ax;simp only[O,lL,cX (n:=1000*k) (by omega) (by omega)];obtain⟨cm,cy,ay,an,bi,ah,bq⟩:=gR am 4 (by omega) (by omega);obtain⟨u,ch,b1⟩:=AM ng cm ah bq;refine Wp.step ay ?_;clear ay;simp only[O,zK,ah,aL,dG,b1,gC,fk];refine jH an nh 8 (by decide) (by decide) (by decide) λt cz ao bj ce _=>?_
 simp only[O];refine jH ao ni 8 (by decide) (by decide) (by decide) λsm c0 ap bk cb _=>?_
 simp only[O];obtain⟨r,l,az,aq,bl,a0,ba,a5⟩:=IM ap;refine Wp.step az ?_;clear az;have ci:=rz ba;simp only[O,CS _ _ _ _ _ _ _ r ci,lK];have G:=((((((be.trans bf).trans bg).trans bh).trans bi).trans bj).trans bk).trans bl;have ag:=H.next aq G;replace j:=(G.2 h.length (by omega)).trans j;have a9:l.length=h.length+1:=G.1.trans b4;clear H ai ak al am an ao ap be bf bg bh bi bj bk bl G;generalize F:aK l aF 10 [[.int .i64 0,.int .i64 0,.int .i64 0,.int .i64 0,.J,.int .i64 0,.int .i64 0,.str [],.str [],.J]]=M;have bb:M[l.length]?=some (.row aF 10 [[.int .i64 0,.int .i64 0,.int .i64 0,.int .i64 0,.J,.int .i64 0,.int .i64 0,.str [],.str [],.J]]):=by rw[← F];exact la _ _ _ _
 have a3:∀a,a<l.length→M[a]?=l[a]?:=λa m=>by rw[← F];exact lf _ _ _ _ m
 have b6:M.length=l.length+1:=by rw[← F];exact hQ _ _ _ _
 clear F;refine pH bb (by rfl) (by rfl) (by simp) (by rfl) λE s b=>?_
 replace s:E[l.length]?=some (.row aF 10 [[.int .i64 p,.int .i64 q,.int .i64 (10*i),.int .i64 0,.J,.int .i64 (1000*k),.int .i64 u,.str t,.str sm,r]]):=s;have N:∀a,a<l.length→E[a]?=l[a]?:=λa m=>(b.2 a (by omega)).trans (a3 a m)
 have a7:E.length=h.length+2:=by have:=b.1;omega
 have I:=ag.app (by omega) λa m=>N a (by omega)
 replace j:=(N h.length (by omega)).trans j;rw[a9]at s ⊢;clear bb a3 b6 b N ag aq a9;have bd:E.row (h.length+1) 0=some [.int .i64 p,.int .i64 q,.int .i64 (10*i),.int .i64 0,.J,.int .i64 (1000*k),.int .i64 u,.str t,.str sm,r]:=eI s;simp only[O,lP,dA,fE,bd,hX,hF,iX];obtain⟨x,br,au,aj,C,c,f,B,P,a6,b5⟩:=IP I.cd (10*i) (by omega) (by omega) 3 (by omega) (by omega);refine Wp.step au ?_;clear au bd;have ae:=I.next aj C;replace s:=(C.2 (h.length+1) (by omega)).trans s;replace j:=(C.2 h.length (by omega)).trans j;have a8:br.length=h.length+2:=C.1.trans a7;have X:=ns (rz B);simp only[O,qs,dA];refine we s (by rfl) (by rw[X.1];rfl) (by simp) X.2 λL w b=>?_
 rw[X.1]at w;replace w:L[h.length+1]?=some (.row aF 10 [[.int .i64 p,.int .i64 q,.int .i64 (10*i),.int .i64 0,x,.int .i64 (1000*k),.int .i64 u,.str t,.str sm,r]]):=w;have af:=ae.app (jX b.1.symm) λa m=>b.2 a (by omega)
 replace j:=(b.2 h.length (by omega)).trans j;have c2:L.length=h.length+2:=b.1.trans a8;clear I ae s b C aj a8 a7;have cl:L.row (h.length+1) 0=some [.int .i64 p,.int .i64 q,.int .i64 (10*i),.int .i64 0,x,.int .i64 (1000*k),.int .i64 u,.str t,.str sm,r]:=eI w;have b0:=kD _ _ _ P;have b8:∃g,c[((c.length:Int) - 1).toNat]?=some g∧g.off+g.len=f:=by
  clear b0 B;have ck:∀(c:List dO) (D f:Int),fF D c f→1≤c.length→∃g,c[c.length - 1]?=some g∧g.off+g.len=f:=by
   intro c
   induction c with
   |nil=>intro D f _ b3;simp at b3
   | cons ad bc cj =>
    intro D f T _;cases bc with
    | nil =>
     have bu:D+ad.len=f:=T.2.2.2.2;exact⟨ad,rfl,by rw[T.1];exact bu⟩
    | cons c4 bc =>
     obtain⟨g,y,z⟩:=cj _ f T.2.2.2.2 (by simp);exact⟨g,by simpa using y,z⟩
  obtain⟨g,y,z⟩:=ck c _ f P a6;exact⟨g,by rw[show((c.length:Int) - 1).toNat=c.length - 1 by omega];exact y,z⟩
 obtain⟨g,b2,b7⟩:=b8;have cf:=cX (n:=(c.length:Int) - 1) (by omega) (by omega);have cg:=cX (n:=f) (by omega) (by omega);have b9:(0:Int)≤(c.length:Int) - 1:=by omega
 have bx:iG 3 (.agg (cN g))=some (.aE (cN g)):=qh 3 _ rfl;simp only[O,vb,cl,hX,hF,iX,k5 B,fh,cf,lY B,b9,aL,b2,gC,oV,bx];simp only[cN,za,zb,fk,O,eL,b7,cg,oo,dA];refine ko w (by rfl) (by rfl) (by simp) (by rfl) λbt ab b=>?_
 replace ab:bt[h.length+1]?=some (.row aF 10 [[.int .i64 p,.int .i64 q,.int .i64 (10*i),.int .i64 f,x,.int .i64 (1000*k),.int .i64 u,.str t,.str sm,r]]):=ab;have bm:=af.app (jX b.1.symm) λa m=>b.2 a (by omega)
 replace j:=(b.2 h.length (by omega)).trans j;clear w b af;simp only[O,qW ab rfl];refine pH j (by rfl) (by rfl) (by simp) (by rfl) λa1 ac b=>?_
 replace ac:a1[h.length]?=some (.row aF 10 [[.int .i64 p,.int .i64 q,.int .i64 (10*i),.int .i64 f,x,.int .i64 (1000*k),.int .i64 u,.str t,.str sm,r]]):=ac;have bn:=bm.app (jX b.1.symm) λa m=>b.2 a (by omega)
 simp only[O,qW ac rfl,cS];have c1:a0.length≤4:=by
  have:=a5.1.length_le;simpa using this
 generalize a2:(⟨p,q,10*i,f,c,x,1000*k,u,t,sm,a0,r,ba,by omega,B,by omega⟩:Ev)=v;have bw:bR v=[.int .i64 p,.int .i64 q,.int .i64 (10*i),.int .i64 f,x,.int .i64 (1000*k),.int .i64 u,.str t,.str sm,r]:=by rw[← a2];rfl
 have bv:nJ v:=by rw[← a2];exact⟨bo,by show p≤2;omega,bp,by show q≤2;omega,by show 0≤10*i;omega,by show 10*i≤100;omega,P,a6,b5,by show 0≤1000*k;omega,by show 1000*k≤255000;omega,ch,ce,cb,a5⟩
 rw[← bw];obtain⟨h',ca,bz,cc⟩:=bn.scope (d :=.agg (bR v)) (d' :=.agg (bR v)) (by
  rw[zu,l4 λd Q=>yX h.length a1 2 v d Q]) (.agg _ λd Q=>yY _ v d Q)
 rw[ca];exact .some ⟨v,rfl,bz,cc,bv⟩
theorem vG(n lo hi:Int)(h:Z):R m3 [.int .i64 n,.int .i64 lo,.int .i64 hi] h=some (.bool (decide (lo≤n)&&decide (n≤hi)),h):=by
 rw[Ec];by_cases a:lo≤n<;>simp[-Ma,wI,a]
def ki(e:Ev):Bool:=(decide (0≤e.a0)&&decide (e.a0≤999))&&((decide (0≤e.a1)&&decide (e.a1≤2147483646))&&(decide (0≤e.a2)&&(decide (e.a2<e.a3)&&decide (e.a3≤60000))))
theorem Bd(e:Ev)(h:Z):R qz [.agg (bR e)] h=some (.bool (ki e),h):=by
 rw[D8];have a:=vG e.a1 0 2147483646 h;simp only[wD,O,ma,bR,E1,E2,y8,j6,fk,vG e.a0,jb,eM,mR,ki];generalize (decide (0≤e.a0)&&decide (e.a0≤999))=b;generalize (decide (0≤e.a1)&&decide (e.a1≤2147483646))=c at a ⊢;generalize i:decide (0≤e.a2)=d;generalize j:decide (e.a2<e.a3)=f;generalize k:decide (e.a3≤60000)=g;cases b<;>cases c<;>cases d<;>cases f<;>cases g<;>simp[-Ma,a,i,j,k]
def k7(a b:Int):Int→List dO→Int
 |_,[]=>0
 |at_,l::r=>if l.off=at_∧¬l.len<1∧¬IntKind.wrap .i64 (a - at_)<l.len∧¬(r=[]∧l.len<IntKind.wrap .i64 (a - at_))then(if b<l.fS.length then 3 else k7 a b (IntKind.wrap .i64 (at_+l.len)) r)else 19
def hq(e:Ev)(a:Int):Int:=if e.ls.length=0 then 9 else if 40<e.ls.length then 4 else k7 e.a3 a e.a2 e.ls
theorem Be (e:Ev) (m:Int) (h:Z):R qA [.agg (bR e),.int .i64 m] h=some (.int .i64 (hq e m),h):=by
 apply Wp.val;have E:∀(c:Z) (u:Int),h.length≤c.length→(∀b,b<h.length→c[b]?=h[b]?)→scope h c (.int .i64 u)=some (.int .i64 u,h):=λc u w x=>kj (by simp) (.int _ _) w x
 rw[D9];simp only[wE,ma,O,bS,bR,y9,y8,jB,fk,k5 e.ih,gi,eM,cS];by_cases G:e.ls.length=0
 ·have v:(e.ls.length:Int)=0:=by omega
  simp only[v,dJ,aQ,aL,E h _ (aT _) (λ_ _=>rfl)];exact .some (by simp[-Ma,hq,G])
 by_cases ac:40<e.ls.length
 ·have v:¬(e.ls.length:Int)=0:=by omega
  have I:(40:Int)<(e.ls.length:Int):=by omega
  simp only[v,I,dJ,cT,aY,aR,aQ,aL,E h _ (aT _) (λ_ _=>rfl)];exact .some (by simp[-Ma,hq,G,ac])
 have v:¬(e.ls.length:Int)=0:=by omega
 have I:¬(40:Int)<(e.ls.length:Int):=by omega
 have aj:hq e m=k7 e.a3 m e.a2 e.ls:=by simp[-Ma,hq,G,ac]
 rw[aj];generalize ak:k7 e.a3 m e.a2 e.ls=z;simp only[v,I,dJ,cT,aY,aR,aQ,aL];refine Wp.loop (λD F c=>h.length≤c.length∧(∀b,b<h.length→c[b]?=h[b]?)∧∃T V X aa ab ai u,∃t:Int,∃d:Nat,F=[T,.int .i64 t,V,X,aa,.int .i64 d,ab,ai,u]∧D+d=e.ls.length∧k7 e.a3 m t (e.ls.drop d)=z)
   (λf=>h.length≤f.2.2.length∧(∀b,b<h.length→f.2.2[b]?=h[b]?)∧((f.1 = .ext 1∧z=0)∨(f.1 = .ret∧Y 0 f.2.1 = .int .i64 z))) e.ls.length ⟨aT _,λ_ _=>rfl,_,_,_,_,_,_,_,_,0,rfl,rfl,ak⟩ ?_ ?_
 ·rintro D F c ⟨al,K,T,V,X,aa,ab,ai,u,t,d,rfl,ao,a⟩;simp only[wF,cL,dT,O,bS,y9,j6,jB,fk,k5 e.ih,dZ];refine Wp.eY ?_ ?_
  ·intro s;have s:d<e.ls.length:=jd s;have ae:e.ls[d]?=some e.ls[d]:=cA s;have ag:=iU d (by omega);have k:IntKind.wrap .i64 ((e.ls.length:Int) - 1)=(e.ls.length:Int) - 1:=cX (by omega) (by omega);have M:(e.ls.drop (d+1)=[])↔(d:Int)=(e.ls.length:Int) - 1:=by
    rw[List.drop_eq_nil_iff];omega
   rw[jk s]at a;generalize e.ls[d]=f at ae a;generalize af:e.ls.drop (d+1)=ap at a M;simp only[lY e.ih,nR,aL,e7,ae,gC,O,oV];generalize C:aK c bW 3 [[.int .i64 0,.int .i64 0,.str []]]=H;have ah:H[c.length]?=some (.row bW 3 [[.int .i64 0,.int .i64 0,.str []]]):=by rw[← C];exact la _ _ _ _
   have ad:∀b,b<c.length→H[b]?=c[b]?:=λb N=>by rw[← C];exact lf _ _ _ _ N
   have am:H.length=c.length+1:=by rw[← C];exact hQ _ _ _ _
   clear C;refine BK ah (by rfl) (by rfl) (by simp) (by rfl) λA P Q=>?_
   replace P:A[c.length]?=some (.row bW 3 [cN f]):=P;have q:h.length≤A.length:=by have:=Q.1;omega
   have p:∀b,b<h.length→A[b]?=h[b]?:=λb N=>((Q.2 b (by omega)).trans (ad b (by omega))).trans (K b N)
   clear ah ad am Q K;have o:A.row c.length 0=some [.int .i64 f.off,.int .i64 f.len,.str f.fS]:=eI P;simp only[O,j7,j8,j9,dA,fE,kf,o,hX,hF,iX,fh,k,gi,dP,gW,eM,dZ];unfold k7 at a;by_cases i:f.off=t
   ·by_cases j:f.len<1
    ·rw[cI (λg=>g.2.1 j)]at a;simp only[i,j,eS,fw,cT,dJ,cY,aL,aR,aY,reduceCtorEq,O,cU,aQ,j6,fk,j7,j8,j9,dA,fE,kf,o,hX,hF,iX,fh,k,gi,dP,gW,eM,dZ];exact .some (.inr ⟨by simp,q,p,.inr ⟨rfl,by simp[-Ma,a]⟩⟩)
    ·by_cases l:IntKind.wrap .i64 (e.a3 - t)<f.len
     ·rw[cI (λg=>g.2.2.1 l)]at a;simp only[i,j,l,eS,fw,cT,dJ,cY,aL,aR,aY,reduceCtorEq,O,cU,aQ,j6,fk,j7,j8,j9,dA,fE,kf,o,hX,hF,iX,fh,k,gi,dP,gW,eM,dZ];exact .some (.inr ⟨by simp,q,p,.inr ⟨rfl,by simp[-Ma,a]⟩⟩)
     ·by_cases y:(d:Int)=(e.ls.length:Int) - 1
      ·have L:decide ((d:Int)=(e.ls.length:Int) - 1)=true:=by simpa using y
       by_cases r:f.len<IntKind.wrap .i64 (e.a3 - t)
       ·rw[cI (λg=>g.2.2.2 ⟨M.2 y,r⟩)]at a;simp only[i,j,l,L,eS,fw,hv,cT,dJ,cY,gP,aL,aR,aY,reduceCtorEq,O,cU,aQ,j6,fk,j7,j8,j9,dA,fE,kf,o,hX,hF,iX,fh,k,gi,dP,gW,eM,dZ,r];exact .some (.inr ⟨by simp,q,p,.inr ⟨rfl,by simp[-Ma,a]⟩⟩)
       ·rw[bN ⟨i,j,l,λg=>r g.2⟩]at a;by_cases n:m<(f.fS.length:Int)
        ·rw[bN n]at a;simp only[i,j,l,L,eS,fw,hv,cT,dJ,cY,gP,aL,aR,aY,reduceCtorEq,O,cU,aQ,j6,fk,j7,j8,j9,dA,fE,kf,o,hX,hF,iX,fh,k,gi,dP,gW,eM,dZ,r,n];exact .some (.inr ⟨by simp,q,p,.inr ⟨rfl,by simp[-Ma,a]⟩⟩)
        ·rw[cI n]at a;simp only[i,j,l,L,eS,fw,hv,cT,dJ,cY,gP,aL,aR,aY,reduceCtorEq,O,cU,aQ,j6,fk,j7,j8,j9,dA,fE,kf,o,hX,hF,iX,fh,k,gi,dP,gW,eM,dZ,r,n,eL,ag];exact .some (.inl ⟨rfl,D - 1,by omega,q,p,_,_,_,_,_,_,_,_,d+1,rfl,by omega,by rw[af];exact a⟩)
      ·rw[bN ⟨i,j,l,λg=>y (M.1 g.1)⟩]at a;have r:True:=trivial;by_cases n:m<(f.fS.length:Int)
       ·rw[bN n]at a;simp only[i,j,l,y,eS,fw,hv,cT,dJ,cY,gP,aL,aR,aY,reduceCtorEq,O,cU,aQ,j6,fk,j7,j8,j9,dA,fE,kf,o,hX,hF,iX,fh,k,gi,dP,gW,eM,dZ,r,n];exact .some (.inr ⟨by simp,q,p,.inr ⟨rfl,by simp[-Ma,a]⟩⟩)
       ·rw[cI n]at a;simp only[i,j,l,y,eS,fw,hv,cT,dJ,cY,gP,aL,aR,aY,reduceCtorEq,O,cU,aQ,j6,fk,j7,j8,j9,dA,fE,kf,o,hX,hF,iX,fh,k,gi,dP,gW,eM,dZ,r,n,eL,ag];exact .some (.inl ⟨rfl,D - 1,by omega,q,p,_,_,_,_,_,_,_,_,d+1,rfl,by omega,by rw[af];exact a⟩)
   ·rw[cI (λg=>i g.1)]at a;simp only[i,eS,hv,cT,dJ,cY,aL,aR,aY,reduceCtorEq,O,cU,aQ,j6,fk,j7,j8,j9,dA,fE,kf,o,hX,hF,iX,fh,k,gi,dP,gW,eM,dZ];exact .some (.inr ⟨by simp,q,p,.inr ⟨rfl,by simp[-Ma,a]⟩⟩)
  ·intro s;have s:¬d<e.ls.length:=by
    have:¬(d:Int)<e.ls.length:=by simpa using s
    omega
   rw[nS (by omega)]at a;exact .some (.inr ⟨by simp,al,K,.inl ⟨rfl,a.symm⟩⟩)
 ·rintro⟨an,F,c⟩ ⟨w,x,B⟩;simp only at w x B;rcases B with⟨rfl,rfl⟩|⟨rfl,B⟩
  ·simp only[fb,dW,O,cS,E c 0 w x];exact .some rfl
  ·simp only[nG,nE,m1,cL,O,B,cS,E c z w x];exact .some rfl
def dn{b:Type}(c:b→b→Int)(a:Nat):Nat→List b→List b
 |0,l=>l
 | j+1,l=>match l[j+1]?,l[j]? with
  |some x,some y=>if a<j+1∧c x y<0 then dn c a j ((l.set (j+1) y).set j x)else l
  |_,_=>l
theorem sZ{b:Type}(c:b→b→Int)(a:Nat):∀(j:Nat) (l:List b),(dn c a j l).length=l.length
 |0,l=>rfl
 | j+1,l=>by
  unfold dn;split
  ·split
   ·rw[sZ c a j];simp[-Ma]
   ·rfl
  ·rfl
def gV{b:Type}(c:b→b→Int)(a:Nat):Nat→Nat→List b→List b
 |_,0,l=>l
 |i,n+1,l=>gV c a (i+1) n (dn c a i l)
theorem u1{b:Type}(c:b→b→Int)(a:Nat):∀(n i:Nat) (l:List b),(gV c a i n l).length=l.length
 |0,i,l=>rfl
 | n+1,i,l=>by
  unfold gV;rw[u1 c a n,sZ]
theorem Bo{a:Type}(f:a→List D)(l:List a)(i:Nat)(x:a):(l.map f).set i (f x)=(l.set i x).map f:=by rw[List.map_set]
theorem u9{h:Z}{a k T z:Nat}{rows:List (List D)}{p:aG × aG}(c:h[a]?=some (.row T z rows))(b:rows[k]?=some (aW p)):aA tab h bG (.ptr a k 0)=some (.agg (aW p)):=by
 rw[HC,eI c,b];rfl
theorem Ho (c:aG × aG→aG × aG→Int) (A:D) (L:∀x y g,gh R A [.agg (aW x),.agg (aW y)] g=some (.int .i64 (c x y),g)) (f N a:Nat) (ag:N≤1000000000) {H:Type} {z:bP→Option H} {Q:H→Prop}
  (l:List (aG × aG)) (m:l.length=N) (j:Nat) (u:j<N) (h:Z) (e:h[f]?=some (.row bG 2 (l.map aW))) (b:D)
  (k:∀x y h',h'[f]?=some (.row bG 2 ((dn c a j l).map aW))→bY f h h'→Wp (z (.ext 2,[x,y],h')) Q) :
  Wp ((bZ (r0 (.S 2 f 0 N) (.int .i64 a) A) [.int .i64 j,b] h).bind z) Q:=by
 generalize d:dn c a j l=p at k;refine Wp.loop (λw q g=>∃b,∃j:Nat,∃v:List (aG × aG),w=j∧q=[.int .i64 j,b]∧v.length=N∧j<N∧g[f]?=some (.row bG 2 (v.map aW))∧bY f h g∧dn c a j v=p)
  (λo=>o.1 = .ext 2∧(∃x y,o.2.1=[x,y])∧o.2.2[f]?=some (.row bG 2 (p.map aW))∧bY f h o.2.2) j ⟨b,j,l,rfl,rfl,m,u,e,.refl _ _,d⟩ ?_ ?_
 ·clear e m u d l j;rintro w q g ⟨b,j,l,rfl,rfl,m,u,e,sm,d⟩;simp only[r0,cL,dT,O,bS,eM];cases w with
  | zero =>
   have M:¬(a:Int)<((0:Nat):Int):=by omega
   have d:l=p:=d;subst d;simp only[M,cT,cY,fj,aY,aR,reduceCtorEq,O,cU,aQ];exact .some (.inr ⟨by simp,rfl,⟨_,_,rfl⟩,e,sm⟩)
  | succ j =>
   have r:l[j+1]?=some l[j+1]:=cA (by omega);have i:l[j]?=some l[j]:=cA (by omega);unfold dn at d;rw[r,i]at d;simp only at d;generalize l[j+1]=x at r d;generalize l[j]=y at i d;by_cases B:a<j+1
   ·have s:(a:Int)<((j+1:Nat):Int):=by omega
    have P:IntKind.wrap .i64 (((j+1:Nat):Int) - 1)=(j:Int):=by
     rw[cX (by omega) (by omega)];omega
    have T:(0:Int)≤((j+1:Nat):Int)∧((j+1:Nat):Int)<(N:Int):=by omega
    have C:(0:Int)≤(j:Int)∧(j:Int)<(N:Int):=by omega
    have E:(l.map aW)[j+1]?=some (aW x):=by rw[dG,r];rfl
    have V:(l.map aW)[j]?=some (aW y):=by rw[dG,i];rfl
    simp only[s,dJ,cY,fj,aL,zN,T,C,gv,dA,e7,fh,P,O,u9 e E,u9 e V,L,dZ,cU];by_cases n:c x y<0
    ·rw[bN ⟨B,n⟩]at d;simp only[n,dJ,aQ,aL];refine BJ e E (by rfl) (by simp[-Ma,aW]) (by rfl) λae F aa=>?_
     rw[show dF (aW x) 0 (bT (.agg (aW y)))=aW y from id rfl,Bo]at F;have X:((l.set (j+1) y).map aW)[j]?=some (aW y):=by
      rw[dG,hZ (by omega),i];rfl
     try simp only[O,C,gv,aL,dA,e7]
     refine BJ F X (by rfl) (by simp[-Ma,aW]) (by rfl) λaf G ab=>?_
     rw[show dF (aW y) 0 (bT (.agg (aW x)))=aW x from id rfl,Bo]at G
     try simp only[O]
     exact .some (.inl ⟨rfl,j,by omega,_,j,_,rfl,rfl,by simpa using m,by omega,G,(sm.trans aa).trans ab,d⟩)
    ·rw[cI (λt=>n t.2)]at d;subst d;simp only[n,cT,aQ,aY,aR];exact .some (.inr ⟨by simp,rfl,⟨_,_,rfl⟩,e,sm⟩)
   ·rw[cI (λt=>B t.1)]at d;subst d;have s:¬(a:Int)<((j+1:Nat):Int):=by omega
    simp only[s,cT,cY,fj,aY,aR,reduceCtorEq,O,cU,aQ];exact .some (.inr ⟨by simp,rfl,⟨_,_,rfl⟩,e,sm⟩)
 ·rintro⟨x,q,g⟩ ⟨rfl,⟨ac,ad,rfl⟩,I,K⟩;exact k ac ad g I K
theorem vI(c:aG × aG→aG × aG→Int)(m:D)(E:∀x y g,gh R m [.agg (aW x),.agg (aW y)] g=some (.int .i64 (c x y),g))(f N a b:Nat)(B:N≤1000000000)(P:a<b∨(a=b∧b≤N))(Q:b≤N)
  (l:List (aG × aG)) (F:l.length=N) (h:Z) (G:h[f]?=some (.row bG 2 (l.map aW))) :
  ∃d h',R kX [.S 2 f 0 N,.int .i64 a,.int .i64 b,m] h=some (d,h')∧h'[f]?=some (.row bG 2 ((gV c a (a+1) (b - (a+1)) l).map aW))∧bY f h h':=by
 suffices Wp (R kX [.S 2 f 0 N,.int .i64 a,.int .i64 b,m] h) (λv=>v.2[f]?=some (.row bG 2 ((gV c a (a+1) (b - (a+1)) l).map aW))∧bY f h v.2) by
  obtain⟨⟨x,h'⟩,p,q⟩:=this;exact⟨x,h',p,q⟩
 rw[yO];have H:=iU a (by omega);simp only[rY,O,bS,eL,H];generalize i:gV c a (a+1) (b - (a+1)) l=n;refine Wp.loop (λu o g=>∃w z A,∃e:Nat,∃j:List (aG × aG),o=[.int .i64 e,w,z,A]∧u=b - e∧j.length=N∧g[f]?=some (.row bG 2 (j.map aW))∧bY f h g∧gV c a e (b - e) j=n)
  (λr=>r.1 = .ext 0∧r.2.2[f]?=some (.row bG 2 (n.map aW))∧bY f h r.2.2) (b - (a+1)) ⟨_,_,_,a+1,l,rfl,rfl,F,G,.refl _ _,i⟩ ?_ ?_
 ·rintro u o g ⟨w,z,A,e,j,rfl,rfl,s,t,sm,i⟩;simp only[rZ,cL,dT,O,bS,dZ];refine Wp.eY ?_ ?_
  ·intro k;have k:e<b:=by
    have:(e:Int)<(b:Int):=by simpa using k
    omega
   have C:b - e=(b - (e+1))+1:=by omega
   rw[C]at i;unfold gV at i;have I:=iU e (by omega);refine Ho c m E f N a B j s e (by omega) g t _ λx y M K L=>?_
   simp only[fb,nF,dW,O,cL,eL,I];exact .some (.inl ⟨rfl,b - (e+1),by omega,_,_,_,e+1,_,rfl,rfl,by rw[sZ];exact s,K,sm.trans L,i⟩)
  ·intro k;have k:¬e<b:=by
    have:¬(e:Int)<(b:Int):=by simpa using k
    omega
   rw[show b - e=0 by omega]at i;have i:j=n:=i;subst i;exact .some (.inr ⟨by simp,rfl,t,sm⟩)
 ·rintro⟨x,o,g⟩ ⟨rfl,p,q⟩;simp only[fb,qq,O];exact .some ⟨p,q⟩
theorem yr:∀(a b:aG),Lib.compareBytes a b<0↔Op.bytesLess a b=true
 |[],[]=>by simp[-Ma,Lib.compareBytes,Op.bytesLess]
 |[],_::_=>by simp[-Ma,Lib.compareBytes,Op.bytesLess]
 |_::_,[]=>by simp[-Ma,Lib.compareBytes,Op.bytesLess]
 | x::a,y::b=>by
  have g:=yr a b;simp only[Lib.compareBytes,Op.bytesLess];by_cases c:x<y
  ·simp[-Ma,c]
  ·by_cases d:y<x
   ·have e:¬x=y:=λf=>by subst f;exact c d
    simp[-Ma,c,d,e]
   ·have e:x=y:=by
      apply UInt8.toNat_inj.1;have:=mt sF.2 c;have:=mt sF.2 d;omega
    subst e;simp[-Ma,c,g]
def cF(x y:aG × aG):Int:=Lib.compareBytes x.1 y.1
theorem J0(a b:aG)(h:Z):R tq [.str a,.str b] h=some (.int .i64 (Lib.compareBytes a b),h):=by
 rw[Ej];simp only[wP,O,En,wT,Lh,cS]
theorem JZ(x y:aG × aG)(h:Z):R lR [.agg (aW x),.agg (aW y)] h=some (.int .i64 (cF x y),h):=by
 rw[Ei];simp only[wO,O,ma,tb,tc,J0,cS,cF]
theorem C2(x y:aG × aG)(h:Z):gh R (.fn (.func lR) [] []) [.agg (aW x),.agg (aW y)] h=some (.int .i64 (cF x y),h):=by
 rw[sN];exact JZ x y h
theorem J3(c:aG × aG→aG × aG→Int)(e:D)(q:∀x y g,gh R e [.agg (aW x),.agg (aW y)] g=some (.int .i64 (c x y),g))(a N:Nat)(H:N≤20)
  (l:List (aG × aG)) (r:l.length=N) (h:Z) (w:h[a]?=some (.row bG 2 (l.map aW))) :
  ∃d h',R oA [.S 2 a 0 N,.int .i64 N,e] h=some (d,h')∧h'[a]?=some (.row bG 2 ((gV c 0 1 (N - 1) l).map aW))∧bY a h h':=by
 suffices Wp (R oA [.S 2 a 0 N,.int .i64 N,e] h) (λz=>z.2[a]?=some (.row bG 2 ((gV c 0 1 (N - 1) l).map aW))∧bY a h z.2) by
  obtain⟨⟨x,h'⟩,B,C⟩:=this;exact⟨x,h',B,C⟩
 rw[yN];simp only[rW,O,bS];refine Wp.loop (λt n g=>(t=1∧∃f,n=[.int .i64 0,.int .i64 20,f]∧g=h)∨(t=0∧N=20∧∃f,n=[.int .i64 20,.int .i64 40,f]∧g[a]?=some (.row bG 2 ((gV c 0 1 (N - 1) l).map aW))∧bY a h g))
  (λk=>k.1 = .ext 0∧∃(b:Nat) (f A:D),k.2.1=[.int .i64 b,f,A]∧((b=0∧k.2.2=h)∨(b=N∧k.2.2[a]?=some (.row bG 2 ((gV c 0 1 (N - 1) l).map aW))∧bY a h k.2.2))) 1 (.inl ⟨rfl,_,rfl,rfl⟩) ?_ ?_
 ·rintro t n g (⟨rfl,f,rfl,rfl⟩|⟨rfl,E,f,rfl,j,m⟩)
  ·simp only[pU,cL,dT,O,bS,mR];refine Wp.eY ?_ ?_
   ·intro i;have i:N=20:=by
     have:(20:Int)≤(N:Int):=by simpa using i
     omega
    obtain⟨d,h',p,j,m⟩:=vI c e q a N 0 20 (by omega) (by omega) (by omega) l r g w;have p:R kX [.S 2 a 0 N,.int .i64 0,.int .i64 20,e] g=some (d,h'):=p;simp only[p,O,eL,show IntKind.wrap .i64 ((20:Int)+20)=40 from rfl];exact .some (.inl ⟨rfl,0,by omega,.inr ⟨rfl,i,_,rfl,by rw[i];exact j,m⟩⟩)
   ·intro i;exact .some (.inr ⟨by simp,rfl,0,_,_,rfl,.inl ⟨rfl,rfl⟩⟩)
  ·have s:¬(40:Int)≤(N:Int):=by omega
   simp only[pU,cL,dT,O,bS,mR,s,cT,aQ,aY,aR];exact .some (.inr ⟨by simp,rfl,20,_,_,rfl,.inr ⟨E.symm,j,m⟩⟩)
 ·rintro⟨x,n,g⟩ ⟨rfl,b,f,A,rfl,F⟩;simp only[fb,dW,cL,dT,O];have G:∃d h',R kX [.S 2 a 0 N,.int .i64 b,.int .i64 N,e] g=some (d,h')∧h'[a]?=some (.row bG 2 ((gV c 0 1 (N - 1) l).map aW))∧bY a h h':=by
   rcases F with⟨rfl,rfl⟩|⟨rfl,j,m⟩
   ·exact vI c e q a N 0 N (by omega) (by omega) (by omega) l r g w
   ·obtain⟨d,h',u,o,v⟩:=vI c e q a b b b (by omega) (by omega) (by omega) _ (by rw[u1];exact r) g j;rw[show b - (b+1)=0 by omega]at o;exact⟨d,h',u,o,m.trans v⟩
  obtain⟨d,h',u,o,v⟩:=G;simp only[u,O];rw[ik];have s:¬(20:Int)<(N:Int):=by omega
  simp only[rX,cL,dT,O,bS,dZ,s,cT,aQ,aY,aR,fb,qq];exact .some ⟨o,v⟩
theorem JX(c:aG × aG→aG × aG→Int)(b:D)(f:∀x y g,gh R b [.agg (aW x),.agg (aW y)] g=some (.int .i64 (c x y),g))(a N:Nat)(e:N≤20)
  (l:List (aG × aG)) (i:l.length=N) (h:Z) (j:h[a]?=some (.row bG 2 (l.map aW))) :
  ∃d h',R oz [.S 2 a 0 N,b] h=some (d,h')∧h'[a]?=some (.row bG 2 ((gV c 0 1 (N - 1) l).map aW))∧bY a h h':=by
 obtain⟨d,h',k,m,n⟩:=J3 c b f a N e l i h j;refine⟨aD [],h',?_,m,n⟩;rw[yM];simp only[rV,O,z5,k]
theorem zM(cs:List D)(i:Int)(a:0≤i)(b:i<256)(c:i.toNat<cs.length):aM tab rF (.aE cs) (.int .u8 i)=some (.aE (cs.drop i.toNat)):=by
 have:=Ha (T:=tab) (t:=rF) (n:=256) (z:=1) (i:=vY) (j:=rD) (id rfl) (id rfl) (id rfl) (id rfl) (by omega) (cs:=cs) (k :=.u8) a b (by omega)
 rwa [Nat.mul_one]at this
theorem zQ:kA.length=256:=by decide
theorem u6:jA.length=256:=by simp[-Ma,jA,zQ]
theorem zR(i:Nat)(hi:i<256):∃z,jA.drop i = .int .u8 z::jA.drop (i+1)∧kA[i]?=some z:=by
 have b:=zQ;have a:=u6;refine⟨kA[i]'(by omega),?_,cA (by omega)⟩;rw[jk (by omega)];simp[-Ma,jA]
def zS(z:Int):Bool:=decide (IntKind.wrap .u8 (BitVec.ofInt IntKind.u8.bits z &&& BitVec.ofInt IntKind.u8.bits 2).toNat≠0)
def zT(z:Int):Bool:=decide (IntKind.wrap .u8 (BitVec.ofInt IntKind.u8.bits z &&& BitVec.ofInt IntKind.u8.bits 3).toNat≠0)
theorem zO:∀i:Fin 256,(kA[i.val]?).map zS=some (k6 i.val)∧(kA[i.val]?).map zT=some (sY i.val||k6 i.val):=by decide
theorem J2(c:UInt8)(h:Z):R tt [.int .u8 c.toNat] h=some (.bool (k6 c.toNat),h):=by
 have a:c.toNat<256:=c.toNat_lt;obtain⟨g,f,d⟩:=zR c.toNat a;have b:=(zO ⟨c.toNat,a⟩).1;simp only[d,gC,iZ]at b;have e:=u6;rw[El];simp only[wR,O,zM jA c.toNat (by omega) (by omega) (by rw[e];simpa using a),e7,f,z0,yx,dP,cS,← b,zS]
theorem vH(c:UInt8)(h:Z):R tu [.int .u8 c.toNat] h=some (.bool (pF c.toNat),h):=by
 have a:c.toNat<256:=c.toNat_lt;obtain⟨i,f,d⟩:=zR c.toNat a;have b:=(zO ⟨c.toNat,a⟩).2;simp only[d,gC,iZ]at b;have e:=u6;rw[Em];simp only[zT]at b;simp only[wS,O,zM jA c.toNat (by omega) (by omega) (by rw[e];simpa using a),e7,f,z0,yx,dP,gi,pF,b];cases g:(sY c.toNat||k6 c.toNat)<;>simp[-Ma]
theorem zU(s:aG)(h:Z)(u:Nat)(E:h[u]?=some (.row fa 1 (fV s)))(D:s.length≤9223372036854775807){y:Type}(n:bP→Option y)(X:Bool→Option y)(C:Z)
   (z:∀r,n (.ret,.bool false::r,h)=X false) (A:∀r,n (.ext 0,r,h)=X true):∀(i d:aG),s=d++i→∀a b e f,
   (bZ (mz (.S 1 u 0 s.length,C) (.int .i64 s.length)) [a,b,.int .i64 d.length,e,f] h).bind n=X (i.all kF):=by
 intro i
 induction i with
 | nil =>
  rintro d rfl a b e f;rw[ik];simp[-Ma,mz,A]
 | cons c i x =>
  rintro d rfl a b e f;have w:IntKind.wrap .i64 ((d.length:Int)+1)=(d++[c]).length:=by
   rw[cX (by omega) (by simp at D;omega)];simp[-Ma]
  have m:(d.length:Int)<(d++c::i).length:=by simp;omega
  rw[ik];generalize p:d++c::i=v at *;have B:(fV v)[d.length]?=some [.int .u8 c.toNat]:=by rw[← p];simp[-Ma,fV]
  have q:aA tab h fa (.ptr u d.length 0)=some (.int .u8 c.toNat):=by
   rw[HE,eI E,B];rfl
  have o:(0:Int)≤(d.length:Int)∧(d.length:Int)<(v.length:Int):=⟨by omega,m⟩
  cases j:pF c.toNat
  ·by_cases l:(c.toNat:Int)=46
   ·have:=x (d++[c]) (by simp[-Ma,← p]) a (.int .u8 c.toNat) (.bool true) (.bool false);simp only[← w]at this;have F:pF 46=false:=rfl;have g:=vH c h;rw[j]at g;have k:kF c=true:=by simp[-Ma,kF,j,l]
    have t:decide ((c.toNat:Int)≠46)=false:=by simp[-Ma,l]
    simp only[mz,cL,dT,O,dZ,m,dJ,aQ,aL,u5,o,gv,dA,e7,q,g,hd,hV,cY,dP,t,cU,aY,aR,eL,sd,k,rO];exact this
   ·have g:=vH c h;rw[j]at g;have k:kF c=false:=by simp[-Ma,kF,j,l]
    have t:decide ((c.toNat:Int)≠46)=true:=by simp[-Ma,l]
    simp only[mz,cL,dT,O,dZ,m,dJ,aQ,aL,u5,o,gv,dA,e7,q,g,hd,hV,cY,dP,t,cU,sd,k,Bool.false_and,z]
  ·have:=x (d++[c]) (by simp[-Ma,← p]) a (.int .u8 c.toNat) (.bool true) (.bool false);simp only[← w]at this;have g:=vH c h;rw[j]at g;have k:kF c=true:=by simp[-Ma,kF,j]
   simp only[mz,cL,dT,O,dZ,m,dJ,aQ,aL,u5,o,gv,dA,e7,q,g,hd,gn,cY,aY,aR,reduceCtorEq,cU,eL,sd,k,rO];exact this
theorem JW(s:aG)(h:Z):R tp [.str s] h=some (.bool (ig s),h):=by
 have q:∀(k:Z) (g:Bool),h.length≤k.length→(∀p,p<h.length→k[p]?=h[p]?)→scope h k (.bool g)=some (.bool g,h):=λk g x y=>kj (by simp) (.bool _) x y
 rw[Eh];cases s with
 | nil =>
  simp only[my,O,lM,lJ,cY,fj,reduceCtorEq,aR,cU,aL,aQ,cS,iV,q h _ (aT _) (λ_ _=>rfl)];rfl
 | cons a b =>
  have n:((a::b:aG)==[])=false:=by simp
  by_cases l:(32:Int)<((a::b).length:Int)
  ·have A:ig (a::b)=false:=by
     have:¬(a::b).length≤32:=by omega
     simp[-Ma,ig];intro C;simp at this;omega
   simp only[my,O,lM,n,cY,fj,aL,gW,eM,l,dJ,reduceCtorEq,aR,cU,aQ,cS,iV,aY,gP,kx,q h _ (aT _) (λ_ _=>rfl),A]
  ·have B:(a::b).length≤32:=by omega
   have i:=Kv (a::b) 0 a rfl;have i:lN tab bE (.str (a::b)) (.int .i64 0)=some (.int .u8 a.toNat):=i;have j:=J2 a h;have v:BG fa h (.str (a::b))=some (.S 1 h.length 0 (a::b).length,aK h fa 1 (fV (a::b))):=bN (kB (by omega) (by omega));have w:=la h fa 1 (fV (a::b));have o:∀g,scope h (aK h fa 1 (fV (a::b))) (.bool g)=some (.bool g,h):=λg=>q _ _ (by rw[hQ];omega) λp f=>lf _ _ _ _ f
   have r:∀(e:Bool),(k6 a.toNat||decide ((a.toNat:Int)=95))=e→ig (a::b)=(e&&(a::b).all kF):=λe z=>by
    simp only[ig,B,dJ,rO,z]
   cases f:k6 a.toNat
   ·rw[f]at j;by_cases m:(a.toNat:Int)=95
    ·have t:decide ((a.toNat:Int)≠95)=false:=by simp[-Ma,m]
     rw[r true (by simp[-Ma,f,m])];simp only[my,O,bS,lM,n,cY,fj,aL,gW,eM,l,cT,reduceCtorEq,aR,cU,aQ,aY,i,j,hd,hV,dP,t,v,z4];have:=zU (a::b) (aK h fa 1 (fV (a::b))) h.length w (by omega) (λc=>(some ((bO 0 c.1),[(Y 0 c.2.1),(Y 1 c.2.1),(Y 2 c.2.1),(Y 3 c.2.1),(Y 4 c.2.1)],c.2.2)).bind λd=>cP d.1 (scope h d.2.2 (.bool true)) λu=>dB u (scope h d.2.2 (aD [Y 0 d.2.1]))) (λe=>some (.bool e,h)) (aK h fa 1 (fV (a::b))) (λb=>by simp[-Ma,o]) (λb=>by simp[-Ma,o]) (a::b) [] rfl (.bool false) .any .any .any;simpa using this
    ·have t:decide ((a.toNat:Int)≠95)=true:=by simp[-Ma,m]
     rw[r false (by simp[-Ma,f,m])];simp only[my,O,lM,n,cY,fj,aL,gW,eM,l,cT,reduceCtorEq,aR,cU,aQ,aY,i,j,hd,hV,dP,t,cS,q h _ (aT _) (λ_ _=>rfl),Bool.false_and]
   ·rw[f]at j;rw[r true (by simp[-Ma,f])];simp only[my,O,bS,lM,n,cY,fj,aL,gW,eM,l,cT,reduceCtorEq,aR,cU,aQ,aY,i,j,hd,gn,v,z4,gP];have:=zU (a::b) (aK h fa 1 (fV (a::b))) h.length w (by omega) (λc=>(some ((bO 0 c.1),[(Y 0 c.2.1),(Y 1 c.2.1),(Y 2 c.2.1),(Y 3 c.2.1),(Y 4 c.2.1)],c.2.2)).bind λd=>cP d.1 (scope h d.2.2 (.bool true)) λu=>dB u (scope h d.2.2 (aD [Y 0 d.2.1]))) (λe=>some (.bool e,h)) (aK h fa 1 (fV (a::b))) (λb=>by simp[-Ma,o]) (λb=>by simp[-Ma,o]) (a::b) [] rfl (.bool false) .any .any .any;simpa using this
def g7(h:Z)(l:List (aG × aG))(d:D):Prop:=aV 2 aW l d∨∃a,d = .S 2 a 0 l.length∧h[a]?=some (.row bG 2 (l.map aW))
theorem rb{h:Z}{l:List (aG × aG)}{d:D}(a:g7 h l d):aX tab bI d=some (.int .i64 l.length):=by
 rcases a with a|⟨b,rfl,_⟩
 ·exact je a
 ·exact z5 _ _ _ _
theorem pq{h:Z}{l:List (aG × aG)}{d:D}(a:g7 h l d)(i:Nat)(p:aG × aG)(b:l[i]?=some p):∃c,aM tab bI d (.int .i64 i)=some c∧aA tab h bG c=some (.agg (aW p)) ∧
  ∃j,aC tab bG 0 c=some j∧aA tab h bE j=some (.str p.1):=by
 have m:=(bB.1 b).1;rcases a with a|⟨g,rfl,e⟩
 ·exact⟨.aE (aW p),by rw[qV a];simp[-Ma,b],tf p h,.aE (aW p),tb p,tc p h⟩
 ·have f:(l.map aW)[i]?=some (aW p):=by rw[dG,b];rfl
  have k:(0:Int)≤(i:Int)∧(i:Int)<(l.length:Int):=by omega
  refine⟨.ptr g i 0,by rw[zN];simp[-Ma,k],u9 e f,.ptr g i 0,by rw[E3],?_⟩;rw[kf,eI e,f];rfl
theorem g7.bA{h h':Z}{l:List (aG × aG)}{d:D}(a:g7 h l d)(f:∀(b T z:Nat) (rows:List (List D)),h[b]?=some (Ob.row T z rows)→h'[b]?=h[b]?):g7 h' l d:=by
 rcases a with a|⟨e,rfl,c⟩
 ·exact .inl a
 ·exact .inr ⟨e,rfl,by rw[f e _ _ _ c];exact c⟩
theorem K2(l:List (aG × aG))(d:D)(h:Z)(p:aV 2 aW l d)(u:l.length≤1000000):∃d' h',R tj [d] h=some (d',h')∧h.length≤h'.length∧(∀f,f<h.length→h'[f]?=h[f]?) ∧
  ((l=[]∧aV 2 aW [] d')∨∃a,h.length≤a∧d' = .S 2 a 0 l.length∧h'[a]?=some (.row bG 2 (l.map aW))):=by
 rw[D4];rcases p with⟨rfl,rfl⟩|⟨b,rfl⟩
 ·exact⟨.J,h,by
    have e:U tab .eql bI .J .J=some (.bool true):=id rfl;simp[-Ma,rS,e],aT _,λ_ _=>rfl,.inl ⟨rfl,.J _ _⟩⟩
 ·obtain⟨g,h',k,q,s,r⟩:=CE (T:=tab) (t:=bI) (i:=rB) (j:=pA) (h:=h) (id rfl) (id rfl) (id rfl) (by decide) (y :=.sl 2 b (l.map aW)) (lp _ _ _ _) (kB (by have:pA.fJ=32:=rfl;rw[this,fY];omega) (by rw[fY];omega));have m:dH tab h bI bI (.sl 2 true []) (.sl 2 b (l.map aW))=some (g,h'):=k;have e:U tab .eql bI (.sl 2 b (l.map aW)) .J=some (.bool false):=id rfl;refine⟨g,h',?_,q,s,?_⟩
  ·simp only[rS,O,e,aQ,aY,aR,CY,m,cS]
  ·rcases r with⟨rfl,c⟩|⟨rfl,c⟩|⟨a,n,rfl,o⟩
   ·have:l=[]:=by simpa using c
    exact .inl ⟨this,.inr ⟨true,rfl⟩⟩
   ·have:l=[]:=by simpa using c
    exact .inl ⟨this,.J _ _⟩
   ·exact .inr ⟨a,n,by rw[fY];rfl,o⟩
def mi(l:List (aG × aG)):List (aG × aG):=gV cF 0 1 (l.length - 1) l
theorem vT(l:List (aG × aG)):(mi l).length=l.length:=u1 _ _ _ _ _
def ku:List (aG × aG)→Bool
 |x::y::r=>y.1==x.1||ku (y::r)
 |_=>false
def fg(l:List (aG × aG)):Int × List (aG × aG):=if 32<l.length then(4,[])else if l.all (λa=>ig a.1)=true then(if ku (mi l)=true then(7,[])else(0,mi l))else(6,[])
theorem Hl(l:List (aG × aG))(d:D)(h:Z)(I:aV 2 aW l d)(M:l.length≤1000){F:Type}{o:bP→Option F}{Q:F→Prop}(a b c e f:D)
  (E:l.all (λp=>ig p.1)=true→∀x y z w,Wp (o (.ext 0,[a,b,x,y,z,w],h)) Q) (k2:¬l.all (λp=>ig p.1)=true→∀x y z w,Wp (o (.ret,[.J,.int .i64 6,x,y,z,w],h)) Q) :
  Wp ((bZ (rT d (.int .i64 l.length)) [a,b,c,.int .i64 0,e,f] h).bind o) Q:=by
 generalize G:l.all (λp=>ig p.1)=q at E k2;refine Wp.loop (λu r s=>s=h∧∃c e f,∃g:Nat,r=[a,b,c,.int .i64 g,e,f]∧u+g=l.length∧(l.drop g).all (λp=>ig p.1)=q)
   (λx=>x.2.2=h∧((x.1 = .ext 0∧q=true∧∃p k m n,x.2.1=[a,b,p,k,m,n])∨(x.1 = .ret∧q=false∧∃p k m n,x.2.1=[.J,.int .i64 6,p,k,m,n]))) l.length ⟨rfl,_,_,_,0,rfl,rfl,G⟩ ?_ ?_
 ·rintro u r s ⟨rfl,c,e,f,g,rfl,L,i⟩;simp only[rT,cL,dT,O,bS,dZ];refine Wp.eY ?_ ?_
  ·intro j;have j:g<l.length:=jd j;have C:l[g]?=some l[g]:=cA j;have K:=iU g (by omega);rw[jk j]at i;generalize l[g]=x at C i;have H:iG 2 (.agg (aW x))=some (.aE (aW x)):=qh 2 _ rfl;simp only[qV I,nR,aL,e7,C,gC,O,tf,H,tb x,tc,JW,hd];simp only[sd]at i;cases B:ig x.1
   ·rw[B]at i;simp only[hV,aQ,aL];exact .some (.inr ⟨by simp,rfl,.inr ⟨rfl,i.symm,_,_,_,_,rfl⟩⟩)
   ·rw[B]at i;simp only[gn,aQ,aY,aR,eL,O,K];exact .some (.inl ⟨rfl,u - 1,by omega,rfl,_,_,_,g+1,rfl,by omega,i⟩)
  ·intro j;have j:l.length≤g:=by
    have:¬(g:Int)<l.length:=by simpa using j
    omega
   rw[nS j]at i;exact .some (.inr ⟨by simp,rfl,.inl ⟨rfl,i.symm,_,_,_,_,rfl⟩⟩)
 ·rintro⟨x,r,s⟩ ⟨v,A⟩;simp only at v A;subst v;rcases A with⟨rfl,t,p,k,m,n,rfl⟩|⟨rfl,t,p,k,m,n,rfl⟩
  ·exact E t _ _ _ _
  ·exact k2 (by rw[t];simp[-Ma]) _ _ _ _
theorem Hm(l:List (aG × aG))(d:D)(h:Z)(s:g7 h l d)(T:l.length≤1000){E:Type}{p:bP→Option E}{Q:E→Prop}(a b c e:D)
  (C:ku l=false→∀x y z,Wp (p (.ext 2,[a,b,x,y,z],h)) Q) (k2:ku l=true→∀x y z,Wp (p (.ret,[.J,.int .i64 7,x,y,z],h)) Q) :
  Wp ((bZ (rU d) [a,b,.int .i64 1,c,e] h).bind p) Q:=by
 generalize M:ku l=o at C k2;refine Wp.loop (λB q r=>r=h∧∃c e,∃f:Nat,q=[a,b,.int .i64 ((f+1:Nat):Int),c,e]∧B=l.length - f∧ku (l.drop f)=o)
   (λx=>x.2.2=h∧((x.1 = .ext 2∧o=false∧∃k m n,x.2.1=[a,b,k,m,n])∨(x.1 = .ret∧o=true∧∃k m n,x.2.1=[.J,.int .i64 7,k,m,n]))) l.length ⟨rfl,_,_,0,rfl,rfl,M⟩ ?_ ?_
 ·rintro B q r ⟨rfl,c,e,f,rfl,R,g⟩;simp only[rU,cL,dT,O,bS,rb s,dZ];refine Wp.eY ?_ ?_
  ·intro i;have i:f+1<l.length:=by
    have:((f+1:Nat):Int)<l.length:=by simpa using i
    omega
   have u:l[f+1]?=some l[f+1]:=cA i;have t:l[f]?=some l[f]:=cA (by omega);have N:IntKind.wrap .i64 (((f+1:Nat):Int)+1)=((f+1+1:Nat):Int):=by
    rw[cX (by omega) (by omega)];omega
   have P:IntKind.wrap .i64 (((f+1:Nat):Int) - 1)=(f:Int):=by
    rw[cX (by omega) (by omega)];omega
   rw[jk (show f<l.length by omega),jk i]at g;unfold ku at g;rw[← jk i]at g;generalize l[f+1]=x at u g;generalize l[f]=y at t g;obtain⟨X,G,_,r1,I,L⟩:=pq s (f+1) x u;obtain⟨V,F,_,aa,H,K⟩:=pq s f y t;simp only[G,F,I,H,L,K,O,fh,P,lM];cases A:(x.1==y.1)
   ·rw[A]at g;simp only[aQ,aY,aR,eL,O,N];exact .some (.inl ⟨rfl,l.length - (f+1),by omega,rfl,_,_,f+1,rfl,rfl,g⟩)
   ·rw[A]at g;simp only[aQ,aL];exact .some (.inr ⟨by simp,rfl,.inr ⟨rfl,g.symm,_,_,_,rfl⟩⟩)
  ·intro i;have i:l.length≤f+1:=by
    have:¬((f+1:Nat):Int)<l.length:=by simpa using i
    omega
   have j:o=false:=by
    rw[← g];have:(l.drop f).length≤1:=by simp;omega
    match l.drop f,this with
    |[],_=>rfl
    |[x],_=>rfl
   exact .some (.inr ⟨by simp,rfl,.inl ⟨rfl,j,_,_,_,rfl⟩⟩)
 ·rintro⟨x,q,r⟩ ⟨v,w⟩;simp only at v w;subst v;rcases w with⟨rfl,j,k,m,n,rfl⟩|⟨rfl,j,k,m,n,rfl⟩
  ·exact C j _ _ _
  ·exact k2 j _ _ _
theorem JY(d a:D)(h:Z)(g:aV 2 aW [] d):∃x,R oz [d,a] h=some (x,h):=by
 have i:aX tab bI d=some (.int .i64 0):=je g;have c:∃x,R kX [d,.int .i64 0,.int .i64 0,a] h=some (x,h):=by
  rw[yO];refine⟨aD [],?_⟩;simp only[rY,O,bS,eL,show IntKind.wrap .i64 ((0:Int)+1)=1 from rfl];rw[ik];simp[-Ma,rZ]
 obtain⟨x,c⟩:=c;have b:∃x,R oA [d,.int .i64 0,a] h=some (x,h):=by
  rw[yN];refine⟨aD [],?_⟩;simp only[rW,O,bS];rw[ik];have e:¬(20:Int)≤0:=by omega
  have f:¬(20:Int)<0:=by omega
  simp only[pU,cL,dT,O,mR,e,cT,aQ,aY,aR,fb,dW,c];rw[ik];simp only[rX,cL,dT,O,dZ,f,cT,aQ,aY,aR,fb,qq]
 obtain⟨j,b⟩:=b;refine⟨aD [],?_⟩;rw[yM];simp only[rV,O,i,b]
theorem JS(l:List (aG × aG))(d:D)(h:Z)(p:aV 2 aW l d)(C:l.length≤20):∃d' h',R ox [d] h=some (.bU [d',.int .i64 (fg l).1],h')∧h.length≤h'.length∧(∀a,a<h.length→h'[a]?=h[a]?)∧((fg l).1=0→g7 h' (fg l).2 d'):=by
 suffices Wp (R ox [d] h) (λm=>∃d',m.1 = .bU [d',.int .i64 (fg l).1]∧h.length≤m.2.length∧(∀a,a<h.length→m.2[a]?=h[a]?)∧((fg l).1=0→g7 m.2 (fg l).2 d')) by
  obtain⟨⟨b,h'⟩,e,d',rfl,c⟩:=this;exact⟨d',h',e,c⟩
 rw[Ed];have B:¬(32:Int)<(l.length:Int):=by omega
 have n:¬32<l.length:=by omega
 simp only[wJ,O,bS,je p,eM,B,cT,aQ,aY,aR];refine Hl l d h p (by omega) _ _ _ _ _ (λk b i r M=>?_) (λk b i r M=>?_)
 ·simp only[fb,dW,cL,dT,O];obtain⟨f,e,y,E,s,j⟩:=K2 l d h p (by omega);simp only[y,O];have H:∃b c,R oz [f,.fn (.func lR) [] []] e=some (b,c)∧h.length≤c.length∧(∀a,a<h.length→c[a]?=h[a]?)∧g7 c (mi l) f:=by
   rcases j with⟨rfl,j⟩|⟨w,N,rfl,F⟩
   ·obtain⟨b,I⟩:=JY f (.fn (.func lR) [] []) e j;exact⟨b,e,I,E,s,.inl j⟩
   ·obtain⟨b,c,K,L,x⟩:=JX cF (.fn (.func lR) [] []) (λb i A=>C2 b i A) w l.length C l rfl e F;refine⟨b,c,K,by have:=x.1;omega,λa G=>(x.2 a (by omega)).trans (s a G),.inr ⟨w,by rw[vT],L⟩⟩
  obtain⟨P,c,z,u,t,v⟩:=H;simp only[z,O];refine Hm (mi l) f c v (by rw[vT];omega) _ _ _ _ (λo b i r=>?_) (λo b i r=>?_)
  ·have g:fg l=(0,mi l):=by simp only[fg,n,aR,k,aL,o,aY]
   rw[g];simp only[fb,dW,O,q3];exact .some ⟨f,rfl,u,t,λ_=>v⟩
  ·have g:fg l=(7,[]):=by simp only[fg,n,aR,k,aL,o]
   rw[g];simp only[nG,nE,m1,cL,dT,O,q3];exact .some ⟨.J,rfl,u,t,λq=>by cases q⟩
 ·have g:fg l=(6,[]):=by simp only[fg,n,aR,k];rfl
  rw[g];simp only[nG,nE,m1,cL,dT,O,q3];exact .some ⟨.J,rfl,aT _,λ_ _=>rfl,λq=>by cases q⟩
theorem JT(l r:List (aG × aG))(d e:D)(h:Z)(y:g7 h l d)(z:g7 h r e)(M:l.length≤1000):R tm [d,e] h=some (.bool (decide (l=r)),h):=by
 apply Wp.val;rw[Ee];simp only[wK,O,bS,rb y,rb z,dP];by_cases k:(l.length:Int)=(r.length:Int)
 ·have N:l.length=r.length:=by omega
  simp only[k,eS,fw,cT,aQ,aY,aR];generalize F:decide (l=r)=g;refine Wp.loop (λp i j=>j=h∧∃s t u v,∃a:Nat,i=[s,t,.int .i64 a,u,v]∧p+a=r.length∧decide (l.drop a=r.drop a)=g)
   (λb=>b.2.2=h∧((b.1 = .ext 0∧g=true)∨(b.1 = .ret∧g=false∧Y 0 b.2.1 = .bool false))) r.length ⟨rfl,_,_,_,_,0,rfl,rfl,F⟩ ?_ ?_
  ·rintro p i j ⟨rfl,s,t,u,v,a,rfl,L,f⟩;simp only[wL,cL,dT,O,bS,dZ];refine Wp.eY ?_ ?_
   ·intro c;have c:a<r.length:=jd c;have gl:l[a]?=some l[a]:=cA (by omega);have gr:r[a]?=some r[a]:=cA c;have K:=iU a (by omega);rw[jk (show a<l.length by omega),jk c]at f;generalize l[a]=b at gl f;generalize r[a]=q at gr f;obtain⟨Q,B,E,_⟩:=pq y a b gl;obtain⟨P,A,C,_⟩:=pq z a q gr;simp only[B,A,E,C,O,zk];by_cases o:b=q
    ·subst o;simp only[eS,fw,cT,aQ,aY,aR,eL,O,K];exact .some (.inl ⟨rfl,p - 1,by omega,rfl,_,_,_,_,a+1,rfl,by omega,by rw[← f];simp[-Ma]⟩)
    ·have m:decide (b≠q)=true:=by simpa using o
     simp only[m,aQ,aL];exact .some (.inr ⟨by simp,rfl,.inr ⟨rfl,by rw[← f];simp[-Ma,o],rfl⟩⟩)
   ·intro c;have c:r.length≤a:=by
     have:¬(a:Int)<r.length:=by simpa using c
     omega
    rw[nS c,nS (by omega)]at f;exact .some (.inr ⟨by simp,rfl,.inl ⟨rfl,by rw[← f];simp[-Ma]⟩⟩)
  ·rintro⟨b,i,j⟩ ⟨w,x⟩;simp only at w x;subst w;rcases x with⟨rfl,n⟩|⟨rfl,n,I⟩
   ·simp only[fb,dW,O,cS,n];exact .some rfl
   ·simp only[nG,nE,m1,cL,O,I,cS,n];exact .some rfl
 ·have m:decide ((l.length:Int)≠(r.length:Int))=true:=by simpa using k
  have H:decide (l=r)=false:=by
   simp[-Ma];intro G;subst G;exact k rfl
  simp only[m,aQ,aL,cS,H];exact .some rfl
theorem Hn(l:List (aG × aG))(d:D)(p:D)(j:aG × aG→Bool)(h:Z)(A:g7 h l d)(C:l.length≤9223372036854775807)(s:∀x,gh R p [.agg (aW x)] h=some (.bool (j x),h)){u:Type}(k:bP→Option u)(X:Int→Option u)
   (y:∀v r,k (.ret,.int .i64 v::r,h)=X v) (z:∀r,k (.ext 0,r,h)=X (-1)):∀(i c:List (aG × aG)),l=c++i→∀a b e f,
   (bZ (nL d p (.int .i64 l.length)) [a,b,.int .i64 c.length,e,f] h).bind k=X (idx j c.length i):=by
 intro i
 induction i with
 | nil =>
  rintro c rfl a b e f;rw[ik];simp[-Ma,nL,z,idx]
 | cons g i F =>
  rintro c rfl a b e f;have E:IntKind.wrap .i64 ((c.length:Int)+1)=(c++[g]).length:=by
   rw[cX (by omega) (by simp at C;omega)];simp[-Ma]
  have t:(c.length:Int)<(c++g::i).length:=by simp;omega
  rw[ik];generalize q:c++g::i=w at *;have B:w[c.length]?=some g:=by rw[← q];exact qS _ _ _
  obtain⟨G,n,o,_⟩:=pq A _ _ B;by_cases m:j g=true
  ·simp[-Ma,nL,n,o,t,s,m,y,idx]
  ·have:=F (c++[g]) (by simp[-Ma,← q]) a (.int .i64 c.length) (.bool true) (.bool (j g));simp only[← E]at this;simp[-Ma,nL,n,o,t,s,m,idx];simp[-Ma,m]at this;exact this
theorem J1(l:List (aG × aG))(d:D)(a:D)(b:aG × aG→Bool)(h:Z)(c:g7 h l d)(g:l.length≤9223372036854775807)(f:∀x,gh R a [.agg (aW x)] h=some (.bool (b x),h)):
   R ts [d,a] h=some (.int .i64 (idx b 0 l),h):=by
 rw[Ek];simp only[wQ,O,rb c,bS];rw[show(0:Int)=(([]:List (aG × aG)).length:Int)from rfl,Hn l d a b h c g f _ (λe=>some (.int .i64 e,h)) (λe i=>by simp) (λi=>by simp) l [] rfl];rfl
theorem JV(p:aG × aG)(h:Z):R oy [.agg (aW p)] h=some (.bool (decide (2000<p.2.length)),h):=by
 rw[Eg];simp[-Ma,wN,aW];omega
theorem JU(l:List (aG × aG))(d:D)(h:Z)(a:g7 h l d)(b:l.length≤9223372036854775807):R tn [d,.fn (.func oy) [] []] h=some (.bool (l.any λp=>decide (2000<p.2.length)),h):=by
 rw[Ef];simp only[wM,O,J1 l d (.fn (.func oy) [] []) (λp=>decide (2000<p.2.length)) h a b (λc=>by rw[sN];exact JV c h),jb,cS];rw[u0]
theorem JR(l:dO)(h:Z):R ow [.agg (cN l)] h=some (.bool (!(l.fS==[])),h):=by
 rw[Eb];simp[-Ma,wH,cN]
theorem JQ(l:List dO)(d:D)(h:Z)(a:aV 3 cN l d)(b:l.length≤9223372036854775807):R tk [d,.fn (.func ow) [] []] h=some (.bool (l.any λp => !(p.fS==[])),h):=by
 rw[Ea];simp only[wG,O,JM l d (.fn (.func ow) [] []) (λp => !(p.fS==[])) h a b (λc=>by rw[sN];exact JR c h),jb,cS];rw[u0]
def m0(e:Ev):Int:=
 if(!ki e || !(decide (0≤e.a5)&&decide (e.a5≤253402300799999)))=true then 2
 else if e.a6<1∨Int.tmod 5040 e.a6≠0 then 21
 else if hq e 2000≠0 then hq e 2000
 else if 32<e.s7.length∨32<e.s8.length then 3
 else if(fg e.fs).1≠0 then(fg e.fs).1
 else if(fg e.fs).2≠e.fs then 19
 else if((fg e.fs).2.any λa=>decide (2000<a.2.length))=true then 3 else 0
theorem KA(l:List (aG × aG)):(fg l).2.length≤l.length:=by
 unfold fg;split
 ·simp[-Ma]
 ·split
  ·split
   ·simp[-Ma]
   ·simp[-Ma,vT]
  ·simp[-Ma]
theorem Kz(l:List (aG × aG)):(fg l).2.length≤32:=by
 by_cases a:32<l.length
 ·simp[-Ma,fg,a]
 ·have:=KA l;omega
theorem JP(e:Ev)(h:Z)(ad:∀p:Z,∃d' h',R ox [e.fd] p=some (.bU [d',.int .i64 (fg e.fs).1],h')∧p.length≤h'.length∧(∀b,b<p.length→h'[b]?=p[b]?)∧((fg e.fs).1=0→g7 h' (fg e.fs).2 d')):R ov [.agg (bR e)] h=some (.int .i64 (m0 e),h):=by
 apply Wp.val;have a:∀(i:Z) (d:Int),h.length≤i.length→(∀b,b<h.length→i[b]?=h[b]?)→scope h i (.int .i64 d)=some (.int .i64 d,h):=λi d aa ab=>kj (by simp) (.int _ _) aa ab
 have P:=vG e.a5 0 253402300799999 h;rw[D7];simp only[wC,ma,O,bS,qp,Bd,cS];have af:aC tab aF 5 (.aE (bR e))=some (.aE [.int .i64 e.a5,.int .i64 e.a6,.str e.s7,.str e.s8,e.fd]):=id rfl;have ag:aC tab aF 6 (.aE (bR e))=some (.aE [.int .i64 e.a6,.str e.s7,.str e.s8,e.fd]):=id rfl;have ah:aC tab aF 7 (.aE (bR e))=some (.aE [.str e.s7,.str e.s8,e.fd]):=id rfl;have ai:aC tab aF 8 (.aE (bR e))=some (.aE [.str e.s8,e.fd]):=id rfl;have aj:aC tab aF 9 (.aE (bR e))=some (.aE [e.fd]):=id rfl;unfold m0;generalize aq:ki e=f;generalize ar:(decide (0≤e.a5)&&decide (e.a5≤253402300799999))=z at P ⊢;have first:∀{T:Type} (t:D→D × Z→D→Option T) (k:T→Prop),(∀S p x,p.2=h→x = .bool (!f || !z)→Wp (t S p x) k)→Wp ((fM .not (.bool f)).bind λc=>(gd c false (some (.aE [.int .i64 e.a5,.int .i64 e.a6,.str e.s7,.str e.s8,e.fd]))).bind λak=>(gd c false (aA tab h W ak)).bind λal=>(eQ c false h (R m3 [al,.int .i64 0,.int .i64 253402300799999] h)).bind λQ=>(gd c false (fM .not Q.1)).bind λam=>(cJ c (.bool true) am).bind λan=>t c Q an) k:=λt k I=>by
  cases f
  ·simp only[hd,hV,O,cY,fj,reduceCtorEq,aR,cU,aL];exact I _ _ _ rfl rfl
  ·simp only[hd,gn,O,cY,fj,aL,fk,P,cU,aY,aR];exact I _ _ _ rfl (by simp)
 simp only[af,ag,ah,ai,aj];refine first _ _ λS p x K ae=>?_
 subst ae;obtain⟨au,p⟩:=p;simp only at K;subst K;clear first
 simp only[aQ];by_cases A:(!f || !z)=true
 ·simp only[A,aL,a _ _ (aT _) (λ_ _=>rfl)];exact .some rfl
 simp only[A,aR,aY,fk,jC,k4,O,dZ,gW,eM,sO,dP];by_cases l:e.a6<1
 ·simp only[l,mq,dJ,aL,cY,reduceCtorEq,aR,iV,O,cU,aQ,a _ _ (aT _) (λ_ _=>rfl)];exact .some rfl
 have B:¬e.a6=0:=by omega
 by_cases C:¬Int.tmod 5040 e.a6=0
 ·have m:=C;simp only[l,B,m,eS,hv,l7,dJ,cT,aL,cY,aR,aY,O,cU,aQ,fk,sO,dP,a _ _ (aT _) (λ_ _=>rfl)];exact .some rfl
 have m:Int.tmod 5040 e.a6=0:=kH.1 C;simp only[l,B,m,eS,fw,lh,cT,aL,cY,aR,aY,O,cU,aQ,fk,sO,dP,Be];generalize ao:hq e 2000=y;by_cases E:¬y=0
 ·have n:=E;simp only[n,eS,hv,dJ,aL,a _ _ (aT _) (λ_ _=>rfl)];exact .some rfl
 have n:y=0:=kH.1 E;subst n;simp only[eS,fw,cT,aY,aR,aL];by_cases o:32<e.s7.length
 ·have g:(32:Int)<(e.s7.length:Int):=by omega
  simp only[o,g,mq,dJ,aL,cY,reduceCtorEq,aR,iV,O,cU,aQ,a _ _ (aT _) (λ_ _=>rfl)];exact .some rfl
 have g:¬(32:Int)<(e.s7.length:Int):=by omega
 by_cases F:32<e.s8.length
 ·have q:(32:Int)<(e.s8.length:Int):=by omega
  simp only[o,g,F,q,l7,dJ,cT,aL,cY,aR,aY,O,jC,gW,eM,cU,a _ _ (aT _) (λ_ _=>rfl)];exact .some rfl
 have q:¬(32:Int)<(e.s8.length:Int):=by omega
 obtain⟨d',h',M,v,u,w⟩:=ad p;simp only[o,g,F,q,lh,cT,aL,cY,aR,aY,O,jC,gW,eM,cU,aQ,M,jw,jl,lz];have N:=Kz e.fs;generalize ap:fg e.fs=X at M w N;obtain⟨d,j⟩:=X;simp only at w N ⊢;by_cases G:¬d=0
 ·have r:=G;simp only[r,eS,hv,dJ,aL,a _ _ v u,aQ,dP,O];exact .some rfl
 have r:d=0:=kH.1 G;subst r;have L:=w rfl;have ac:g7 h' e.fs e.fd :=.inl e.ho;simp only[eS,fw,cT,aY,aR,aQ,dP,JT j e.fs d' e.fd h' L ac (by omega),O,hd,JU j d' h' L (by omega)];by_cases H:¬j=e.fs
 ·have s:=H;simp only[s,hv,cT,hV,aL,a _ _ v u,aQ,dP,O];exact .some rfl
 have s:j=e.fs:=kH.1 H;subst s;simp only[fw,dJ,gn,aR,aY,a _ _ v u,aQ,dP,O];split
 ·exact .some rfl
 ·exact .some rfl
theorem JO(e:Ev)(h:Z)(a:e.fs.length≤20):R ov [.agg (bR e)] h=some (.int .i64 (m0 e),h):=JP e h λb=>JS e.fs e.fd b e.ho a
def kz(i:It):Int:=
 if i.r=[]then m0 i.e
 else if 32<i.r.length then 3
 else if ki i.e=false then 2
 else if hq i.e 60000=9∨hq i.e 60000=4∨hq i.e 60000=19 then hq i.e 60000
 else if i.e.a5≠0∨i.e.a6≠0∨i.e.s7≠[]∨i.e.s8≠[]∨i.e.fs.length≠0∨(i.e.ls.any λa => !(a.fS==[]))=true then 19 else 0
theorem JN(i:It)(h:Z)(C:R ov [.agg (bR i.e)] h=some (.int .i64 (m0 i.e),h)):R ou [.agg (aJ i)] h=some (.int .i64 (kz i),h):=by
 have B:iG 10 (.agg (bR i.e))=some (.aE (bR i.e)):=qh 10 _ rfl;have E:aC tab aF 4 (.aE (bR i.e))=some (.aE [i.e.ld,.int .i64 i.e.a5,.int .i64 i.e.a6,.str i.e.s7,.str i.e.s8,i.e.fd]):=id rfl;have F:aC tab aF 5 (.aE (bR i.e))=some (.aE [.int .i64 i.e.a5,.int .i64 i.e.a6,.str i.e.s7,.str i.e.s8,i.e.fd]):=id rfl;have G:aC tab aF 6 (.aE (bR i.e))=some (.aE [.int .i64 i.e.a6,.str i.e.s7,.str i.e.s8,i.e.fd]):=id rfl;have H:aC tab aF 7 (.aE (bR i.e))=some (.aE [.str i.e.s7,.str i.e.s8,i.e.fd]):=id rfl;have I:aC tab aF 8 (.aE (bR i.e))=some (.aE [.str i.e.s8,i.e.fd]):=id rfl;have K:aC tab aF 9 (.aE (bR i.e))=some (.aE [i.e.fd]):=id rfl;rw[D6];simp only[wB,ma,O,zF,oP,zG,qp,B,lM,cS];unfold kz;by_cases l:i.r=[]
 ·simp only[l,lJ,aQ,aL,C,O]
 have x:(i.r==[])=false:=by simpa using l
 simp only[l,x,aQ,aY,aR,gW,O,eM];by_cases q:32<i.r.length
 ·have m:(32:Int)<(i.r.length:Int):=by omega
  simp only[q,m,dJ,aL]
 have m:¬(32:Int)<(i.r.length:Int):=by omega
 simp only[q,m,cT,aY,aR,Bd,O,hd];cases L:ki i.e
 ·simp only[hV,aQ,aL]
 simp only[gn,aQ,aY,iV,aR,Be,O,gi];generalize hq i.e 60000=k;by_cases a:k=9
 ·subst a;simp[-Ma]
 by_cases b:k=4
 ·subst b;simp[-Ma]
 by_cases c:k=19
 ·subst c;simp[-Ma]
 simp only[a,b,c,lh,cT,cY,aL,O,cU,aQ,aY,aR,F,G,H,I,K,E,fk,jC,k4,jB,dP];have f:(i.e.fs.length:Int)=0↔i.e.fs.length=0:=by omega
 have d:=JQ i.e.ls i.e.ld h i.e.ih i.e.tP;generalize (i.e.ls.any λD => !(D.fS==[]))=w at d ⊢;by_cases s:¬i.e.a5=0
 ·simp only[a,b,c,gi,s,eS,fw,hv,mq,l7,om,lg,dJ,cT,cY,fj,gP,kx,reduceCtorEq,aL,aR,aY,iV,O,cU,aQ,fk,jC,k4,jB,dP,mS,je i.e.ho,f,d,lJ,gn,hV,lh]
 have g:i.e.a5=0:=kH.1 s;by_cases t:¬i.e.a6=0
 ·simp only[a,b,c,gi,g,t,eS,fw,hv,mq,l7,om,lg,dJ,cT,cY,fj,gP,kx,reduceCtorEq,aL,aR,aY,iV,O,cU,aQ,fk,jC,k4,jB,dP,mS,je i.e.ho,f,d,lJ,gn,hV,lh]
 have j:i.e.a6=0:=kH.1 t;by_cases o:¬i.e.s7=[]
 ·have y:(i.e.s7==[])=false:=by simpa using o
  simp only[a,b,c,gi,g,j,o,y,eS,fw,hv,mq,l7,om,lg,dJ,cT,cY,fj,gP,kx,reduceCtorEq,aL,aR,aY,iV,O,cU,aQ,fk,jC,k4,jB,dP,mS,je i.e.ho,f,d,lJ,gn,hV,lh]
 have n:i.e.s7=[]:=kH.1 o;by_cases p:¬i.e.s8=[]
 ·have z:(i.e.s8==[])=false:=by simpa using p
  simp only[a,b,c,gi,g,j,n,p,z,eS,fw,hv,mq,l7,om,lg,dJ,cT,cY,fj,gP,kx,reduceCtorEq,aL,aR,aY,iV,O,cU,aQ,fk,jC,k4,jB,dP,mS,je i.e.ho,f,d,lJ,gn,hV,lh]
 have u:i.e.s8=[]:=kH.1 p;by_cases v:¬i.e.fs.length=0
 ·simp only[a,b,c,gi,g,j,n,u,v,eS,fw,hv,mq,l7,om,lg,dJ,cT,cY,fj,gP,kx,reduceCtorEq,aL,aR,aY,iV,O,cU,aQ,fk,jC,k4,jB,dP,mS,je i.e.ho,f,d,lJ,gn,hV,lh]
 have A:i.e.fs.length=0:=kH.1 v;simp only[a,b,c,gi,g,j,n,u,A,eS,fw,hv,mq,l7,om,lg,dJ,cT,cY,fj,gP,kx,reduceCtorEq,aL,aR,aY,iV,O,cU,aQ,fk,jC,k4,jB,dP,mS,je i.e.ho,f,d,lJ,gn,hV,lh];cases w<;>simp[-Ma,d]
theorem Bc(i:It)(h:Z)(a:i.e.fs.length≤20):R ou [.agg (aJ i)] h=some (.int .i64 (kz i),h):=JN i h (JO i.e h a)
theorem z2{g:Z}{a T z:Nat}{i:It}(b:g[a]?=some (Ob.row T z [aJ i])):aA tab g aP (.ptr a 0 0)=some (.agg (aJ i)):=u7 b rfl
theorem yt:∀(a b:aG),Lib.compareBytes a b = - Lib.compareBytes b a
 |[],[]=>rfl
 |[],_::_=>rfl
 |_::_,[]=>rfl
 | x::a,y::b=>by
  have f:=yt a b;simp only[Lib.compareBytes];by_cases c:x<y
  ·have d:¬y<x:=by
     have:=sF.1 c;intro e;have:=sF.1 e;omega
   simp[-Ma,c,d]
  ·by_cases d:y<x
   ·simp[-Ma,c,d]
   ·simp[-Ma,c,d,f]
theorem CK{l:List (aG × aG)}(h:pP l):mi l=l:=by
 have j:∀a,dn cF 0 a l=l:=λa=>by
  cases a with
  |zero=>rfl
  | succ a =>
   unfold dn;split
   ·rename_i d e m n;split
    ·rename_i i;exfalso;have f:=(h a e d n m).1;have p:=(yr e.1 d.1).2 f;have q:=yt d.1 e.1;have g:=i.2;unfold cF at g;omega
    ·rfl
   ·rfl
 have k:∀b c,gV cF 0 c b l=l:=λb=>by
  induction b with
  |zero=>intro c;rfl
  |succ b o=>intro c;unfold gV;rw[j];exact o _
 exact k _ _
theorem x9:∀{l:List (aG × aG)},pP l→ku l=false
 |[],_=>rfl
 |[_],_=>rfl
 | x::y::r,h=>by
  unfold ku;have a:=(h 0 x y rfl rfl).2;have b:(y.1==x.1)=false:=by simp;exact λc=>a c.symm
  rw[b,pQ];exact x9 λf g i d e=>h (f+1) g i d e
theorem CJ{l:List (aG × aG)}(h:pP l)(d:l.length≤32)(c:∀p∈l,ig p.1=true):fg l=(0,l):=by
 have a:¬32<l.length:=by omega
 have b:l.all (λp=>ig p.1)=true:=eV.2 c;simp only[fg,a,aR,b,aL,CK h,x9 h,aY]
theorem Ae(b m:Int)(g:200≤m)(j:b≤60000):∀(d:List dO) (a:Int),0≤a→fF a d b→k7 b m a d=0
 |[],a,_,_=>rfl
 | l::r,a,q,h=>by
  obtain⟨e,h2,o,p,c⟩:=h;have s:=kD r _ _ c;have k:IntKind.wrap .i64 (b - a)=b - a:=cX (by omega) (by omega);have n:IntKind.wrap .i64 (a+l.len)=a+l.len:=cX (by omega) (by omega);unfold k7;rw[bN,cI (by omega),n]
  ·exact Ae b m g j r _ (by omega) c
  ·rw[k];refine⟨e,by omega,by omega,λf=>?_⟩;obtain⟨i,t⟩:=f;subst i;have c:a+l.len=b:=c;omega
theorem HQ{e:Ev}(m:Int)(f:200≤m)(c:0≤e.a2)(g:e.a3≤60000)(h:1≤e.ls.length)(i:e.ls.length≤40)(d:fF e.a2 e.ls e.a3):hq e m=0:=by
 have a:¬e.ls.length=0:=by omega
 have b:¬40<e.ls.length:=by omega
 simp only[hq,a,b,aR];exact Ae _ _ f g _ _ c d
theorem I3{l:List (aG × aG)}(h:MF l):pP l:=by
 have i:jf.Pairwise λc d=>Op.bytesLess c d=true∧c≠d:=by decide
 have:=i.sublist h.1;rw[List.pairwise_iff_getElem]at this;intro e j k a b;obtain⟨f,a⟩:=bB.1 a;obtain⟨g,b⟩:=bB.1 b;have:=this e (e+1) (by simpa using f) (by simpa using g) (by omega);simpa[-Ma,a,b]using this
theorem I5{l:List (aG × aG)}(h:MF l):fg l=(0,l):=by
 have e:l.length≤4:=by
  have:=h.1.length_le;simpa using this
 refine CJ (I3 h) (by omega) λa c=>?_
 have b:a.1∈jf:=h.1.subset (fc.2 ⟨a,c,rfl⟩);exact(show ∀d∈jf,ig d=true by decide) _ b
theorem I4{l:List (aG × aG)}(h:MF l):l.length≤4:=by
 have:=h.1.length_le;simpa using this
structure wo (e:Ev):Prop where
 h0:0≤e.a0
 h2:e.a0≤2
 f0:0≤e.a1
 f2:e.a1≤2
 a0:0≤e.a2
 b9:e.a3≤1000
 ch:fF e.a2 e.ls e.a3
 l1:1≤e.ls.length
 l3:e.ls.length≤3
 t0:0≤e.a5
 t9:e.a5≤255000
 wt:e.a6∈ng
 tr:e.s7∈nh
 st:e.s8∈ni
 fs:MF e.fs
theorem nJ.k{e:Ev}(h:nJ e):wo e:=⟨h.h0,h.h2,h.f0,h.f2,h.a0,by have:=kD _ _ _ h.ch;have:=h.a9;have:=h.l3;omega,h.ch,h.l1,h.l3,h.t0,h.t9,h.wt,h.tr,h.st,h.fs⟩
theorem IH(zs:List Int)(d:D)(n:Int)(h:Z)(f:iw .u8 zs d)(q:0≤n)(v:n≤400)(m:∀z∈zs,0≤z∧z<256)(w:zs.length≤9223372036854775807):∃h',R ot [d,.int .i64 n] h=some (.ptr h.length 0 0,h')∧CM h' h.length∧h'.length=h.length+1∧∀b,b<h.length→h'[b]?=h[b]?:=by
 rw[qn];simp only[wx,O,bS,zx f,eM];have l:∀a c,iw .u8 c a→c.length≤400→(∀z∈c,0≤z∧z<256)→∃h',((eE tab gZ [0] [a]).bind λu=>(pC gZ 2 h u).bind λo=>some (aD [o.1],o.2))=some (.ptr h.length 0 0,h')∧CM h' h.length∧h'.length=h.length+1∧∀b,b<h.length→h'[b]?=h[b]?:=λa c e p k=>by
  rw[CU a (Gv e)];simp only[O];rw[v8 gZ 2 h [a,.int .i64 0] rfl (by omega)];exact⟨_,rfl,⟨a,c,0,la _ _ _ _,e,p,by omega,k⟩,hQ _ _ _ _,λb r=>lf _ _ _ _ r⟩
 by_cases g:n<(zs.length:Int)
 ·obtain⟨a,s,e⟩:=Gs (T:=tab) (t:=hC) (i:=vZ) (j:=rD) (id rfl) (id rfl) (id rfl) (id rfl) f (k2 :=.i64) q (Int.le_of_lt g);simp only[g,dJ,aQ,aL,s,O,dW,cL];exact l a _ e (by simp;omega) λz k=>m z (gb k)
 ·simp only[g,cT,aQ,aY,aR,O,dW,cL];exact l d zs f (by omega) m
theorem Ak:∀(c:List dO) (a b:Int),fF a c b→fF a (c.map blank) b
 |[],a,b,h=>h
 |x::r,a,b,h=>⟨h.1,h.2.1,h.2.2.1,by simp[-Ma,blank],Ak r _ b h.2.2.2.2⟩
structure x1 (i:It):Prop where
 r:i.r∈oX
 h0:0≤i.e.a0
 h2:i.e.a0≤2
 f0:0≤i.e.a1
 f2:i.e.a1≤2
 a0:0≤i.e.a2
 b9:i.e.a3≤1000
 ch:fF i.e.a2 i.e.ls i.e.a3
 l1:1≤i.e.ls.length
 l3:i.e.ls.length≤3
 tx:∀l∈i.e.ls,l.fS=[]
 t0:i.e.a5=0
 w0:i.e.a6=0
 tr:i.e.s7=[]
 st:i.e.s8=[]
 fs:i.e.fs=[]
def jj(i:It):Prop:=(i.r=[]∧wo i.e)∨x1 i
theorem jj.l3{i:It}(h:jj i):i.e.ls.length≤3:=by
 rcases h with⟨_,h⟩|h
 ·exact h.l3
 ·exact h.l3
theorem jj.fs{i:It}(h:jj i):i.e.fs.length≤4:=by
 rcases h with⟨_,h⟩|h
 ·exact I4 h.fs
 ·rw[h.fs];simp[-Ma]
theorem jj.ch{i:It}(h:jj i):fF i.e.a2 i.e.ls i.e.a3∧0≤i.e.a2∧i.e.a3≤1000∧1≤i.e.ls.length:=by
 rcases h with⟨_,h⟩|h
 ·exact⟨h.ch,h.a0,h.b9,h.l1⟩
 ·exact⟨h.ch,h.a0,h.b9,h.l1⟩
theorem II{h:Z}{o:Nat}(am:CM h o):∃i h',R qy [.ptr o 0 0] h=some (.agg (aJ i),h')∧CM h' o∧bY o h h'∧jj i:=by
 suffices Wp (R qy [.ptr o 0 0] h) (λv=>∃i,v.1 = .agg (aJ i)∧CM v.2 o∧bY o h v.2∧jj i) by
  obtain⟨⟨f,h'⟩,a4,i,rfl,a7⟩:=this;exact⟨i,h',a4,a7⟩
 have bu:=am.lt;rw[D5];simp only[wz,O,bS];generalize B:aK h aP 11 [[.str [],.int .i64 0,.int .i64 0,.int .i64 0,.int .i64 0,.J,.int .i64 0,.int .i64 0,.str [],.str [],.J]]=X;have e:X[h.length]?=some (Ob.row aP 11 [[.str [],.int .i64 0,.int .i64 0,.int .i64 0,.int .i64 0,.J,.int .i64 0,.int .i64 0,.str [],.str [],.J]]):=by rw[← B];exact la _ _ _ _
 have N:Sm h o X:=(Sm.refl am).app (by rw[← B,hQ];omega) λb p=>by rw[← B];exact lf _ _ _ _ p
 have bc:X.length=h.length+1:=by rw[← B];exact hQ _ _ _ _
 clear B;obtain⟨a,br,ak,S,M,k⟩:=IJ N.cd;refine Wp.step ak ?_;clear ak;have ba:iG 10 (.agg (bR a))=some (.aE (bR a)):=qh 10 _ rfl;simp only[O,ba];obtain⟨bv,s,al,G,q,bw,bx⟩:=gR S 4 (by omega) (by omega);refine Wp.step al ?_;clear al;have z:=(N.next S M).next G q;have ap:s.length=h.length+1:=by have:=M.1;have:=q.1;omega
 replace e:=(q.2 h.length (by omega)).trans ((M.2 h.length (by omega)).trans e);clear N M q S bc;have a9:eE tab aP [1] [.agg (bR a)]=some (.agg (aJ ⟨[],a⟩)):=id rfl;have az:∀(c:Z) (l:It),Sm h o c→c[h.length]?=some (Ob.row aP 11 [aJ l])→jj l→Wp ((aA tab c aP (.ptr h.length 0 0)).bind λd=>scope h c (aD [d])) (λv:D × Z=>∃i,v.1 = .agg (aJ i)∧CM v.2 o∧bY o h v.2∧jj i):=λc l r b K=>by
  simp only[z2 b,O,cS];obtain⟨h',ae,ac,af⟩:=r.scope (d :=.agg (aJ l)) (d' :=.agg (aJ l)) (by
   rw[zu,l4 λd bb=>u2 h.length c 2 l d bb]) (u3 _ _)
  rw[ae];exact .some ⟨l,rfl,ac,af,K⟩
 simp only[dZ,O];refine Wp.eY ?_ ?_
 ·intro _;simp only[qp,O,a9];refine pJ e (by rfl) (by rfl) (by simp) (by rfl) λj m g=>?_
  replace m:j[h.length]?=some (Ob.row aP 11 [aJ ⟨[],a⟩]):=m;exact az j _ (z.app (jX g.1.symm) λb p=>g.2 b (by omega)) m (.inl ⟨rfl,k.k⟩)
 ·intro _;have bl:aC tab aF 0 (.aE (bR a))=some (.aE (bR a)):=id rfl;have bm:aC tab aF 1 (.aE (bR a))=some (.aE [.int .i64 a.a1,.int .i64 a.a2,.int .i64 a.a3,a.ld,.int .i64 a.a5,.int .i64 a.a6,.str a.s7,.str a.s8,a.fd]):=id rfl;have bn:aC tab aF 2 (.aE (bR a))=some (.aE [.int .i64 a.a2,.int .i64 a.a3,a.ld,.int .i64 a.a5,.int .i64 a.a6,.str a.s7,.str a.s8,a.fd]):=id rfl;have bo:aC tab aF 3 (.aE (bR a))=some (.aE [.int .i64 a.a3,a.ld,.int .i64 a.a5,.int .i64 a.a6,.str a.s7,.str a.s8,a.fd]):=id rfl;have ax:aC tab aF 4 (.aE (bR a))=some (.aE [a.ld,.int .i64 a.a5,.int .i64 a.a6,.str a.s7,.str a.s8,a.fd]):=id rfl;have av:∀c,aA tab c W (.aE (bR a))=some (.int .i64 a.a0):=λc=>id rfl
  simp only[bl,bm,bn,bo,ax,av,fk,O,CR];generalize H:aK s aF 10 [[.int .i64 0,.int .i64 0,.int .i64 0,.int .i64 0,.J,.int .i64 0,.int .i64 0,.str [],.str [],.J]]=j;have m:j[s.length]?=some (Ob.row aF 10 [[.int .i64 0,.int .i64 0,.int .i64 0,.int .i64 0,.J,.int .i64 0,.int .i64 0,.str [],.str [],.J]]):=by rw[← H];exact la _ _ _ _
  have ab:∀b,b<h.length+1→j[b]?=s[b]?:=λb p=>by rw[← H];exact lf _ _ _ _ (by omega)
  have aq:j.length=h.length+2:=by rw[← H,hQ];omega
  clear H;rw[ap]at m ⊢;have F:=z.app (by omega) λb p=>ab b (by omega)
  replace e:=(ab h.length (by omega)).trans e;refine pH m (by rfl) (by rfl) (by simp) (by rfl) λaa C g=>?_
  replace C:aa[h.length+1]?=some (Ob.row aF 10 [[.int .i64 a.a0,.int .i64 a.a1,.int .i64 a.a2,.int .i64 a.a3,.J,.int .i64 0,.int .i64 0,.str [],.str [],.J]]):=C;have P:=F.app (jX g.1.symm) λb p=>g.2 b (by omega)
  replace e:=(g.2 h.length (by omega)).trans e;have ar:aa.length=h.length+2:=g.1.trans aq;clear m ab F z g aq G ap;simp only[O,jB,k5 a.ih];refine Wp.loop (λag T c=>∃t A f,∃n:Nat,T=[t,.int .i64 n,A]∧ag+n=a.ls.length∧Sm h o c∧h.length+2≤c.length∧c[h.length]?=some (Ob.row aP 11 [[.str [],.int .i64 0,.int .i64 0,.int .i64 0,.int .i64 0,.J,.int .i64 0,.int .i64 0,.str [],.str [],.J]])
    ∧ c[h.length+1]?=some (Ob.row aF 10 [[.int .i64 a.a0,.int .i64 a.a1,.int .i64 a.a2,.int .i64 a.a3,f,.int .i64 0,.int .i64 0,.str [],.str [],.J]])∧Own c (h.length+2) bW 3 (((a.ls.take n).map blank).map cN) f)
   (λx=>x.1 = .ext 0∧∃t A aj f,x.2.1=[t,A,aj]∧Sm h o x.2.2∧h.length+2≤x.2.2.length∧x.2.2[h.length]?=some (Ob.row aP 11 [[.str [],.int .i64 0,.int .i64 0,.int .i64 0,.int .i64 0,.J,.int .i64 0,.int .i64 0,.str [],.str [],.J]])
    ∧ x.2.2[h.length+1]?=some (Ob.row aF 10 [[.int .i64 a.a0,.int .i64 a.a1,.int .i64 a.a2,.int .i64 a.a3,f,.int .i64 0,.int .i64 0,.str [],.str [],.J]])∧Own x.2.2 (h.length+2) bW 3 ((a.ls.map blank).map cN) f) a.ls.length
   ⟨_,_,.J,0,rfl,rfl,P,by omega,e,C,Own.J _ _ _ _⟩ ?_ ?_
  ·clear e C P ar;rintro ag T c ⟨t,A,f,n,rfl,bt,r,I,e,w,y⟩;have an:=k.l3;simp only[wA,cL,dT,O,bS,dZ];refine Wp.eY ?_ ?_
   ·intro u;have u:n<a.ls.length:=jd u;have ad:a.ls[n]?=some a.ls[n]:=cA u;have bf:=iU n (by omega);have au:(a.ls.take (n+1)).map blank=(a.ls.take n).map blank++[blank a.ls[n]]:=by
     rw[jq,ad,jm];rfl
    generalize a.ls[n]=bg at ad au;have r1:c.row (h.length+1) 0=some [.int .i64 a.a0,.int .i64 a.a1,.int .i64 a.a2,.int .i64 a.a3,f,.int .i64 0,.int .i64 0,.str [],.str [],.J]:=eI w;simp only[qs,vb,r1,dA,hX,hF,iX,ax,jB,O,lY a.ih,nR,aL,e7,ad,gC];simp only[cN,za,zb,fk,O,yb,ye];refine wb I y (lp _ _ _ _) (by simp;omega) λay bq aw bh Q _ _=>?_
    have ah:=ns (AH aw);simp only[O];refine we ((Q (h.length+1) (by omega)).trans w) (by rfl) (by rw[ah.1];rfl) (by simp) ah.2 λs L E=>?_
    rw[ah.1]at L;replace L:s[h.length+1]?=some (Ob.row aF 10 [[.int .i64 a.a0,.int .i64 a.a1,.int .i64 a.a2,.int .i64 a.a3,ay,.int .i64 0,.int .i64 0,.str [],.str [],.J]]):=L;simp only[O,eL,bf];refine .some (.inl ⟨rfl,ag - 1,by omega,_,_,ay,n+1,rfl,by omega,(r.app bh λb p=>Q b (by omega)).app (jX E.1.symm) λb p=>E.2 b (by omega),by show h.length+2≤s.length;have:=E.1;omega,(E.2 h.length (by omega)).trans ((Q h.length (by omega)).trans e),L,?_⟩);rw[au,jm];exact aw.bA λb p _=>E.2 b (by omega)
   ·intro u;have u:a.ls.length≤n:=by
     have:¬(n:Int)<a.ls.length:=by simpa using u
     omega
    rw[gK u]at y;exact .some (.inr ⟨by simp,rfl,_,_,_,f,rfl,r,I,e,w,y⟩)
  ·clear e C P ar aa;rintro⟨bp,T,c⟩ ⟨rfl,t,A,aj,f,rfl,r,I,e,w,y⟩;simp only at r I e w y;simp only[fb,dW,O,IG];refine jH r.cd oX 8 (by decide) (by decide) (by decide) λai s G q be _=>?_
   have z:=r.next G q;have bk:=(q.2 (h.length+1) (by omega)).trans w;replace e:=(q.2 h.length (by omega)).trans e;have bi:=y.same q (by omega);simp only[O,qW bk rfl,qW w rfl,CT,lK];refine pJ e (by rfl) (by rfl) (by simp) (by rfl) λj m g=>?_
   replace m:j[h.length]?=some (Ob.row aP 11 [[.str ai,.int .i64 a.a0,.int .i64 a.a1,.int .i64 a.a2,.int .i64 a.a3,f,.int .i64 0,.int .i64 0,.str [],.str [],.J]]):=m;have F:=z.app (jX g.1.symm) λb p=>g.2 b (by omega)
   have bj:=bi.bA (h':=j) λb p _=>g.2 b (by omega)
   have bd:=l9 (n0:=h.length) (n:=2) bj (by omega) (λt _=>qY _ j _ t);have an:=k.l3;simp only[u7 m rfl,O,cS];generalize K:(⟨ai,⟨a.a0,a.a1,a.a2,a.a3,a.ls.map blank,bL h.length j 3 f,0,0,[],[],[],.J,aV.J _ _,by simp,bd,by simp;omega⟩⟩:It)=l;have a8:x1 l:=by
    subst K;exact⟨be,k.h0,k.h2,k.f0,k.f2,k.a0,k.k.b9,Ak _ _ _ k.ch,by simpa using k.l1,by simpa using an,λbg ao=>by
     simp at ao;obtain⟨av,_,rfl⟩:=ao;rfl,rfl,rfl,rfl,rfl,rfl⟩
   obtain⟨h',ae,ac,af⟩:=F.scope (d :=.agg [.str ai,.int .i64 a.a0,.int .i64 a.a1,.int .i64 a.a2,.int .i64 a.a3,f,.int .i64 0,.int .i64 0,.str [],.str [],.J]) (d' :=.agg (aJ l)) (by subst K;simp[-Ma,aJ,bR]) (u3 _ _);rw[ae];exact .some ⟨l,rfl,ac,af,.inr a8⟩
structure x5 where
 h:Int
 r:aG
 n:Int
def Dk(a b:aG):Int:=if Op.bytesLess a b=true then -1 else if a=b then 0 else 1
def gr:List Ev→List Ev→Bool
 |[],_=>true
 |_::_,[]=>false
 |x::a,y::b=>if im x y=true then gr a b else gr (x::a) b
def sm(f:x5→Int):List x5→Int
 |[]=>0
 |t::r=>f t+sm f r
theorem zH(i:It):(D.agg (aJ i)).eZ=true:=by
 have a:=rz i.e.ih;have b:=rz i.e.ho;have f:(D.agg (aJ i)) = .agg [.str i.r,.int .i64 i.e.a0,.int .i64 i.e.a1,.int .i64 i.e.a2,.int .i64 i.e.a3,i.e.ld,.int .i64 i.e.a5,.int .i64 i.e.a6,.str i.e.s7,.str i.e.s8,i.e.fd]:=rfl;rw[f];generalize i.e.ld=c at a;generalize i.e.fd=d at b;cases c<;>first|(cases d<;>first|rfl|(simp[-Ma,D.one]at b))|(simp[-Ma,D.one]at a)
def num(l:List Int):Int:=l.foldl (λb a=>b*256+a) 0
def vy:Nat→List Int→List (List Int) × Nat
 |0,_=>([],0)
 | k+1,r=>if r.length<8∨(num (r.take 4)).toNat<1∨8388608<(num (r.take 4)).toNat∨r.length - 8<(num (r.take 4)).toNat∨num ((r.drop 4).take 4)≠Dn (r.take 4++(r.drop 8).take (num (r.take 4)).toNat)then([],0)
  else((r.drop 8).take (num (r.take 4)).toNat::(vy k (r.drop (8+(num (r.take 4)).toNat))).1,8+(num (r.take 4)).toNat+(vy k (r.drop (8+(num (r.take 4)).toNat))).2)
def rd(r:List Int):List (List Int) × Nat:=vy r.length r
def mb:Nat→Int→List Int
 |0,_=>[]
 |n+1,v=>IntKind.wrap .u8 (v.fdiv (2 ^ (8*n)))::mb n v
theorem vx:∀(n:Nat) (v:Int),(mb n v).length=n
 |0,v=>rfl
 |n+1,v=>by simp[-Ma,mb,vx n v]
def vL(s:aG):List Int:=s.map λa=>(a.toNat:Int)
theorem Kn(s:aG):(vL s).length=s.length:=by simp[-Ma,vL]
def pI(n:Int):List Int:=mb 8 (IntKind.wrap .u64 n)
def pN(n:Nat):List Int:=mb 4 (IntKind.wrap .u64 n)
def pS(s:aG):List Int:=pN s.length++vL s
theorem AJ(n:Int):(pI n).length=8:=vx _ _
theorem AK(n:Nat):(pN n).length=4:=vx _ _
theorem vt(s:aG):(pS s).length=4+s.length:=by simp[-Ma,pS,AK,Kn]
def vg(l:dO):List Int:=pI l.off++pI l.len++pS l.fS
def qt(f:aG × aG):List Int:=pS f.1++pS f.2
def yc(i:It):List Int:=pS i.r++pI i.e.a0++pI i.e.a1++pI i.e.a2++pI i.e.a3++pN i.e.ls.length
def yd(i:It):List Int:=yc i++(i.e.ls.map vg).flatten++pI i.e.a5++pI i.e.a6++pS i.e.s7++pS i.e.s8++pN i.e.fs.length
def oa(i:It):List Int:=yd i++(i.e.fs.map qt).flatten
def Dg(l:List Int):Int:=l.foldl (λa b=>(a*31+b) % 4294967291) 1
def yT(i:It):List Int:=mb 4 (IntKind.wrap .u64 (((oa i).length:Int)+4))++oa i
def yU(i:It):List Int:=yT i++mb 4 (Dg (yT i))
theorem s9{b:Type}(f:b→List Int)(m:Nat):∀(l:List b),(∀a∈l,(f a).length≤m)→(l.map f).flatten.length≤l.length*m
 |[],_=>by simp
 | a::l,h=>by
  have e:=h a (by simp);have g:=s9 f m l λc d=>h c (by simp[-Ma,d])
  simp only[iB,iz,gB,e8,Nat.succ_mul];omega
theorem l8{h:Z}{n0 e z:Nat}{rows:List (List D)}{d:D}(i:Own h n0 e z rows d){b:Nat}(g:d.eN b):h[b]?=some (.row e z rows):=by
 obtain⟨m,k,rfl⟩:=g;rcases i with⟨a,_⟩|⟨l,j,a,f⟩
 ·cases a
 ·injection a with _ c;subst c;exact f
def ij(r:aG)(a b c d:Int)(h:D)(e f:Int)(i j:aG)(g:D):List D:=[.str r,.int .i64 a,.int .i64 b,.int .i64 c,.int .i64 d,h,.int .i64 e,.int .i64 f,.str i,.str j,g]
structure RI where
 r:aG
 a0:Int
 a1:Int
 a2:Int
 a3:Int
 ls:List dO
 a5:Int
 a6:Int
 t7:aG
 t8:aG
 fs:List (aG × aG)
def RI.row(x:RI)(b a:D):List D:=ij x.r x.a0 x.a1 x.a2 x.a3 b x.a5 x.a6 x.t7 x.t8 a
def fA(n:Int):Prop := -9223372036854775808≤n∧n<9223372036854775808
structure xO (l:dO):Prop where
 o:fA l.off
 n:fA l.len
 t:l.fS.length<4294967296
structure xB (i:It):Prop where
 r:i.r.length<4294967296
 a0:fA i.e.a0
 a1:fA i.e.a1
 a2:fA i.e.a2
 a3:fA i.e.a3
 nl:i.e.ls.length<4294967296
 ls:∀l∈i.e.ls,xO l
 a5:fA i.e.a5
 a6:fA i.e.a6
 t7:i.e.s7.length<4294967296
 t8:i.e.s8.length<4294967296
 nf:i.e.fs.length<4294967296
 fs:∀p∈i.e.fs,p.1.length<4294967296∧p.2.length<4294967296
def dU(i:It):RI:=⟨i.r,i.e.a0,i.e.a1,i.e.a2,i.e.a3,i.e.ls,i.e.a5,i.e.a6,i.e.s7,i.e.s8,i.e.fs⟩
def As(x:RI)(b a:D)(c:aV 3 cN x.ls b)(h2:aV 2 aW x.fs a)(d:x.ls.length≤9223372036854775807)(e:x.fs.length≤9223372036854775807):It:=⟨x.r,⟨x.a0,x.a1,x.a2,x.a3,x.ls,b,x.a5,x.a6,x.t7,x.t8,x.fs,a,h2,e,c,d⟩⟩
theorem I6(x:RI)(b a:D)(c:aV 3 cN x.ls b)(h2:aV 2 aW x.fs a)(d:x.ls.length≤9223372036854775807)(e:x.fs.length≤9223372036854775807):dU (As x b a c h2 d e)=x:=rfl
def pL:It:=⟨[],⟨0,0,0,0,[],.J,0,0,[],[],[],.J,aV.J _ _,by simp,aV.J _ _,by simp⟩⟩
structure RG (hs:Int) (i:It):Prop where
 fs:i.e.fs.length≤20
 ok:kz i=0
 host:i.e.a0=hs
 r:(i.r==([42]:aG))=false
 bl:(oa i).length≤20000
 rd:xB i
theorem JD{i j:It}(h:dU i=dU j):yU i=yU j∧kz i=kz j∧(∀b,RG b i→RG b j)∧hU i j=true:=by
 obtain⟨H,⟨c,e,g,l,x,v,n,p,K,M,t,r,z,B,D,F⟩⟩:=i;obtain⟨I,⟨d,f,k,m,y,w,o,q,L,N,u,s,A,C,E,G⟩⟩:=j;simp only[dU,RI.mk.injEq]at h;obtain⟨rfl,rfl,rfl,rfl,rfl,rfl,rfl,rfl,rfl,rfl,rfl⟩:=h;refine⟨rfl,rfl,λb a=>⟨a.fs,a.ok,a.host,a.r,a.bl,⟨a.rd.r,a.rd.a0,a.rd.a1,a.rd.a2,a.rd.a3,a.rd.nl,a.rd.ls,a.rd.a5,a.rd.a6,a.rd.t7,a.rd.t8,a.rd.nf,a.rd.fs⟩⟩,?_⟩;simp[-Ma,hU,im]
theorem An:∀(e:List dO) (a b:Int),fF a e b→0≤a→b≤1000000→∀l∈e,xO l∧l.fS.length≤200
 |[],a,b,_,_,_,l,c=>by cases c
 | x::r,a,b,h,j,k,l,c=>by
  obtain⟨g1,g,i,f,d⟩:=h;have m:=kD r _ _ d;rcases ga.1 c with rfl|c
  ·exact⟨⟨by unfold fA;omega,by unfold fA;omega,by omega⟩,f⟩
  ·exact An r _ _ d (by omega) (by omega) l c
theorem Kt{c:Type}(a b:List c)(x y:c)(n:Nat)(d:a.length=n):(a++x::b).set n y=a++y::b:=by
 subst d;rw[List.set_append_right _ _ (aT _)];simp[-Ma]
structure Rw where
 k:List aG
 kd:D
 hk:aV 1 (λs=>[D.str s]) k kd
 tO:k.length≤1000000
 n:List Int
 nd:D
 hn:aV 1 dC n nd
 LS:n.length≤1000000
 er:Int
def rwa:Rw:=⟨[],.J,.J _ _,by simp,[1],.sl 1 true [[.int .i64 1]],.inr ⟨true,rfl⟩,by simp,0⟩
end Go.Proofs.YtinlnkhheafjaaaDoor
namespace Go.Eng
abbrev xN:=@List.not_mem_nil
end Go.Eng
namespace Go.Proofs.YtinlnkhheafjaaaDoor
open Go.Eng Go.Pi
open Option renaming bind_some → Ma
def B8(e:Ev):Prop:=∀a∈e.fs,a.1.length≤9223372036854775807
structure kK (i:It):Prop where
 r:xB i
 b:(oa i).length≤20000
 e:kz i=0
theorem J4(l m:List It)(e f:D)(h:Z)(j:aV 11 aJ l e)(q:aV 11 aJ m f)(r:l.map dU=m.map dU)(K:l.length≤9000000000000000000):R oC [e,f] h=some (.bool true,h):=by
 apply Wp.val;have B:m.length=l.length:=by have:=mQ List.length r;simpa using this.symm
 rw[Er];simp only[wW,O,dP,eS,fw,cT,aY,aR,kg j,kg q,B,aQ,bS];refine Wp.loop (λp g c=>c=h∧∃x y z,∃a:Nat,g=[x,.int .i64 a,y,z]∧p+a=l.length)
  (λv=>v.1 = .ext 0∧v.2.2=h) l.length ⟨rfl,_,_,_,0,rfl,rfl⟩ ?_ ?_
 ·rintro p g c ⟨rfl,x,y,z,a,rfl,I⟩;simp only[wX,cL,dT,O,bS,kg j,dZ];refine Wp.eY ?_ ?_
  ·intro i;have i:a<l.length:=jd i;have k:l[a]?=some l[a]:=cA i;have n:m[a]?=some m[a]:=cA (by omega);have o:dU l[a]=dU m[a]:=by
    have d:(l.map dU)[a]?=some (dU l[a]):=by rw[dG,k];rfl
    have A:(m.map dU)[a]?=some (dU m[a]):=by rw[dG,n];rfl
    rw[r,A]at d;injection d with d;exact d.symm
   generalize l[a]=b at k o;generalize m[a]=w at n o;have E:aM tab bD e (.int .i64 a)=some (.aE (aJ b)):=by rw[nb j];simp[-Ma,k]
   have F:aM tab bD f (.int .i64 a)=some (.aE (aJ w)):=by rw[nb q];simp[-Ma,n]
   have G:∀b:It,aA tab c aP (.aE (aJ b))=some (.agg (aJ b)):=λb=>id rfl
   have C:=iU a (by omega);have s:=Kh b w c;rw[(JD o).2.2.2]at s;simp only[E,F,G,s,O,hd,gn,aQ,aY,aR,eL,C];exact .some (.inl ⟨rfl,p - 1,by omega,rfl,_,_,_,a+1,rfl,by omega⟩)
  ·intro _;exact .some (.inr ⟨by simp,rfl,rfl⟩)
 ·rintro⟨H,g,c⟩ ⟨t,u⟩;simp only at t u;subst t;subst u;simp only[fb,dW,O,cS];exact .some rfl
theorem Al(k:Int):∀(c:List dO) (a b:Int),fF a c b→fF (a+k) (c.map λl=>⟨l.off+k,l.len,l.fS⟩) (b+k)
 |[],a,b,h=>by show a+k=b+k;rw[show a=b from h]
 | l::r,a,b,h=>by
  obtain⟨d,h2,e,f,g⟩:=h;refine⟨by show l.off+k=a+k;rw[d],h2,e,f,?_⟩;have:=Al k r _ b g;show fF (a+k+l.len) _ _;rw[show a+k+l.len=a+l.len+k by omega];exact this
def pg(x:RI)(f k:Int):RI:=⟨x.r,x.a0,f,x.a2+k,x.a3+k,x.ls.map λa=>⟨a.off+k,a.len,a.fS⟩,x.a5,x.a6,x.t7,x.t8,x.fs⟩
theorem Ja{i j:It}(hi:jj i){f k:Int}(bb:0≤f)(bc:f≤2)(a9:0≤i.e.a2+k)(X:i.e.a3+k≤50000)(aa:dU j=pg (dU i) f k):kK j:=by
 obtain⟨F,⟨u,v,n,o,l,E,p,w,s,t,g,D,P,Q,R,T⟩⟩:=j;simp only[dU,pg,RI.mk.injEq]at aa;obtain⟨H,aw,ax,ay,az,I,af,K,L,M,C⟩:=aa;have bf:=hi.l3;have aj:=hi.fs;obtain⟨ai,a6,a7,be⟩:=hi.ch;have x:=Al k _ _ _ ai;rw[← ay,← az,← I]at x;have a8:l.length=i.e.ls.length:=by rw[I];simp[-Ma]
 have bd:=kD _ _ _ x;have ag:=An _ _ _ x (by omega) (by omega);have an:F.length≤32∧s.length≤32∧t.length≤32∧fA u∧fA v∧fA p∧fA w∧∀b∈g,b.1.length≤1000∧b.2.length≤1000:=by
  rw[H,aw,ax,af,K,L,M,C];rcases hi with⟨m,d⟩|d
  ·have y:=d.h0;have z:=d.h2;have ak:=d.t0;have al:=d.t9;have A:=(show ∀a∈ng,(-10000:Int)≤a∧a≤10000 by decide) _ d.wt;refine⟨by rw[m];simp[-Ma],(show ∀a∈nh,a.length≤32 by decide) _ d.tr,(show ∀a∈ni,a.length≤32 by decide) _ d.st,by unfold fA;omega,by unfold fA;omega,by unfold fA;omega,by unfold fA;omega,λb c=>⟨?_,(show ∀a∈nj,a.length≤1000 by decide) _ (d.fs.2 b c)⟩⟩;exact(show ∀a∈jf,a.length≤1000 by decide) _ (d.fs.1.subset (fc.2 ⟨b,c,rfl⟩))
  ·have y:=d.h0;have z:=d.h2;have ak:=d.t0;have al:=d.w0;exact⟨(show ∀a∈oX,a.length≤32 by decide) _ d.r,by rw[d.tr];simp[-Ma],by rw[d.st];simp[-Ma],by unfold fA;omega,by unfold fA;omega,by unfold fA;omega,by unfold fA;omega,λb c=>by rw[d.fs]at c;cases c⟩
 obtain⟨r1,bg,bh,a0,a1,a4,a5,N⟩:=an;have ah:g.length≤4:=by rw[C];exact aj
 refine⟨⟨by show F.length<_;omega,a0,a1,by unfold fA;show _≤n∧n<_;omega,by unfold fA;show _≤o∧o<_;omega,by show l.length<_;omega,λG q=>(ag G q).1,a4,a5,by show s.length<_;omega,by show t.length<_;omega,by show g.length<_;omega,λb c=>by have:=N b c;omega⟩,?_,?_⟩
 ·have y:=s9 vg 220 l (λG q=>by
    have:=(ag G q).2;simp only[vg,gB,AJ,vt];omega)
  have z:(g.map qt).flatten.length≤g.length*2008:=s9 qt 2008 g (λb c=>by
   have:=N b c;simp only[qt,gB,vt];omega)
  have am:(g.length*2008:Nat)≤4*2008:=hI _ ah;have X:(l.length*220:Nat)≤3*220:=hI _ (by omega);simp only[oa,yd,yc,gB,AJ,vt,AK];omega
 ·have q:∀B:Int,200≤B→hq (⟨u,v,n,o,l,E,p,w,s,t,g,D,P,Q,R,T⟩:Ev) B=0:=λB ap=>HQ B ap (by show 0≤n;omega) (by show o≤60000;omega) (by show 1≤l.length;omega) (by show l.length≤40;omega) x
  rcases hi with⟨m,h⟩|h
  ·have y:=h.h0;have z:=h.h2;have am:=h.t0;have X:=h.t9;have A:=(show ∀a∈ng,¬a<1∧Int.tmod 5040 a=0 by decide) _ h.wt;have ad:=(show ∀a∈nh,¬32<a.length by decide) _ h.tr;have ac:=(show ∀a∈ni,¬32<a.length by decide) _ h.st;have ab:=I5 h.fs;have au:(g.any λb=>decide (2000<b.2.length))=false:=by
    rw[List.any_eq_false];intro b c;have:=(N b c).2;simp[-Ma];omega
   rw[← K]at A;rw[← L]at ad;rw[← M]at ac;rw[← C]at ab;have aq:F=[]:=by rw[H];exact m
   have ar:(decide (0≤p)&&decide (p≤253402300799999))=true:=by simp;omega
   have c:ki (⟨u,v,n,o,l,E,p,w,s,t,g,D,P,Q,R,T⟩:Ev)=true:=by
    simp[-Ma,ki];omega
   simp[-Ma,kz,aq,m0,c,ar,A.1,A.2,q 2000 (by omega),ad,ac,ab,au]
  ·have m:=(show ∀a∈oX,a≠[]∧¬32<a.length by decide) _ h.r;rw[← H]at m;have y:=h.h0;have z:=h.h2;obtain rfl:p=0:=af.trans h.t0;obtain rfl:w=0:=K.trans h.w0;obtain rfl:s=[]:=L.trans h.tr;obtain rfl:t=[]:=M.trans h.st;obtain rfl:g=[]:=C.trans h.fs;have c:ki (⟨u,v,n,o,l,E,0,0,[],[],[],D,P,Q,R,T⟩:Ev)=true:=by
    simp[-Ma,ki];omega
   have ae:∀b∈l,b.fS=[]:=λb c=>by
    rw[I]at c;obtain⟨av,ao,rfl⟩:=fc.1 c;exact h.tx av ao
   have ba:(l.any λb => !(b.fS==[]))=false:=by
    rw[List.any_eq_false];intro b c;simp[-Ma,ae b c]
   simp[-Ma,kz,m.1,m.2,c,q 60000 (by omega)];exact ae
def jF(k:Int)(l:dO):dO:=⟨l.off+k,l.len,l.fS⟩
theorem Ku(s:Int)(a:List dO)(i:Nat)(hi:i<a.length):(((a.take i).map (jF s)++a.drop i).map cN).set i (cN (jF s a[i]))=((a.take (i+1)).map (jF s)++a.drop (i+1)).map cN:=by
 have b:a[i]?=some a[i]:=cA hi;rw[jk hi,jq,b];generalize a[i]=c;rw[jm,iB,Kt _ _ _ _ i (by simp;omega)];simp[-Ma]
theorem Jn{s:Int}{c:List dO}{x:D}{n0:Nat}{g:Z}(aa:Own g n0 bW 3 (c.map cN) x)(af:c.length≤1000)(P:∀l∈c, -9223372036854775808≤l.off+s∧l.off+s<9223372036854775808)(a b:D){E:Type}{t:bP→Option E}{Q:E→Prop}
  (k:∀g' i j m,g'.length=g.length→(∀e,¬x.eN e→g'[e]?=g[e]?)→Own g' n0 bW 3 ((c.map (jF s)).map cN) x→Wp (t (.ext 2,[i,j,m],g')) Q) :
  Wp ((bZ (r4 (.int .i64 s) x (.int .i64 c.length)) [a,.int .i64 0,b] g).bind t) Q:=by
 refine Wp.loop (λh r g'=>∃B C,∃d:Nat,r=[B,.int .i64 d,C]∧h+d=c.length∧g'.length=g.length∧(∀e,¬x.eN e→g'[e]?=g[e]?)∧Own g' n0 bW 3 (((c.take d).map (jF s)++c.drop d).map cN) x)
  (λh=>h.1 = .ext 2∧∃i j m,h.2.1=[i,j,m]∧h.2.2.length=g.length∧(∀e,¬x.eN e→h.2.2[e]?=g[e]?)∧Own h.2.2 n0 bW 3 ((c.map (jF s)).map cN) x) c.length ⟨_,_,0,rfl,by omega,rfl,λ_ _=>rfl,by simpa using aa⟩ ?_ ?_
 ·rintro h r g' ⟨B,C,d,rfl,ae,q,o,n⟩;simp only[r4,cL,dT,O,bS,dZ];refine Wp.eY ?_ ?_
  ·intro f;have f:d<c.length:=jd f;have F:c[d]?=some c[d]:=cA f;have M:=Ku s c d f;have I:c[d]∈c:=nV f;have p:(((c.take d).map (jF s)++c.drop d).map cN)[d]?=some (cN c[d]):=by
    rw[dG,g4 (by simp;omega)];have:d - ((c.take d).map (jF s)).length=0:=by simp;omega
    rw[this,iA];simp[-Ma,F]
   have u:(((c.take d).map (jF s)++c.drop d).map cN).length=c.length:=by simp;omega
   obtain⟨ab,ag⟩:=P _ I;generalize c[d]=l at *;have T:IntKind.wrap .i64 (l.off+s)=l.off+s:=cX ab (by omega);have R:=iU d (by omega);rcases n with⟨_,K⟩|⟨y,L,rfl,v⟩
   ·rw[K]at p;cases p
   rw[u];have H:(0:Int)≤d∧(d:Int)<c.length:=⟨by omega,by omega⟩
   have X:aA tab g' W (.ptr y d 0)=some (.int .i64 l.off):=by rw[fE,eI v,p];rfl
   rw[u]at o;simp only[Hi,H,gv,aL,O,dA,e7,j7,lD,X,eL,T];refine ko (kk:=d) (off:=0) (row:=cN l) v p (by rfl) (by simp[-Ma,cN]) (by rfl) λad z A=>?_
   have N:dF (cN l) 0 (bT (.int .i64 (l.off+s)))=cN (jF s l):=id rfl;rw[N,M]at z;simp only[O,R];refine .some (.inl ⟨rfl,h - 1,by omega,_,_,d+1,rfl,by omega,A.1.trans q,λe w=>?_,?_⟩)
   ·rw[A.2 e λG=>w ⟨3,c.length,by rw[G]⟩];exact o e w
   ·refine .inr ⟨y,L,?_,z⟩;have:(((c.take (d+1)).map (jF s)++c.drop (d+1)).map cN).length=c.length:=by simp;omega
    rw[this]
  ·intro f;have f:d=c.length:=by
    have:¬(d:Int)<c.length:=by simpa using f
    omega
   subst f;rw[ss,List.drop_length,se]at n;exact .some (.inr ⟨by simp,rfl,_,_,_,rfl,q,o,n⟩)
 ·rintro⟨ac,r,g'⟩ ⟨rfl,i,j,m,rfl,q,o,n⟩;exact k g' i j m q o n
def kO(g:Z)(n0:Nat)(x:RI)(row:List D):Prop:=∃b a,row=x.row b a∧Own g n0 bW 3 (x.ls.map cN) b∧aV 2 aW x.fs a∧x.ls.length≤1000∧x.fs.length≤1000
inductive ib (g:Z) (n0:Nat):List RI→List (List D)→Prop
 |nil:ib g n0 [] []
 |cons {x row xs rows}:kO g n0 x row→ib g n0 xs rows→ib g n0 (x::xs) (row::rows)
theorem ib.snoc{g:Z}{n0:Nat}{x:RI}{row:List D}:∀{xs:List RI} {rows:List (List D)},ib g n0 xs rows→kO g n0 x row→ib g n0 (xs++[x]) (rows++[row])
 |_,_,.nil,h =>.cons h .nil
 |_,_,.cons a b,h =>.cons a (b.snoc h)
theorem ib.len{g:Z}{n0:Nat}:∀{xs:List RI} {rows:List (List D)},ib g n0 xs rows→rows.length=xs.length
 |_,_,.nil=>rfl
 |_,_,.cons a b=>by simp[-Ma,b.len]
theorem kO.bA{g g':Z}{n0:Nat}{x:RI}{row:List D}(h:kO g n0 x row)(i:∀a l,n0≤a→a<g.length→g[a]?=some (.row bW 3 l)→g'[a]?=g[a]?):kO g' n0 x row:=by
 obtain⟨k,d,e,b,f⟩:=h;exact⟨k,d,e,b.bA λa j c=>i a _ j (b.lt c).2 (l8 b c),f⟩
theorem ib.bA{g g':Z}{n0:Nat}(d:∀c e,n0≤c→c<g.length→g[c]?=some (.row bW 3 e)→g'[c]?=g[c]?):∀{xs:List RI} {rows:List (List D)},ib g n0 xs rows→ib g' n0 xs rows
 |_,_,.nil =>.nil
 |_,_,.cons a b =>.cons (a.bA d) (b.bA d)
theorem kO.fz{g:Z}{n0 m:Nat}(k:m≤n0){x:RI}{row:List D}(h:kO g n0 x row):∃j:It,dU j=x∧row.map (Pi.bL m g 2)=aJ j:=by
 obtain⟨d,a,rfl,f,b,p,q⟩:=h;have l:=l9 (n0:=m) (n:=1) f k (λe _=>qY _ g _ e);have i:Pi.bL m g 2 a=a:=vQ (n:=1) b λr _ o c=>by
  simp only[aW,ga,xN,lg]at c;rcases c with rfl|rfl<;>rfl
 refine⟨As x (Pi.bL m g 2 d) a l b (by omega) (by omega),I6 _ _ _ _ _ _ _,?_⟩;show[_,_,_,_,_,Pi.bL m g 2 d,_,_,_,_,Pi.bL m g 2 a]=_;rw[i];rfl
theorem ib.fz{g:Z}{n0 m:Nat}(d:m≤n0):∀{xs:List RI} {rows:List (List D)},ib g n0 xs rows→∃c:List It,c.map dU=xs∧rows.map (λrow=>row.map (Pi.bL m g 2))=c.map aJ
 |_,_,.nil=>⟨[],rfl,rfl⟩
 | _,_,.cons a b=>by
  obtain⟨j,e,h2⟩:=a.fz d;obtain⟨c,f,h⟩:=b.fz d;exact⟨j::c,by simp[-Ma,e,f],by simp[-Ma,h2,h]⟩
theorem Jk{g:Z}{a m e z n:Nat}{rows:List (List D)}{d:D}(b:Own g a e z rows d)(i:m≤a):(rows=[]∧bL m g (n+1) d = .J)∨bL m g (n+1) d = .sl z false (rows.map λrow=>row.map (bL m g n)):=by
 rcases b with⟨rfl,f⟩|⟨h,j,rfl,c⟩
 ·exact .inl ⟨f,rfl⟩
 ·right;have:Nat.ble m h=true:=by rw[Nat.ble_eq];omega
  simp only[Pi.bL,this,c,hF,ss]
theorem zJ(o k:Nat)(f:Int)(a:0≤f)(d:f<3):aM tab gy (.ptr o k 0) (.int .i64 f)=some (.ptr o k f.toNat):=by
 have b:kT tab gy=some (eO,some 3):=id rfl;have c:eO.V=1:=id rfl;have e:f<((3:Nat):Int):=d;simp only[aM,b,c,a,e,gv,aL,Nat.zero_lt_one];simp[-Ma]
def iL(a:List Int):List D:=a.map (.int .i64 ·)
structure QA (h g k:Z) (o:Nat) (es:List Int) (row:List D):Prop where
 s:Sm h o k
 e:k[h.length]?=some (.row gy 3 [iL es])
 i:k[g.length]?=some (.row aP 11 [row])
 a:∀q,q<g.length→q≠o→q≠h.length→k[q]?=g[q]?
 hg:h.length<g.length
theorem QA.l{h g k:Z}{o:Nat}{b:List Int}{row:List D}(a:QA h g k o b row):g.length<k.length:=(bB.1 a.i).1
theorem QA.next{h g k d:Z}{o:Nat}{f:List Int}{row:List D}(b:QA h g k o f row)(c:CM d o)(s:bY o k d):QA h g d o f row:=
 have p:=b.s.lt;have hg:=b.hg
 ⟨b.s.next c s,by rw[s.2 _ (by omega)];exact b.e,by rw[s.2 _ (by omega)];exact b.i,λl m j n=>by rw[s.2 l j];exact b.a l m j n,b.hg⟩
theorem QA.put{h g k d:Z}{o:Nat}{f:List Int}{row i:List D}(b:QA h g k o f row)(p:d[g.length]?=some (.row aP 11 [i]))(s:bY g.length k d):QA h g d o f i:=
 have n:=b.s.lt;have hg:=b.hg
 ⟨b.s.app (jX s.1.symm) λc q=>s.2 c (by omega),by rw[s.2 _ (by omega)];exact b.e,p,λc j l m=>by rw[s.2 c (by omega)];exact b.a c j l m,b.hg⟩
theorem QA.ends{h g k d:Z}{o:Nat}{j e:List Int}{row:List D}(b:QA h g k o j row)(p:d[h.length]?=some (.row gy 3 [iL e]))(s:bY h.length k d):QA h g d o e row:=
 have n:=b.s.lt;have hg:=b.hg
 ⟨b.s.app (jX s.1.symm) λc q=>s.2 c (by omega),p,by rw[s.2 _ (by omega)];exact b.i,λc l m f=>by rw[s.2 c f];exact b.a c l m f,b.hg⟩
theorem QA.grow{h g k d:Z}{o:Nat}{f:List Int}{row:List D}(c:QA h g k o f row)(l:k.length≤d.length)(s:∀b,b<g.length+1→d[b]?=k[b]?):QA h g d o f row:=
 have p:=c.s.lt;have hg:=c.hg
 ⟨c.s.app l λb q=>s b (by omega),by rw[s _ (by omega)];exact c.e,by rw[s _ (by omega)];exact c.i,λb j m n=>by rw[s b (by omega)];exact c.a b j m n,c.hg⟩
theorem EY(a:List Int)(f v:Int)(b:a.length=3)(g:0≤f)(h:f<3):dF (iL a) f.toNat (bT (.int .i64 v))=iL (a.set f.toNat v):=by
 match a,b with
 | [c,d,e],_ =>
  have:f=0∨f=1∨f=2:=by omega
  rcases this with rfl|rfl|rfl<;>rfl
theorem EX(a:List Int)(f:Int)(g:a.length=3)(h:0≤f)(i:f<3):∃e,a[f.toNat]?=some e∧((iL a).drop f.toNat).head?=some (.int .i64 e)∧e∈a:=by
 match a,g with
 | [b,c,d],_ =>
  have:f=0∨f=1∨f=2:=by omega
  rcases this with rfl|rfl|rfl
  ·exact⟨b,rfl,rfl,by simp⟩
  ·exact⟨c,rfl,rfl,by simp⟩
  ·exact⟨d,rfl,rfl,by simp⟩
def fQ(r:Int):List D:=[.int .i64 r]
def hP(f:Int)(xs:List RI):Option Int:=xs.foldl (λb a=>if a.a1=f then some a.a3 else b) none
theorem Hu(f:Int)(xs:List RI)(z:RI):hP f (xs++[z])=if z.a1=f then some z.a3 else hP f xs:=by simp[-Ma,hP]
def iW(xs:List RI):Prop:=∀(c:Nat) (a:RI),xs[c]?=some a→∀b,hP a.a1 (xs.take c)=some b→b=a.a2
theorem iW.snoc{xs:List RI}{z:RI}(h:iW xs)(i:∀e,hP z.a1 xs=some e→e=z.a2):iW (xs++[z]):=λb j a e c=>by
 rcases eW b xs.length with d|d
 ·rw[dS d]at a;rw[List.take_append_of_le_length (by omega)]at c;exact h b j a e c
 ·rw[g4 d]at a;have f:b - xs.length=0:=by
   cases g:b - xs.length with
   |zero=>rfl
   |succ k=>rw[g]at a;cases a
  rw[f]at a;injection a with a;subst a;have:b=xs.length:=by omega
  rw[this,List.take_left']at c
  ·exact i e c
  ·rfl
structure QP (h g:Z) (o:Nat) (es:List Int) (xs:List RI) (rows:List (List D)) (rs:List Int) (x y:D):Prop where
 s:Sm h o g
 e:g[h.length]?=some (.row gy 3 [iL es])
 e3:es.length=3
 eb:∀e∈es,0≤e∧e≤40+1000*xs.length
 q:ib g (h.length+1) xs rows
 x:Own g (h.length+1) aP 11 rows x
 y:Own g (h.length+1) W 1 (rs.map fQ) y
 ok:∀z∈xs,∀j:It,dU j=z→kK j
 rl:rs.length=xs.length
 lk:∀f e:Int,hP f xs=some e→0≤f→f<3→es[f.toNat]?=some e
 ct:iW xs
 fq:∀z∈xs,z.fs.length≤20
theorem QP.hg{h g:Z}{o:Nat}{a:List Int}{xs:List RI}{rows:List (List D)}{b:List Int}{x y:D}(P:QP h g o a xs rows b x y):h.length<g.length:=(bB.1 P.e).1
theorem Jo{h g:Z}{o:Nat}{l:List Int}{xs:List RI}{rows:List (List D)}{H:List Int}{x y:D}(P:QP h g o l xs rows H x y)(q:xs.length≤40){n:Int}(c9:0<n)(ek:n≤1000){b5:D × Z}(bm:b5.1 = .ptr h.length 0 0)(cg ci cj ck cl cm cn ce cf:D){Q:bP→Prop}
  (k:∀g' cz z rows' r al am cp ac cq cr cs cu cw qn co,QP h g' o cz (xs++[z]) rows' (H++[r]) al am→Q (.aO,[al,am,.int .i64 (n - 1),cp,ac,cq,cr,cs,cu,cw,qn,co],g')) :
  Wp (pV (.ptr o 0 0) b5 [x,y,.int .i64 n,cg,ci,cj,ck,cl,cm,cn,ce,cf] g) Q:=by
 have c7:decide (n>0)=true:=jx c9;have el:=P.s.lt;have bk:=P.hg;simp only[pV,cL,dT,O,bS,eM,c7,aQ,aL];obtain⟨a,E,bg,cc,ak,m⟩:=II P.s.cd;obtain⟨bj,d7,d8,eo⟩:=m.ch;have ei:=kD _ _ _ bj;have ep:=m.l3;have ec:=m.fs;simp only[bg,O];have ax:E.length=g.length:=ak.1;have n0:(aK E aP 11 [[.str [],.int .i64 0,.int .i64 0,.int .i64 0,.int .i64 0,.J,.int .i64 0,.int .i64 0,.str [],.str [],.J]])[g.length]?=some (.row aP 11 [aJ pL]):=by rw[← ax];exact ic _ _ _ _
 have ai:∀b,b<g.length→(aK E aP 11 [[.str [],.int .i64 0,.int .i64 0,.int .i64 0,.int .i64 0,.J,.int .i64 0,.int .i64 0,.str [],.str [],.J]])[b]?=E[b]?:=λb i=>g8 _ _ _ _ (by omega)
 have dt:(aK E aP 11 [[.str [],.int .i64 0,.int .i64 0,.int .i64 0,.int .i64 0,.J,.int .i64 0,.int .i64 0,.str [],.str [],.J]]).length=g.length+1:=by rw[← ax];exact hQ _ _ _ _
 rw[ax];generalize aK E aP 11 [[.str [],.int .i64 0,.int .i64 0,.int .i64 0,.int .i64 0,.J,.int .i64 0,.int .i64 0,.str [],.str [],.J]]=c1 at *;have an:QA h g c1 o l (aJ pL):=⟨(P.s.next cc ak).app (by omega) λb i=>ai b (by omega),by rw[ai _ bk,ak.2 _ (by omega)];exact P.e,n0,λb d c4 ef=>by rw[ai b d,ak.2 b c4],bk⟩
 clear n0 ai dt;refine pJ (kk:=0) (off:=0) (row:=aJ pL) (v :=.agg (aJ a)) an.i (by rfl) (by rfl) (by exact aT _) (zH _) λau b3 b8=>?_
 have ao:QA h g au o l (ij a.r a.e.a0 a.e.a1 a.e.a2 a.e.a3 a.e.ld a.e.a5 a.e.a6 a.e.s7 a.e.s8 a.e.fd):=an.put b3 b8;clear b3 b8 an bg;obtain⟨e,ed,ac,bf,b9,C,ad⟩:=gR ao.s.cd 3 (by omega) (by omega);have ap:=ao.next bf b9;clear ao b9 bf;simp only[ac,O,lQ,zc];refine ko (kk:=0) (off:=0+1+1) (v :=.int .i64 e) ap.i (by rfl) (by rfl) (by simp[-Ma,ij]) (by rfl) λM b4 ca=>?_
 have I:QA h g M o l (ij a.r a.e.a0 e a.e.a2 a.e.a3 a.e.ld a.e.a5 a.e.a6 a.e.s7 a.e.s8 a.e.fd):=ap.put b4 ca;clear b4 ca ap ac;obtain⟨c,R,c5,c6⟩:=EX l e P.e3 C ad;obtain⟨d9,ea⟩:=P.eb c c6;have dm:aA tab M W (.ptr h.length 0 e.toNat)=some (.int .i64 c):=by rw[fE,eI I.e];exact c5
 have dp:aA tab M W (.ptr g.length 0 (0+1+2))=some (.int .i64 a.e.a2):=by rw[fE,eI I.i];rfl
 have dr:aA tab M cD (.ptr g.length 0 (0+1+4))=some a.e.ld:=by rw[vb,eI I.i];rfl
 have dg:IntKind.wrap .i64 (c - a.e.a2)=c - a.e.a2:=cX (by omega) (by omega);simp only[O,bm,zJ _ _ e C ad,dm,lQ,lP,qs,dp,dr,fh,dg];refine wb (n0:=M.length) (rows:=[]) (aT _) (.J _ _ _ _) (Kx _ a.e.ih) (by simp;omega) λu ee aj dk bn _ _=>?_
 rw[jW]at aj;have eq:=I.l;have bd:=I.grow dk λb i=>bn b (by omega)
 have ds:aX tab cD u=some (.int .i64 a.e.ls.length):=by rw[HJ aj];simp[-Ma]
 have db:∀G∈a.e.ls,0≤G.off∧G.off≤1000:=by
  have dj:∀(ah:List dO) (ab L:Int),fF ab ah L→∀y∈ah,ab≤y.off∧y.off≤L:=by
   intro ah
   induction ah with
   |nil=>intro ab L _ y T;simp at T
   | cons z r dh =>
    intro ab L h y T;have eg:=kD _ _ _ h.2.2.2.2;rcases ga.1 T with rfl|T
    ·have:=h.1;have:=h.2.1;omega
    ·have:=dh _ L h.2.2.2.2 y T;have:=h.2.1;omega
  intro G p;have:=dj _ _ _ bj G p;omega
 simp only[O,ds,bS];refine Jn (s:=c - a.e.a2) aj (by omega) (λG p=>by have:=db G p;omega) _ _ λav ez ex ey es bo bz=>?_
 have K:QA h g av o l _:=bd.grow (by omega) λb i=>bo b λag=>by have:=(aj.lt ag).1;omega
 clear bo bd bn;have bt:aA tab av W (.ptr g.length 0 (0+1+2))=some (.int .i64 a.e.a2):=by rw[fE,eI K.i];rfl
 have bu:aA tab av W (.ptr g.length 0 (0+1+3))=some (.int .i64 a.e.a3):=by rw[fE,eI K.i];rfl
 have de:IntKind.wrap .i64 (a.e.a2+(c - a.e.a2))=a.e.a2+(c - a.e.a2):=cX (by omega) (by omega);have df:IntKind.wrap .i64 (a.e.a3+(c - a.e.a2))=a.e.a3+(c - a.e.a2):=cX (by omega) (by omega);simp only[O,fb,dW,cL,dT,lQ,lP,oo,qs,bt,bu,eL,de,df,bS];have ay:=ns (AH bz);refine we (kk:=0) (off:=0+1+4) K.i (by rfl) (by rw[ay.1];rfl) (by simp[-Ma,ij]) ay.2 λc2 az a7=>?_
 rw[ay.1]at az;have aq:QA h g c2 o l (ij a.r a.e.a0 e a.e.a2 a.e.a3 u a.e.a5 a.e.a6 a.e.s7 a.e.s8 a.e.fd):=K.put az a7;have b0:=bz.same a7 (by omega);clear az a7 K bt bu
 try simp only[O,lQ,lP,oo]
 refine ko (kk:=0) (off:=0+1+2) (v :=.int .i64 (a.e.a2+(c - a.e.a2))) aq.i (by rfl) (by rfl) (by simp[-Ma,ij]) (by rfl) λc3 b6 a8=>?_
 have ar:QA h g c3 o l (ij a.r a.e.a0 e (a.e.a2+(c - a.e.a2)) a.e.a3 u a.e.a5 a.e.a6 a.e.s7 a.e.s8 a.e.fd):=aq.put b6 a8;have b1:=b0.same a8 (by omega);clear b6 a8 aq b0
 try simp only[O,lQ,lP,oo]
 refine ko (kk:=0) (off:=0+1+3) (v :=.int .i64 (a.e.a3+(c - a.e.a2))) ar.i (by rfl) (by rfl) (by simp[-Ma,ij]) (by rfl) λbi b7 a9=>?_
 have aa:QA h g bi o l (ij a.r a.e.a0 e (a.e.a2+(c - a.e.a2)) (a.e.a3+(c - a.e.a2)) u a.e.a5 a.e.a6 a.e.s7 a.e.s8 a.e.fd):=ar.put b7 a9;have b2:=b1.same a9 (by omega);clear b7 a9 ar b1;have bv:aA tab bi W (.ptr g.length 0 (0+1+3))=some (.int .i64 (a.e.a3+(c - a.e.a2))):=by rw[fE,eI aa.i];rfl
 simp only[O,lQ,oo,bv,bm,zJ _ _ e C ad];refine ko (kk:=0) (off:=e.toNat) (v :=.int .i64 (a.e.a3+(c - a.e.a2))) aa.e (by rfl) (by rfl) (by simp only[iL,fY,P.e3];omega) (by rfl) λN a4 ba=>?_
 rw[EY l e _ P.e3 C ad]at a4;have B:QA h g N o (l.set e.toNat (a.e.a3+(c - a.e.a2))) _:=aa.ends a4 ba;have du:=b2.same ba (by omega);clear a4 ba aa b2 bv;have dq:aA tab N aP (.ptr g.length 0 0)=some (.agg (ij a.r a.e.a0 e (a.e.a2+(c - a.e.a2)) (a.e.a3+(c - a.e.a2)) u a.e.a5 a.e.a6 a.e.s7 a.e.s8 a.e.fd)):=u7 B.i rfl;have c8:bF tab bD 1 [0] [.agg (ij a.r a.e.a0 e (a.e.a2+(c - a.e.a2)) (a.e.a3+(c - a.e.a2)) u a.e.a5 a.e.a6 a.e.s7 a.e.s8 a.e.fd)]=some (.sl 11 true [ij a.r a.e.a0 e (a.e.a2+(c - a.e.a2)) (a.e.a3+(c - a.e.a2)) u a.e.a5 a.e.a6 a.e.s7 a.e.s8 a.e.fd]):=id rfl;simp only[O,dq,c8];have ag:∀{f z:Nat} {rw:List (List D)} {w:D},Own g (h.length+1) f z rw w→Own N (h.length+1) f z rw w:=λt=>t.bA λb i m=>B.a b (t.lt m).2 (by omega) (by omega)
 have bb:=ag P.x;have d5:=ag P.y;have d0:=P.q.bA (g':=N) λb _ i dc _=>B.a b dc (by omega) (by omega)
 have ej:rows.length≤40:=by rw[P.q.len];exact q
 have et:=B.l;refine wa (n0:=h.length+1) (by omega) bb (lp _ _ _ _) (by simp;omega) λal ae dw dl kc bp _=>?_
 have be:=B.s.app dl λb i=>kc b (by omega)
 have bw:∀{f z:Nat} {rw:List (List D)} {w:D} {X:Nat},Own N X f z rw w→f≠aP→Own ae X f z rw w:=λt aw=>t.bA λb i m=>bp b (t.lt m).2 λq=>by
  have d:=l8 t m;rw[l8 bb q]at d;injection d with d;injection d with d;exact aw d.symm
 have d6:=bw d5 (by decide);have dy:=bw du (by decide);have d1:=d0.bA (g':=ae) λb H _ i d=>bp b i λq=>by
  rw[l8 bb q]at d;injection d with d;injection d with d;exact absurd d (by decide)
 have cx:ae[h.length]?=some (.row gy 3 [iL (l.set e.toNat (a.e.a3+(c - a.e.a2)))]):=by rw[kc _ (by omega)];exact B.e
 obtain⟨r,gd,cy,cd,A,eu,ew⟩:=gR be.cd 4 (by omega) (by omega);have cb:=be.next cd A;simp only[O,cy,yg];have d4:=dw.same A (by omega);have bc:=d6.same A (by omega);have dz:=dy.same A (by omega);have d2:=d1.bA (g':=gd) λb H i _ _=>A.2 b (by omega)
 have eh:gd.length=ae.length:=A.1;have en:H.length≤40:=by rw[P.rl];exact q
 refine BH (ys:=[fQ r]) (n0:=h.length+1) (by omega) bc (lp _ _ _ _) (by simp;omega) λam af dx le bq br _=>?_
 have bx:∀{f z:Nat} {rw:List (List D)} {w:D} {X:Nat},Own gd X f z rw w→f≠W→Own af X f z rw w:=λt aw=>t.bA λb i m=>br b (t.lt m).2 λq=>by
  have d:=l8 t m;rw[l8 bc q]at d;injection d with d;injection d with d;exact aw d.symm
 have da:IntKind.wrap .i64 (n - 1)=n - 1:=cX (by omega) (by omega);simp only[O,fh,da];have d3:=d2.bA (g':=af) λb H _ i d=>br b i λq=>by
  rw[l8 bc q]at d;injection d with d;injection d with d;exact absurd d (by decide)
 have dd:kO af (h.length+1) (pg (dU a) e (c - a.e.a2)) (ij a.r a.e.a0 e (a.e.a2+(c - a.e.a2)) (a.e.a3+(c - a.e.a2)) u a.e.a5 a.e.a6 a.e.s7 a.e.s8 a.e.fd):=
  ⟨u,a.e.fd,rfl,(bx dz (by decide)).from (by omega),a.e.ho,by simp only[pg,dU,fY];omega,by show a.e.fs.length≤1000;omega⟩
 refine .some (k af _ (pg (dU a) e (c - a.e.a2)) _ r al am _ _ _ _ _ _ _ _ _ ⟨cb.app le λb i=>bq b (by omega),by rw[bq _ (by omega),A.2 _ (by omega)];exact cx,by simpa using P.e3,λf R=>?_,d3.snoc dd,bx d4 (by decide),by rw[jm];exact dx,λz j di bl=>?_,by simp[-Ma,P.rl],λbh f p c0 au=>?_,P.ct.snoc λf p=>?_,λz j=>?_⟩)
 ·rcases xL R with R|rfl
  ·have:=P.eb f R;simp only[gB,e8,fB];omega
  ·simp only[gB,e8,fB];omega
 ·rcases fZ.1 j with j|j
  ·exact P.ok z j di bl
  ·simp only[h4]at j;subst j;exact Ja m C (by omega) (by omega) (by omega) bl
 ·rw[Hu]at p;split at p
  ·rename_i F;have F:e=bh:=F;subst F;injection p with p;rw[jV (by rw[P.e3];omega),← p];rfl
  ·rename_i F;have F:¬e=bh:=F;rw[hZ (by omega)];exact P.lk _ _ p c0 au
 ·have:=P.lk e f p C (by omega);rw[R]at this;injection this with this;show f=a.e.a2+(c - a.e.a2)
  omega
 ·rcases fZ.1 j with j|j
  ·exact P.fq z j
  ·simp only[h4]at j;subst j;show a.e.fs.length≤20;omega
theorem A0(n0:Nat)(h:Z)(n:Nat)(r:Int):∀d∈fQ r,bL n0 h n d=d:=by
 intro d a;simp only[fQ,h4]at a;subst a;exact Gi _ _ _ _ _
theorem IK{h:Z}{o:Nat}(H:CM h o)(m:Nat)(cb:m≤40):∃(a:List It) (b:List Int) (p q:D) (h':Z),R lS [.ptr o 0 0,.int .i64 m] h=some (.bU [p,q],h')∧aV 11 aJ a p∧aV 1 fQ b q∧(∀i∈a,kK i)∧a.length≤m∧b.length=a.length∧(iW (a.map dU)∧∀i∈a,i.e.fs.length≤20)∧CM h' o∧bY o h h':=by
 suffices Wp (R lS [.ptr o 0 0,.int .i64 m] h) (λN=>∃(a:List It) (b:List Int) (p q:D),N.1 = .bU [p,q]∧aV 11 aJ a p∧aV 1 fQ b q∧(∀i∈a,kK i)∧a.length≤m∧b.length=a.length∧(iW (a.map dU)∧∀i∈a,i.e.fs.length≤20)∧CM N.2 o∧bY o h N.2) by
  obtain⟨⟨e,h'⟩,ao,a,b,p,q,rfl,bk⟩:=this;exact⟨a,b,p,q,h',ao,bk⟩
 have cc:=H.lt;have I:∀v:Int,0≤v→v<4→IntKind.wrap .i64 (10*v)=10*v:=λv an ao=>cX (by omega) (by omega)
 rw[Ep];simp only[wV,O,bS];obtain⟨y,b7,bg,aa,ax,a7,ba⟩:=gR H 4 (by omega) (by omega);simp only[bg,O,lL,I y a7 ba];obtain⟨z,b8,bh,ab,ay,a8,bb⟩:=gR aa 4 (by omega) (by omega);simp only[bh,O,lL,I z a8 bb];obtain⟨A,u,al,be,az,a9,bc⟩:=gR ab 4 (by omega) (by omega);have bl:eE tab gy [0,1,2] [.int .i64 (10*y),.int .i64 (10*z),.int .i64 (10*A)]=some (.agg (iL [10*y,10*z,10*A])):=id rfl;simp only[al,O,lL,I A a9 bc,bl,bS];have M:u.length=h.length:=by have:=ax.1;have:=ay.1;have:=az.1;omega
 have a4:=(((Sm.refl H).next aa ax).next ab ay).next be az;have n0:(aK u gy 3 [[.int .i64 0,.int .i64 0,.int .i64 0]])[h.length]?=some (.row gy 3 [iL [0,0,0]]):=by rw[← M];exact ic _ _ _ _
 have bq:∀c,c<h.length→(aK u gy 3 [[.int .i64 0,.int .i64 0,.int .i64 0]])[c]?=u[c]?:=λc K=>g8 _ _ _ _ (by omega)
 have cf:(aK u gy 3 [[.int .i64 0,.int .i64 0,.int .i64 0]]).length=h.length+1:=by rw[← M];exact hQ _ _ _ _
 rw[M];generalize aK u gy 3 [[.int .i64 0,.int .i64 0,.int .i64 0]]=bi at *;have a5:=a4.app (g':=bi) (by omega) λc K=>bq c K
 refine Ld (kk:=0) (off:=0) (row:=iL [0,0,0]) (v :=.agg (iL [10*y,10*z,10*A])) n0 (by rfl) (by rfl) (by exact aT _) (by rfl) λbj P a0=>?_
 have P:bj[h.length]?=some (.row gy 3 [iL [10*y,10*z,10*A]]):=P;have X:=a5.app (jX a0.1.symm) λc K=>a0.2 c (by omega)
 have bo:IntKind.wrap .i64 ((m:Int)+1)=(m:Int)+1:=cX (by omega) (by omega);simp only[O,eL,bo];obtain⟨n,b9,am,bf,a1,bv,bw⟩:=gR X.cd ((m:Int)+1) (by omega) (by omega);have a6:=X.next bf a1;simp only[O,am];obtain⟨l,rfl⟩:∃l:Nat,n=l:=⟨n.toNat,by omega⟩
 have ca:l≤m:=by omega
 refine Wp.loop (λj F r=>∃e g ae af ag ah ai aj ak ac ad,∃t k x b,F=[e,g,.int .i64 (j:Nat),ae,af,ag,ah,ai,aj,ak,ac,ad]∧j+k.length=l∧QP h r o t k x b e g)
  (λc=>c.1 = .ext 0∧∃e g t k x b,Y 0 c.2.1=e∧Y 1 c.2.1=g∧k.length=l∧QP h c.2.2 o t k x b e g) l ⟨.J,.J,_,_,_,_,_,_,_,_,_,[10*y,10*z,10*A],[],[],[],rfl,by simp,⟨a6,by rw[a1.2 _ (by omega)];exact P,rfl,λG ap=>?_,.nil,.J _ _ _ _,.J _ _ _ _,λa2 L=>by simp at L,rfl,λb6 G bn=>(by simp[-Ma,hP]at bn),λn e E=>(by simp at E),λa2 L=>(by simp at L)⟩⟩ ?_ ?_
 ·simp only[ga,xN,lg]at ap;simp only[fB];rcases ap with rfl|rfl|rfl<;>omega
 ·rintro j F r ⟨e,g,ae,af,ag,ah,ai,aj,ak,ac,ad,t,k,x,b,rfl,ce,f⟩;by_cases an:j=0
  ·subst an;simp only[pV,cL,dT,O,bS,eM,show decide (((0:Nat):Int)>0)=false by decide,aQ,aY,aR];exact .some (.inr ⟨by simp,rfl,e,g,t,k,x,b,rfl,rfl,by omega,f⟩)
  ·refine Jo f (by omega) (n:=(j:Int)) (by omega) (by omega) rfl _ _ _ _ _ _ _ _ _ λg' b4 a2 ch cg ci cj al bz b0 am b1 b2 b3 qn bx a3=>?_
   have bp:(j:Int) - 1=((j - 1:Nat):Int):=by omega
   rw[bp];exact .inl ⟨rfl,j - 1,by omega,_,_,_,_,_,_,_,_,_,_,_,_,_,_,_,rfl,by simp only[gB,e8,fB];omega,a3⟩
 ·rintro⟨b5,F,r⟩ ⟨rfl,e,g,t,k,x,b,E,aw,av,f⟩;simp only at E aw f;simp only[fb,dW,O,cL,dT,E,aw,q3];obtain⟨a,Q,T⟩:=f.q.fz (m:=h.length) (by omega);have ar:aV 11 aJ a (bL h.length r 3 e):=by
   rcases Jk (m:=h.length) (n:=2) f.x (by omega)with⟨bt,bu⟩|w
   ·rw[bu];have:a=[]:=by rw[bt]at T;simpa using T.symm
    rw[this];exact .J _ _
   ·rw[w,T];exact .mk _ _ _ _
  have au:=l9 (n0:=h.length) (n:=2) f.y (by omega) (λC _=>A0 _ r 2 C);have bm:a.length=l:=by rw[← av,← Q];simp[-Ma]
  obtain⟨h',G,bd,br⟩:=f.s.scope (d :=.bU [e,g]) (d' :=.bU [bL h.length r 3 e,bL h.length r 3 g]) (by rfl) (.bU _ λd B=>by
   simp at B;rcases B with rfl|rfl
   ·exact km ar λC _=>u4 _ C
   ·exact km au λC _ d B=>by
      simp only[fQ,h4]at B;subst B;exact .int _ _)
  rw[G];refine .some ⟨a,b,_,_,rfl,ar,au,λi aq=>f.ok (dU i) ?_ i rfl,by omega,by rw[f.rl,av,bm],⟨by rw[Q];exact f.ct,λi aq=>f.fq (dU i) ?_⟩,bd,br⟩
  all_goals (rw[← Q];exact fc.2 ⟨i,aq,rfl⟩)
theorem JF(n:Int)(h:Z):aA tab h W (.aE (fQ n))=some (.int .i64 n):=id rfl
theorem J5(l:List Int)(b c:D)(h:Z)(g:aV 1 fQ l b)(k:aV 1 fQ l c)(y:l.length≤9000000000000000000):R oD [b,c] h=some (.bool true,h):=by
 apply Wp.val;rw[Es];simp only[wY,O,dP,eS,fw,cT,aY,aR,oT g,oT k,aQ,bS];refine Wp.loop (λj d e=>e=h∧∃q r s,∃a:Nat,d=[q,.int .i64 a,r,s]∧j+a=l.length)
  (λo=>o.1 = .ext 0∧o.2.2=h) l.length ⟨rfl,_,_,_,0,rfl,rfl⟩ ?_ ?_
 ·rintro j d e ⟨rfl,q,r,s,a,rfl,x⟩;simp only[wZ,cL,dT,O,bS,oT g,dZ];refine Wp.eY ?_ ?_
  ·intro f;have f:a<l.length:=jd f;have i:l[a]?=some l[a]:=cA f;generalize l[a]=p at i;have u:aM tab aN b (.int .i64 a)=some (.aE (fQ p)):=by rw[oQ g];simp[-Ma,i]
   have v:aM tab aN c (.int .i64 a)=some (.aE (fQ p)):=by rw[oQ k];simp[-Ma,i]
   have t:=iU a (by omega);simp only[u,v,JF,dP,eS,fw,cT,O,aQ,aY,aR,eL,t];exact .some (.inl ⟨rfl,j - 1,by omega,rfl,_,_,_,a+1,rfl,by omega⟩)
  ·intro _;exact .some (.inr ⟨by simp,rfl,rfl⟩)
 ·rintro⟨w,d,e⟩ ⟨m,n⟩;simp only at m n;subst m;subst n;simp only[fb,dW,O,cS];exact .some rfl
theorem kK.nm{i:It}(h:kK i):B8 i.e:=λb a=>by
 have:=(h.r.fs b a).1;omega
theorem qS{d:Type}{l:List d}{a b:Nat}{x:d}(h:x∈(l.take b).drop a):∃j,a≤j∧j<b∧l[j]?=some x:=by
 obtain⟨e,c⟩:=List.mem_iff_getElem?.1 h;rw[iA,eP]at c;split at c
 ·exact⟨a+e,by omega,by assumption,c⟩
 ·cases c
structure Kd where
 e:Ev
 v:aG
 ix:Int
def kc(x y:Kd):Int:=iR [Dk x.v y.v,iI x.e.a5 y.e.a5,iI x.ix y.ix]
theorem K3{n:Int}(h:(decide (IntKind.u8.min≤n)&&decide (n≤IntKind.u8.max))=true):0≤n∧n<256:=by
 have a:IntKind.u8.min=0:=rfl;have b:IntKind.u8.max=255:=rfl;rw[a,b]at h;simp at h;omega
def dV(k:Nat):List D:=[.int .i64 (k:Nat)]
structure dR (g:Z) (o r:Nat) (rks:List Int) (pl:List Nat) (dp:D):Prop where
 ob:g[o]?=some (.row dM 2 [[dp,.S 1 r 0 rks.length]])
 rr:r≠o
 rk:∃ex,g[r]?=some (.row W 1 (rks.map dC++ex))
 pp:(dp = .J∧pl=[])∨∃op ex,op≠o∧op≠r∧dp = .S 1 op 0 pl.length∧g[op]?=some (.row W 1 (pl.map dV++ex))
 pb:∀k∈pl,k<rks.length
def bH(rks:List Int)(k:Nat):Int:=rks[k]?.getD 0
theorem m8{g:Z}{o:Nat}{a b:D}(h:g[o]?=some (.row dM 2 [[a,b]])):aA tab g aN (.ptr o 0 (0+0))=some a∧aA tab g aN (.ptr o 0 (0+1))=some b:=by
 constructor
 ·rw[vd,eI h];rfl
 ·rw[vd,eI h];rfl
theorem lV(o:Nat):aC tab dM 0 (.ptr o 0 0)=some (.ptr o 0 (0+0))∧aC tab dM 1 (.ptr o 0 0)=some (.ptr o 0 (0+1)):=⟨id rfl,id rfl⟩
theorem vK{g:Z}{o r:Nat}{rks:List Int}{a:List Nat}{b:D}(H:dR g o r rks a b):R oE [.ptr o 0 0] g=some (.int .i64 (a.length:Nat),g):=by
 have c:aX tab aN b=some (.int .i64 (a.length:Nat)):=by
  rcases H.pp with⟨rfl,rfl⟩|⟨e,d,_,_,rfl,_⟩
  ·rfl
  ·exact z6 _ _ _ _
 rw[yP];simp only[r5,nr,(lV o).1,(m8 H.ob).1,c,O,cS]
theorem n8{l:List Nat}{i:Nat}(hi:i<l.length):l[i]?=some (aH l i):=by
 have:=cA hi;unfold aH;rw[this];rfl
theorem AZ{l:List Int}{i:Nat}(hi:i<l.length):l[i]?=some (bH l i):=by
 have:=cA hi;unfold bH;rw[this];rfl
theorem Di(rks:List Int)(a b:Nat):decide (iR [iI (bH rks b) (bH rks a),iI (a:Int) (b:Int)]<0)=decide (cV (bH rks) a b):=by
 unfold cV iI;rcases Int.lt_trichotomy (bH rks b) (bH rks a)with h|h|h
 ·have c:¬bH rks a<bH rks b:=by omega
  simp[-Ma,iR,h,c]
 ·have c:¬bH rks a<bH rks b:=by omega
  have d:¬bH rks b<bH rks a:=by omega
  rcases jr a b with k|k|k
  ·simp[-Ma,iR,h,k]
  ·subst k;simp[-Ma,iR,h]
  ·have e:¬a<b:=by omega
   simp[-Ma,iR,h,k,e]
 ·have c:¬bH rks b<bH rks a:=by omega
  have d:¬bH rks a=bH rks b:=by omega
  simp[-Ma,iR,h,c,d]
theorem pv{g:Z}{o r:Nat}{rks:List Int}{a:List Nat}{u:D}(H:dR g o r rks a u)(C:rks.length≤1000000000){i j:Nat}(hi:i<a.length)(n:j<a.length):R tA [.ptr o 0 0,.int .i64 (i:Nat),.int .i64 (j:Nat)] g=some (.bool (decide (cV (bH rks) (aH a i) (aH a j))),g):=by
 rcases H.pp with⟨rfl,rfl⟩|⟨f,z,A,B,rfl,w⟩
 ·simp at hi
 obtain⟨er,x⟩:=H.rk;have l:=n8 hi;have m:=n8 n;have h:=H.pb _ (dX l);have k:=H.pb _ (dX m);have p:∀b:Nat,b<a.length→aM tab aN (.S 1 f 0 a.length) (.int .i64 (b:Int))=some (.ptr f b 0):=λb d=>by rw[k0,bN (by omega),e7,dA]
 have q:∀b:Nat,b<rks.length→aM tab aN (.S 1 r 0 rks.length) (.int .i64 (b:Int))=some (.ptr r b 0):=λb d=>by rw[k0,bN (by omega),e7,dA]
 have s:∀(b c:Nat),a[b]?=some c→aA tab g W (.ptr f b 0)=some (.int .i64 (c:Nat)):=λb c d=>by
  have e:=(bB.1 d).1;rw[fE,eI w,dS (by simpa using e),dG,d];rfl
 have t:∀(b:Nat) (c:Int),rks[b]?=some c→aA tab g W (.ptr r b 0)=some (.int .i64 c):=λb c d=>by
  have e:=(bB.1 d).1;rw[fE,eI x,dS (by simpa using e),dG,d];rfl
 have y:bF tab aN 2 [0,1] [.int .i64 (iI (bH rks (aH a j)) (bH rks (aH a i))),.int .i64 (iI (aH a i:Int) (aH a j:Int))]=some (.sl 1 true ([iI (bH rks (aH a j)) (bH rks (aH a i)),iI (aH a i:Int) (aH a j:Int)].map dC)):=id rfl;have v:=Ki [iI (bH rks (aH a j)) (bH rks (aH a i)),iI (aH a i:Int) (aH a j:Int)] _ g (aV.mk 1 dC _ true) (by simp);rw[EB];simp only[w8,nr,(lV o).1,(lV o).2,(m8 H.ob).1,(m8 H.ob).2,p i hi,p j n,s _ _ l,s _ _ m,q _ h,q _ k,t _ _ (AZ h),t _ _ (AZ k),Kj,y,v,dZ,O,cS,Di]
def Fr(b:D)(g g':Z):Prop:=g'.length=g.length∧∀a,(∀c,b ≠ .S 1 a 0 c)→g'[a]?=g[a]?
theorem Fr.refl(a:D)(g:Z):Fr a g g:=⟨rfl,λ_ _=>rfl⟩
theorem Fr.trans{a:D}{g g' b:Z}(h:Fr a g g')(k:Fr a g' b):Fr a g b:=⟨k.1.trans h.1,λd c=>(k.2 d c).trans (h.2 d c)⟩
theorem AN(l:List Nat)(a:List (List D)){i:Nat}(hi:i<l.length)(x:Nat):(l.map dV++a).set i (dV x)=(l.set i x).map dV++a:=by
 rw[List.set_append_left _ _ (by simpa using hi),← List.map_set]
theorem pw{g:Z}{o r:Nat}{rks:List Int}{a:List Nat}{f:D}(H:dR g o r rks a f){i j:Nat}(hi:i<a.length)(e:j<a.length):∃g',R oF [.ptr o 0 0,.int .i64 (i:Nat),.int .i64 (j:Nat)] g=some (aD [],g')∧dR g' o r rks (ia a i j) f∧Fr f g g':=by
 suffices Wp (R oF [.ptr o 0 0,.int .i64 (i:Nat),.int .i64 (j:Nat)] g) (λu=>u.1=aD []∧dR u.2 o r rks (ia a i j) f∧Fr f g u.2) by
  obtain⟨⟨T,g'⟩,n,rfl,p⟩:=this;exact⟨g',n,p⟩
 rcases H.pp with⟨rfl,rfl⟩|⟨c,h,n,p,rfl,A⟩
 ·simp at hi
 have z:=n8 hi;have G:=n8 e;have B:∀b:Nat,b<a.length→aM tab aN (.S 1 c 0 a.length) (.int .i64 (b:Int))=some (.ptr c b 0):=λb l=>by rw[k0,bN (by omega),e7,dA]
 have C:∀(b q:Nat),a[b]?=some q→aA tab g W (.ptr c b 0)=some (.int .i64 (q:Nat)):=λb q l=>by
  have I:=(bB.1 l).1;rw[fE,eI A,dS (by simpa using I),dG,l];rfl
 rw[EE];simp only[xb,nr,(lV o).1,(m8 H.ob).1,B i hi,B j e,C _ _ z,C _ _ G,O,bS];have M:(a.map dV++h)[i]?=some (dV (aH a i)):=by rw[dS (by simpa using hi),dG,z];rfl
 refine ko (off:=0) (row:=dV (aH a i)) (v :=.int .i64 (aH a j:Nat)) A M (by rfl) (by simp[-Ma,dV]) (by rfl) λF w P=>?_
 have w:F[c]?=some (.row W 1 ((a.set i (aH a j)).map dV++h)):=by
  rw[w,show dF (dV (aH a i)) 0 (bT (.int .i64 (aH a j:Nat)))=dV (aH a j)from rfl,AN _ _ hi]
 try simp only[O]
 obtain⟨m,L⟩:∃m,(a.set i (aH a j))[j]?=some m:=⟨_,cA (by simpa using e)⟩
 have N:((a.set i (aH a j)).map dV++h)[j]?=some (dV m):=by rw[dS (by simpa using e),dG,L];rfl
 refine ko (off:=0) (row:=dV m) (v :=.int .i64 (aH a i:Nat)) w N (by rfl) (by simp[-Ma,dV]) (by rfl) λy x Q=>?_
 have x:y[c]?=some (.row W 1 ((ia a i j).map dV++h)):=by
  rw[x,show dF (dV m) 0 (bT (.int .i64 (aH a i:Nat)))=dV (aH a i)from rfl,AN _ _ (by simpa using e)];rfl
 try simp only[O]
 have E:=P.trans Q;have s:∀d,d≠c→y[d]?=g[d]?:=λd t=>E.2 d t
 refine .some ⟨rfl,⟨by rw[s _ (λk=>n k.symm)];exact H.ob,H.rr,?_,.inr ⟨c,h,n,p,by rw[qb],x⟩,λb l=>H.pb b ((qc hi e).mem_iff.1 l)⟩,E.1,λd t=>s d λk=>t a.length (by rw[k])⟩;obtain⟨er,K⟩:=H.rk;exact⟨er,by rw[s _ (λk=>p k.symm)];exact K⟩
theorem J8{g:Z}{o r:Nat}{rks:List Int}{f l:List Nat}{c:D}(G:rks.length≤1000000000)(N:f.length≤1000000000){j:Nat}(H:dR g o r rks l c)(U:mH (cV (bH rks)) f l j):
  ∃g' a,R qG [.iface iu (.ptr o 0 0),.int .i64 (j:Nat)] g=some (aD [],g')∧dR g' o r rks a c∧Fr c g g'∧a.Perm f∧fI (cV (bH rks)) (aH a) a.length:=by
 suffices Wp (R qG [.iface iu (.ptr o 0 0),.int .i64 (j:Nat)] g) (λq=>q.1=aD []∧∃a,dR q.2 o r rks a c∧Fr c g q.2∧a.Perm f∧fI (cV (bH rks)) (aH a) a.length) by
  obtain⟨⟨Q,g'⟩,m,rfl,a,n⟩:=this;exact⟨g',a,m,n⟩
 rw[Ez];simp only[w6,O,bS];refine Wp.loop (λz k g'=>∃b:Nat,Y 0 k = .int .i64 (b:Nat)∧z=b∧∃a,dR g' o r rks a c∧Fr c g g'∧mH (cV (bH rks)) f a b)
  (λs=>s.1 = .ext 0∧∃a,dR s.2.2 o r rks a c∧Fr c g s.2.2∧a.Perm f∧fI (cV (bH rks)) (aH a) a.length) j ⟨j,rfl,rfl,l,H,Fr.refl _ _,U⟩ ?_ ?_
 ·rintro z k g' ⟨b,x,M,a,d,e,h⟩;have y:b<a.length:=h.u.vj;have P:=h.p.length_eq;by_cases F:b=0
  ·subst F;have t:IntKind.wrap .i64 (((0:Nat):Int) - 1) = -1:=by rw[cX (by omega) (by omega)];omega
   have v:IntKind.wrap .i64 ((-1:Int).tdiv 2)=0:=by decide
   simp only[r6,x,O,bS,fh,t,yy,show ¬((2:Int)=0) by decide,aR,v,gi,show decide ((0:Int)=((0:Nat):Int))=true by decide,cY,fj,iV,gP,kx,cU,aL,aQ];exact .some (.inr ⟨by simp,rfl,a,d,e,xZ h (.inl rfl)⟩)
  ·have t:IntKind.wrap .i64 ((b:Int) - 1)=((b - 1:Nat):Int):=by rw[cX (by omega) (by omega)];omega
   have v:IntKind.wrap .i64 (((b - 1:Nat):Int).tdiv 2)=(((b - 1) / 2:Nat):Int):=by
    have:((b - 1:Nat):Int).tdiv 2=(((b - 1) / 2:Nat):Int):=by rw[Int.tdiv_eq_ediv_of_nonneg (by omega)];omega
    rw[this,cX (by omega) (by omega)]
   have I:decide ((((b - 1) / 2:Nat):Int)=(b:Int))=false:=j4 (by omega);have w:(b - 1) / 2<a.length:=by omega
   have E:=pv d G y w;simp only[r6,x,O,bS,fh,t,yy,show ¬((2:Int)=0) by decide,aR,v,gi,I,cY,fj,aL,oN,E,hd,cU,aY,aQ];by_cases i:cV (bH rks) (aH a b) (aH a ((b - 1) / 2))
   ·obtain⟨L,C,B,A⟩:=pw d w y;have p:decide (cV (bH rks) (aH a b) (aH a ((b - 1) / 2)))=true:=jx i;simp only[p,gn,aY,aR,oO,C,O];exact .some (.inl ⟨rfl,(b - 1) / 2,by omega,_,rfl,rfl,_,B,e.trans A,Cv (g6 _) h (by omega) i⟩)
   ·have p:decide (cV (bH rks) (aH a b) (aH a ((b - 1) / 2)))=false:=j4 i;rw[p];exact .some (.inr ⟨by simp,rfl,a,d,e,xZ h (.inr i)⟩)
 ·rintro⟨K,k,g'⟩ ⟨r1,a,d,e,m,n⟩;simp only at r1 d e;subst r1;simp only[fb,qq,O];exact .some ⟨rfl,a,d,e,m,n⟩
theorem J9 {g:Z} {o r:Nat} {rks:List Int} {f l:List Nat} {p:D} (P:rks.length≤1000000000) (av:f.length≤1000000000) {N:Nat} (H:dR g o r rks l p) (ak:fI (cV (bH rks)) (aH f) f.length) (U:kL (cV (bH rks)) f l N 0) :
  ∃g' a v,R qH [.iface iu (.ptr o 0 0),.int .i64 0,.int .i64 (N:Nat)] g=some (v,g')∧dR g' o r rks a p∧Fr p g g'∧a.length=N+1∧aH a N=aH f 0∧f.Perm (aH f 0::a.take N)∧fI (cV (bH rks)) (aH (a.take N)) (a.take N).length∧∀y∈f,¬cV (bH rks) y (aH f 0):=by
 suffices Wp (R qH [.iface iu (.ptr o 0 0),.int .i64 0,.int .i64 (N:Nat)] g) (λah=>∃a i,dR ah.2 o r rks a p∧Fr p g ah.2∧kL (cV (bH rks)) f a N i∧∀c,0<c→c<N→(c - 1) / 2=i→¬cV (bH rks) (aH a c) (aH a i)) by
  obtain⟨⟨ar,g'⟩,M,a,i,z,al,ab,am⟩:=this;obtain⟨an,ao,ap⟩:=Cg (g6 _) ak ab am;exact⟨g',a,ar,M,z,al,ab.n,ab.x,an,ao,ap⟩
 rw[EA];simp only[w7,O,bS];refine Wp.loop (λc aa g'=>∃b:Nat,Y 0 aa = .int .i64 (b:Nat)∧c=N - b∧b≤N∧∃a,dR g' o r rks a p∧Fr p g g'∧kL (cV (bH rks)) f a N b)
  (λQ=>Q.1 = .ext 0∧(∃ag:Int,Y 0 Q.2.1 = .int .i64 ag)∧∃a i,dR Q.2.2 o r rks a p∧Fr p g Q.2.2∧kL (cV (bH rks)) f a N i∧∀c,0<c→c<N→(c - 1) / 2=i→¬cV (bH rks) (aH a c) (aH a i)) (N - 0) ⟨0,rfl,rfl,iD _,l,H,Fr.refl _ _,U⟩ ?_ ?_
 ·rintro c aa g' ⟨b,af,w,ax,a,d,m,n⟩;have ay:=n.p.length_eq;have aw:=n.n;by_cases M:2*b+1<N
  ·have A:b<a.length:=by omega
   have ac:IntKind.wrap .i64 (2*(b:Int))=((2*b:Nat):Int):=by rw[cX (by omega) (by omega)];omega
   have ad:IntKind.wrap .i64 (((2*b:Nat):Int)+1)=((2*b+1:Nat):Int):=by rw[cX (by omega) (by omega)];omega
   have aq:IntKind.wrap .i64 (((2*b+1:Nat):Int)+1)=((2*b+2:Nat):Int):=by rw[cX (by omega) (by omega)];omega
   have T:decide ((N:Int)≤((2*b+1:Nat):Int))=false:=j4 (by omega);have ai:decide (((2*b+1:Nat):Int)<0)=false:=j4 (by omega);simp only[r7,af,O,bS,lL,ac,eL,ad,jb,T,cY,aL,dZ,ai,cU,aY,aR,aQ,aq];by_cases z:2*b+2<N
   ·have X:decide (((2*b+2:Nat):Int)<(N:Int))=true:=jx (by omega);have aj:=pv d P (i:=2*b+2) (j:=2*b+1) (by omega) (by omega);simp only[X,aL,fj,oN,aj,O,cU];by_cases x:cV (bH rks) (aH a (2*b+2)) (aH a (2*b+1))
    ·rw [jx x];simp only[aL,aQ,O,dW,cL];obtain⟨j,s⟩:∃j:Nat,j=2*b+2:=⟨_,rfl⟩
     have L:j<N:=by omega
     have t:j<a.length:=by omega
     have u:=sB (g6 (bH rks)) (l:=a) (N:=N) (i:=b) j (.inl ⟨z,x,s⟩);have I:=pv d P t A;have K:(((2*b+2:Nat)):Int)=((j:Nat):Int):=by rw[s]
     simp only[K,oN,I,hd,aQ,O,dW,cL];by_cases e:cV (bH rks) (aH a j) (aH a b)
     ·obtain⟨ae,G,F,E⟩:=pw d A t;have k:decide (cV (bH rks) (aH a j) (aH a b))=true:=jx e;simp only[k,gn,aY,aR,oO,G,O];exact .some (.inl ⟨rfl,N - j,by omega,j,rfl,rfl,by omega,_,F,m.trans E,sC (g6 _) n (by omega) L (by omega) u e⟩)
     ·have k:decide (cV (bH rks) (aH a j) (aH a b))=false:=j4 e;rw[k];exact .some (.inr ⟨by simp,rfl,⟨_,rfl⟩,a,b,d,m,n,λc C w B q=>u c C w B (by
       rcases(g6 (bH rks)).mo (aH a j) (aH a b)with h|h|h
       ·exact absurd h e
       ·rw[h];exact q
       ·exact(g6 (bH rks)).tr _ _ _ q h)⟩)
    ·rw [j4 x];simp only[aY,aR,aQ,O,dW,cL];obtain⟨j,s⟩:∃j:Nat,j=2*b+1:=⟨_,rfl⟩
     have L:j<N:=by omega
     have t:j<a.length:=by omega
     have u:=sB (g6 (bH rks)) (l:=a) (N:=N) (i:=b) j (.inr ⟨.inr x,s⟩);have I:=pv d P t A;have K:(((2*b+1:Nat)):Int)=((j:Nat):Int):=by rw[s]
     simp only[K,oN,I,hd,aQ,O,dW,cL];by_cases e:cV (bH rks) (aH a j) (aH a b)
     ·obtain⟨ae,G,F,E⟩:=pw d A t;have k:decide (cV (bH rks) (aH a j) (aH a b))=true:=jx e;simp only[k,gn,aY,aR,oO,G,O];exact .some (.inl ⟨rfl,N - j,by omega,j,rfl,rfl,by omega,_,F,m.trans E,sC (g6 _) n (by omega) L (by omega) u e⟩)
     ·have k:decide (cV (bH rks) (aH a j) (aH a b))=false:=j4 e;rw[k];exact .some (.inr ⟨by simp,rfl,⟨_,rfl⟩,a,b,d,m,n,λc C w B q=>u c C w B (by
       rcases(g6 (bH rks)).mo (aH a j) (aH a b)with h|h|h
       ·exact absurd h e
       ·rw[h];exact q
       ·exact(g6 (bH rks)).tr _ _ _ q h)⟩)
   ·have X:decide (((2*b+2:Nat):Int)<(N:Int))=false:=j4 (by omega);simp only[X,aY,aR,fj,kx,gP,O,cU,aQ,dW,cL];obtain⟨j,s⟩:∃j:Nat,j=2*b+1:=⟨_,rfl⟩
    have L:j<N:=by omega
    have t:j<a.length:=by omega
    have u:=sB (g6 (bH rks)) (l:=a) (N:=N) (i:=b) j (.inr ⟨.inl z,s⟩);have I:=pv d P t A;have K:(((2*b+1:Nat)):Int)=((j:Nat):Int):=by rw[s]
    simp only[K,oN,I,hd,aQ,O,dW,cL];by_cases e:cV (bH rks) (aH a j) (aH a b)
    ·obtain⟨ae,G,F,E⟩:=pw d A t;have k:decide (cV (bH rks) (aH a j) (aH a b))=true:=jx e;simp only[k,gn,aY,aR,oO,G,O];exact .some (.inl ⟨rfl,N - j,by omega,j,rfl,rfl,by omega,_,F,m.trans E,sC (g6 _) n (by omega) L (by omega) u e⟩)
    ·have k:decide (cV (bH rks) (aH a j) (aH a b))=false:=j4 e;rw[k];exact .some (.inr ⟨by simp,rfl,⟨_,rfl⟩,a,b,d,m,n,λc C w B q=>u c C w B (by
      rcases(g6 (bH rks)).mo (aH a j) (aH a b)with h|h|h
      ·exact absurd h e
      ·rw[h];exact q
      ·exact(g6 (bH rks)).tr _ _ _ q h)⟩)
  ·have ac:IntKind.wrap .i64 (2*(b:Int))=((2*b:Nat):Int):=by rw[cX (by omega) (by omega)];omega
   have ad:IntKind.wrap .i64 (((2*b:Nat):Int)+1)=((2*b+1:Nat):Int):=by rw[cX (by omega) (by omega)];omega
   have T:decide ((N:Int)≤((2*b+1:Nat):Int))=true:=jx (by omega);simp only[r7,af,O,bS,lL,ac,eL,ad,jb,T,cY,iV,aR,gP,cU,aL,aQ];exact .some (.inr ⟨by simp,rfl,⟨_,rfl⟩,a,b,d,m,n,λc C w B=>by omega⟩)
 ·rintro⟨au,aa,g'⟩ ⟨r1,⟨ag,x⟩,a,i,d,m,M,z⟩;simp only at r1 d m x;subst r1;simp only[fb,dW,cL,x,eM,O];exact .some ⟨a,i,d,m,M,z⟩
theorem Ka{g:Z}{o r:Nat}{rks:List Int}{l:List Nat}{h:D}(H:dR g o r rks l h){N:Nat}(m:l.length=N+1)(G:l.length≤1000000000):
  ∃g' c,R qI [.ptr o 0 0] g=some (aD [.iface W (.int .i64 (aH l N:Nat))],g')∧dR g' o r rks (l.take N) c∧g'.length=g.length∧(∀b,b≠o→g'[b]?=g[b]?)∧∃a,h = .S 1 a 0 (N+1)∧c = .S 1 a 0 N:=by
 suffices Wp (R qI [.ptr o 0 0] g) (λe=>e.1=aD [.iface W (.int .i64 (aH l N:Nat))]∧∃c,dR e.2 o r rks (l.take N) c∧e.2.length=g.length∧(∀b,b≠o→e.2[b]?=g[b]?)∧∃a,h = .S 1 a 0 (N+1)∧c = .S 1 a 0 N) by
  obtain⟨⟨I,g'⟩,d,rfl,c,k⟩:=this;exact⟨g',c,d,k⟩
 rcases H.pp with⟨rfl,rfl⟩|⟨a,s,d,k,rfl,q⟩
 ·simp at m
 rw[m]at H ⊢;have p:l[N]?=some (aH l N):=n8 (by omega);have F:IntKind.wrap .i64 (((N+1:Nat):Int) - 1)=((N:Nat):Int):=by rw[cX (by omega) (by omega)];omega
 have A:aM tab aN (.S 1 a 0 (N+1)) (.int .i64 (N:Int))=some (.ptr a N 0):=by rw[k0,bN (by omega),e7,dA]
 have C:aA tab g W (.ptr a N 0)=some (.int .i64 (aH l N:Nat)):=by
  rw[fE,eI q,dS (by simp;omega),dG,p];rfl
 have E:gj tab aN false true false [.S 1 a 0 (N+1),.int .i64 (N:Int)]=some (.S 1 a 0 N):=I7 (T:=tab) (t:=aN) (i:=kn) (j:=eO) (id rfl) (id rfl) (id rfl) (id rfl) (by decide) (by omega);rw[EC];simp only[w9,nr,(lV o).1,(m8 H.ob).1,z6,fh,F,A,C,E,O,bS];refine BL (kk:=0) (off:=0) (row:=[.S 1 a 0 (N+1),.S 1 r 0 rks.length]) (v :=.S 1 a 0 N) H.ob (by rfl) (by rfl) (by simp) (by rfl) λu n f=>?_
 have n:u[o]?=some (.row dM 2 [[.S 1 a 0 N,.S 1 r 0 rks.length]]):=n
 try simp only[O]
 have w:l=l.take N++[aH l N]:=by
  have d:l.take (N+1)=l.take N++l[N]?.toList:=jq;rw[gK (by omega),p]at d;exact d
 obtain⟨er,z⟩:=H.rk;refine .some ⟨rfl,_,⟨n,H.rr,⟨er,by rw[f.2 _ H.rr];exact z⟩,.inr ⟨a,dV (aH l N)::s,d,k,by rw[hG,m];congr 1;omega,?_⟩,λB x=>H.pb B (gb x)⟩,f.1,λb y=>f.2 b y,a,rfl,rfl⟩;rw[f.2 _ d,q];congr 2
 conv=>lhs;rw[w]
 simp[-Ma]
theorem J7{g:Z}{o r:Nat}{rks:List Int}{l:List Nat}{d:D}(I:rks.length≤1000000000){N:Nat}(q:l.length=N+1)(C:l.length≤1000000000)(H:dR g o r rks l d)(p:fI (cV (bH rks)) (aH l) l.length):
  ∃g' k b,R tz [.iface iu (.ptr o 0 0)] g=some (.iface W (.int .i64 (aH l 0:Nat)),g')∧dR g' o r rks b k∧l.Perm (aH l 0::b)∧fI (cV (bH rks)) (aH b) b.length∧(∀y∈l,¬cV (bH rks) y (aH l 0))∧g'.length=g.length∧(∀a,a≠o→(∀n,d ≠ .S 1 a 0 n)→g'[a]?=g[a]?)∧∃c,d = .S 1 c 0 (N+1)∧k = .S 1 c 0 N:=by
 have aa:IntKind.wrap .i64 (((N+1:Nat):Int) - 1)=((N:Nat):Int):=by rw[cX (by omega) (by omega)];omega
 have m:=vK H;obtain⟨A,e,t,f⟩:=pw H (i:=0) (j:=N) (by omega) (by omega);obtain⟨ac,L,ad,x,u,h,M,ab,Q,T,X⟩:=J9 I C t p (Cf q p);obtain⟨B,w,z,v,P,K,c,E,F⟩:=Ka u M (by omega);rw[q]at m;have e:R oF [.ptr o 0 0,.int .i64 0,.int .i64 (N:Nat)] g=some (aD [],A):=e;refine⟨B,w,L.take N,?_,v,Q,T,X,by rw[P,h.1,f.1],λa G s=>by rw[K a G,h.2 a s,f.2 a s],c,E,F⟩;rw[Ey];simp only[w5,zD,m,fh,aa,oO,e,x,Hb,z,O,cS,ab]
theorem CD{g:Z}{o r:Nat}{rks:List Int}{a:List Nat}{h:D}(H:dR g o r rks a h)(I:a.length≤1000000000)(k:Nat):
  ∃c g1 b,dH tab g aN aN h (.sl 1 true [dV k])=some (.S 1 c 0 (a.length+1),g1)∧g1[c]?=some (.row W 1 ((a++[k]).map dV++b))∧c≠o∧c≠r∧g.length≤g1.length∧((∃n,h = .S 1 c 0 n)∨g.length≤c)∧∀e,(∀n,h ≠ .S 1 e 0 n)→e<g.length→g1[e]?=g[e]?:=by
 have s:tab aN=some kn:=id rfl;have t:kn.td = .sl W:=id rfl;have u:tab W=some eO:=id rfl;have v:eO.V=1:=id rfl;have w:eO.fJ=8:=id rfl;have q:iK g kn eO (.sl 1 true [dV k])=some [dV k]:=id rfl;have j:Nat.blt 0 1=true:=rfl;have K:=(bB.1 H.ob).1;obtain⟨er,C⟩:=H.rk;have L:=(bB.1 C).1;have f:cC (a.length+1) 8=true:=kB (by omega) (by omega);rcases H.pp with⟨rfl,rfl⟩|⟨c,b,z,A,rfl,p⟩
 ·refine⟨g.length,aK g W 1 [dV k],[],?_,by rw[ic];rfl,by omega,by omega,by simp[-Ma,aK],.inr (aT _),λe _ i=>g8 _ _ _ _ i⟩;unfold dH;have f:cC 1 8=true:=f;simp only[s,t,u,v,w,q,j,e8,fB,dA,f,aL]
 ·have B:=(bB.1 p).1;cases b with
  | nil =>
   refine⟨g.length,aK (g.set c .dead) W 1 ((a++[k]).map dV),[],?_,?_,by omega,by omega,by simp[-Ma,aK],.inr (aT _),λe m i=>?_⟩
   ·unfold dH;simp only[s,t,u,v,w,q,j,p,se,fY,e8,fB,dA,f,aT,gv,aL,jm,iB,List.map_nil]
   ·have:=ic (g.set c .dead) W 1 ((a++[k]).map dV);rw[List.length_set]at this;rw[this,se]
   ·rw[g8 _ _ _ _ (by rw[List.length_set];exact i),hZ (λl=>m a.length (by rw[l]))]
  | cons d b =>
   refine⟨c,g.set c (.row W 1 ((a++[k]).map dV++b)),b,?_,jV B,z,A,by simp,.inl ⟨_,rfl⟩,λe m i=>hZ (λl=>m a.length (by rw[l]))⟩;unfold dH;have E:¬a.length=(a.map dV++d::b).length:=by simp
   have F:a.length+1≤(a.map dV++d::b).length:=by simp
   have G:a.length≤(a.map dV++d::b).length:=by simp
   have x:(a.map dV++d::b).take a.length=a.map dV:=List.take_left' (by simp);have y:(a.map dV++d::b).drop (a.length+1)=b:=by
    have:a.map dV++d::b=(a.map dV++[d])++b:=by simp
    rw[this];exact List.drop_left' (by simp)
   simp only[s,t,u,v,w,q,j,p,e8,fB,dA,f,E,F,G,gv,aL,aR,x,y,jm,iB,List.map_nil]
theorem Kb{g:Z}{o r:Nat}{rks:List Int}{f:List Nat}{e:D}(H:dR g o r rks f e)(I:f.length≤1000000000){k:Nat}(G:k<rks.length):
  ∃g' h,R qJ [.ptr o 0 0,.iface W (.int .i64 (k:Nat))] g=some (aD [],g')∧dR g' o r rks (f++[k]) h∧g.length≤g'.length∧(∃b,h = .S 1 b 0 (f.length+1)∧((∃n,e = .S 1 b 0 n)∨g.length≤b))∧∀a,a≠o→(∀n,e ≠ .S 1 a 0 n)→a<g.length→g'[a]?=g[a]?:=by
 suffices Wp (R qJ [.ptr o 0 0,.iface W (.int .i64 (k:Nat))] g) (λl=>l.1=aD []∧∃h,dR l.2 o r rks (f++[k]) h∧g.length≤l.2.length∧(∃b,h = .S 1 b 0 (f.length+1)∧((∃n,e = .S 1 b 0 n)∨g.length≤b))∧∀a,a≠o→(∀n,e ≠ .S 1 a 0 n)→a<g.length→l.2[a]?=g[a]?) by
  obtain⟨⟨u,g'⟩,A,rfl,h,B⟩:=this;exact⟨g',h,A,B⟩
 obtain⟨b,ab,y,x,aa,t,T,Q,w,p⟩:=CD H I k;have M:=(bB.1 H.ob).1;obtain⟨er,s⟩:=H.rk;have P:=(bB.1 s).1;have E:∀n,e ≠ .S 1 o 0 n:=λn i=>by
  rcases H.pp with⟨c,_⟩|⟨X,_,c,_,d,_⟩
  ·rw[i]at c;cases c
  ·rw[i]at d;injection d with _ d;exact c d.symm
 have F:∀n,e ≠ .S 1 r 0 n:=λn i=>by
  rcases H.pp with⟨c,_⟩|⟨X,_,_,c,d,_⟩
  ·rw[i]at c;cases c
  ·rw[i]at d;injection d with _ d;exact c d.symm
 have C:kS W (.iface W (.int .i64 (k:Nat)))=some (.int .i64 (k:Nat)):=by simp[-Ma,kS]
 have lt:bF tab aN 1 [0] [.int .i64 (k:Nat)]=some (.sl 1 true [dV k]):=id rfl;rw[ED];simp only[xa,nr,(lV o).1,(m8 H.ob).1,C,lt,x,O,bS];refine BL (kk:=0) (off:=0) (row:=[e,.S 1 r 0 rks.length]) (v :=.S 1 b 0 (f.length+1)) (by rw[p o E M];exact H.ob) (by rfl) (by rfl) (by simp) (by rfl) λz q m=>?_
 have q:z[o]?=some (.row dM 2 [[.S 1 b 0 (f.length+1),.S 1 r 0 rks.length]]):=q
 try simp only[O]
 refine .some ⟨rfl,_,⟨q,H.rr,⟨er,by rw[m.2 _ H.rr,p r F P];exact s⟩,.inr ⟨b,y,t,T,by simp,by rw[m.2 _ t];exact aa⟩,λu j=>?_⟩,by rw[m.1];exact Q,⟨b,rfl,w⟩,λa N L K=>by rw[m.2 a N];exact p a L K⟩;rcases fZ.1 j with j|j
 ·exact H.pb u j
 ·rw[h4.1 j];exact G
theorem Bg{g:Z}{o r:Nat}{rks:List Int}{a:List Nat}{f:D}(G:rks.length≤1000000000)(T:a.length≤999999999){k:Nat}(B:k<rks.length)(H:dR g o r rks a f)(A:fI (cV (bH rks)) (aH a) a.length):
  ∃g' l e,R qF [.iface iu (.ptr o 0 0),.iface W (.int .i64 (k:Nat))] g=some (aD [],g')∧dR g' o r rks e l∧e.Perm (a++[k])∧fI (cV (bH rks)) (aH e) e.length∧g.length≤g'.length∧(∃c m,l = .S 1 c 0 m∧((∃n,f = .S 1 c 0 n)∨g.length≤c))∧∀b,b≠o→(∀n,f ≠ .S 1 b 0 n)→b<g.length→g'[b]?=g[b]?:=by
 obtain⟨Q,w,x,j,L,⟨c,u,q⟩,I⟩:=Kb H (by omega) B;have p:=vK j;have s:(a++[k]).length=a.length+1:=by simp
 have P:IntKind.wrap .i64 (((a.length+1:Nat):Int) - 1)=((a.length:Nat):Int):=by rw[cX (by omega) (by omega)];omega
 rw[s]at p;obtain⟨z,K,y,v,i,M,N⟩:=J8 G (by rw[s];omega) j (Cu k A);refine⟨z,w,K,?_,v,M,N,by rw[i.1];exact L,⟨c,_,u,q⟩,λb F t C=>?_⟩
 ·rw[Ew];simp only[w4,Hc,zD,x,p,fh,P,y,O]
 ·rw[i.2 b (λn d=>by
    rw[u]at d;injection d with _ d;subst d;rcases q with⟨m,E⟩|h
    ·exact t m E
    ·omega),I b F t C]
theorem K8(h:Z)(x y:D):dH tab h aN aN x y=nH W eO kn h x y:=id rfl
theorem K9(h:Z)(x y:D):dH tab h aN W x y=nH W eO eO h x y:=id rfl
theorem qX{n:Nat}(h:n≤2000000000):cC n eO.fJ=true:=kB (show n*8≤140737488355328 by omega) (by omega)
theorem Bf{rks:List Int}{d:D}(m:aV 1 dC rks d)(h:Z)(o:rks.length≤900000000)(f:0<rks.length):R lU [d] h=some (.S 1 h.length 0 rks.length,aK h W 1 (rks.map dC)):=by
 rcases m with⟨rfl,rfl⟩|⟨a,rfl⟩
 ·simp at f
 rw[qo];have j:U tab .eql aN (.sl 1 a (rks.map dC)) .J=some (.bool false):=id rfl;have k:dH tab h aN aN (.sl 1 true []) (.sl 1 a (rks.map dC))=some (.S 1 h.length 0 rks.length,aK h W 1 (rks.map dC)):=by
  rw[K8];have l:iK h kn eO (.sl 1 a (rks.map dC))=some (rks.map dC):=by
   show(if 1=eO.V then some (rks.map dC)else none)=_;exact bN rfl
  unfold nH;rw[l];obtain⟨b,c,rfl⟩:∃b c,rks=b::c:=by
   cases rks with
   |nil=>simp at f
   |cons g i=>exact⟨g,i,rfl⟩
  have e:cC ((b::c).length) eO.fJ=true:=qX (by omega);have n:eO.V=1:=id rfl;simp only[n,show Nat.blt 0 1=true from rfl,iB,e8,fB,dA,jW,fY]at e ⊢;simp only[e,gv,aL]
 simp only[nM,j,aQ,yf,k,O,cS,aY,aR]
theorem wq{x:Option Unit}(h:Wp x λ_=>True):x=some ():=by
 obtain⟨a,h,_⟩:=h;cases a;exact h
theorem qw{x:Option Unit}(h:x=some ()):Wp x λ_=>True:=⟨(),h,trivial⟩
theorem IY{a:Mp}{b m:Nat}{f:Int→Option Int}(d:a b=some (.mp m f)){i:Int}(hi:eB i)(c:MK):oZ a (.raw (.map (some b))) (.int .i64 i) true c=c (.bU [.int .i64 ((f i).getD 0),.bool (f i).isSome]) a:=by
 unfold oZ;simp only[d,eD,hi,aL]
theorem I0{a:Mp}{b m:Nat}{f:Int→Option Int}(e:a b=some (.mp m f)){i c:Int}(hi:eB i)(g:eB c)(h:m<1000000000)(d:MK):nk a (.raw (.map (some b))) (.int .i64 i) (.int .i64 c) d=d .bJ (a.mr b (.mp (m+1) λx=>if x=i then some c else f x)):=by
 unfold nk;simp only[e,eD,hi,g,h,gv,aL]
theorem K4(a:Mp)(b:Nat)(o:MO):a.mr b o b=some o:=by
 unfold Mp.mr;exact bN rfl
theorem nC(a:Mp)(b:Nat)(o:MO):a.set b o b=some o:=by
 unfold Mp.set;exact bN rfl
abbrev dI(l:List It):Nat→Int:=gN (l.map λa=>a.e.a1)
def ja(l:List It)(k:Nat):Int:=match gD l.length (dI l) (k+1) (dI l k)with
 |some a=>a
 |none => -1
def h7(l:List It)(k:Nat)(f:Int→Option Int):Prop:=∀a,f a=(gD l.length (dI l) k a).map λb=>((b:Nat):Int)
theorem zi{l:List It}{k:Nat}{i:It}(h:l[k]?=some i):dI l k=i.e.a1:=by
 simp[-Ma,dI,gN,h]
theorem h7.step{l:List It}{k:Nat}(c:k<l.length){f:Int→Option Int}(h:h7 l (k+1) f):h7 l k λx=>if x=dI l k then some ((k:Nat):Int)else f x:=λx=>by
 show(if x=dI l k then _ else _)=_;split
 ·rename_i a;rw[a,Cn c];rfl
 ·rename_i a;rw[h x,Cp (λb=>a b.symm)]
theorem h7.end_(l:List It):h7 l l.length λ_=>none:=λa=>by rw[Co];rfl
theorem h7.look{l:List It}{k:Nat}{f:Int→Option Int}(h:h7 l (k+1) f):(if(f (dI l k)).isSome=true then(f (dI l k)).getD 0 else -1)=ja l k:=by
 rw[h];unfold ja;cases gD l.length (dI l) (k+1) (dI l k)<;>rfl
theorem s5(e:Ev):aC tab aF 1 (.aE (bR e))=some (.aE (.int .i64 e.a1::(bR e).drop 2)):=id rfl
theorem z1(e:Ev)(h:Z):aA tab h W (.aE (.int .i64 e.a1::(bR e).drop 2))=some (.int .i64 e.a1):=id rfl
theorem Ah{l:List It}{P:D}(av:aV 11 aJ l P)(a8:l.length≤900000000)(aw:∀i∈l,eB i.e.a1){a b:Nat}{g:Z}{H:Mp}{y:Ex→List D→Z→Mp→Option Unit}(au:g[a]?=some (.row W 1 (List.replicate l.length [.int .i64 0])))(ar:H b=some (.mp 0 λ_=>none))(K L M N:D)
  (a4:∀ds g' k rows m f,bY a g g'→g'[a]?=some (.row W 1 rows)→rows.length=l.length→(∀j,j<l.length→rows[j]?=some (dC (ja l j)))→k b=some (.mp m f)→h7 l 0 f→y (.ext 0) ds g' k=some ()) :
  k8 (pX P (.S 1 a 0 l.length) (.raw (.map (some b)))) [.int .i64 ((l.length:Int) - 1),K,L,M,N] g H y=some ():=by
 refine vi (λc ds g' k=>∃q r s t rows,ds=[.int .i64 ((c:Int) - 1),q,r,s,t]∧bY a g g'∧g'[a]?=some (.row W 1 rows)∧rows.length=l.length∧(∀j,c≤j→j<l.length→rows[j]?=some (dC (ja l j)))∧(∀d∈rows,d.length=1)∧c≤l.length∧∃m f,k b=some (.mp m f)∧m+c=l.length∧h7 l c f) l.length
  ⟨K,L,M,N,_,rfl,bY.refl _ _,au,by simp,(λj aq R=>by omega),(λd w=>by rw[xG w];rfl),aT _,0,_,ar,by omega,h7.end_ l⟩ ?_
 rintro c ds Q I ⟨q,r,s,t,rows,rfl,ag,w,ae,ad,ac,a7,m,f,A,a9,B⟩;cases c with
 | zero =>
  have u:¬(0:Int)≤((0:Nat):Int) - 1:=by omega
  simp only[pX,cL,jb,O,u,cT,aQ,aY,aR,dT];exact a4 _ Q I rows m f ag w ae (λj ay=>ad j (iD _) ay) A B
 | succ c =>
  have ab:c<l.length:=by omega
  have ao:(((c+1:Nat):Int) - 1)=(c:Int):=by omega
  have u:(0:Int)≤(c:Int):=by omega
  have a0:(c:Int)<(l.length:Int):=by omega
  obtain⟨o,E⟩:∃i,l[c]?=some i:=⟨_,cA ab⟩
  obtain⟨d,af⟩:∃G,rows[c]?=some G:=⟨_,cA (by omega)⟩
  have a2:=ac d (dX af);have T:=zi E;have aa:eB o.e.a1:=aw o (dX E);have ax:eB (c:Int):=by unfold eB;omega
  have a6:IntKind.wrap .i64 ((c:Int) - 1)=(c:Int) - 1:=cX (by omega) (by omega);rw[ao];refine wq ?_;simp only[pX,cL,jb,O,u,dJ,aQ,aL,k0,a0,gv,e7,dA,bS];refine ko w af rfl (by omega) rfl λap C ai=>?_
  have a3:∀z:Int,dF d 0 (bT (.int .i64 z))=dC z:=λz=>by
   obtain⟨ah,rfl⟩:∃ah,d=[ah]:=by
    match d,a2 with
    |[G],_=>exact⟨G,rfl⟩
   rfl
  rw[a3]at C;simp only[O,nb av,u,aL,e7,E,gC,oP,s5,z1];rw[IY A aa];simp only[jw,jl,lz,O];have h:=B.look;rw[T]at h
  suffices X:∀n,bY a Q n→n[a]?=some (.row W 1 (rows.set c (dC (ja l c))))→∀ak al aj am,Wp (nk I (.raw (.map (some b))) (.int .i64 o.e.a1) (.int .i64 c) λba an=>(U tab .sub W (.int .i64 c) (.int .i64 1)).bind λa5=>pz (λc ds g' k=>∃q r s t rows,ds=[.int .i64 ((c:Int) - 1),q,r,s,t]∧bY a g g'∧g'[a]?=some (.row W 1 rows)∧rows.length=l.length∧(∀j,c≤j→j<l.length→rows[j]?=some (dC (ja l j)))∧(∀d∈rows,d.length=1)∧c≤l.length∧∃m f,k b=some (.mp m f)∧m+c=l.length∧h7 l c f) (c+1) y .aO [a5,ak,al,aj,am] n an) λ_=>True by
   cases x:(f o.e.a1).isSome with
   | false =>
    rw[x]at h;simp only[aY,aR]at h;simp only[aQ,x,aY,aR,O,dW,nF];exact X ap ai (by rw[C,h]) _ _ _ _
   | true =>
    rw[x]at h;simp only[aL]at h;have a1:(rows.set c (dC (-1)))[c]?=some (dC (-1)):=by rw[jV (by omega)]
    simp only[aQ,x,aL,bS];refine ko C a1 rfl (by simp[-Ma,dC]) rfl λn v F=>?_
    rw[show dF (dC (-1)) 0 (bT (.int .i64 ((f o.e.a1).getD 0)))=dC ((f o.e.a1).getD 0)from rfl,List.set_set,h]at v;simp only[O,dW,nF];exact X n (ai.trans F) v _ _ _ _
  intro n F v ak al aj am;rw[I0 A aa ax (by omega)];simp only[fh,a6,O];refine qw ?_;unfold pz;refine mP.2 ⟨⟨c,su c,_,_,_,_,_,rfl,ag.trans F,v,by simpa using ae,λj aq R=>?_,λd p=>?_,by omega,m+1,_,K4 _ _ _,by omega,?_⟩,rfl⟩
  ·by_cases az:j=c
   ·subst az;rw[jV (by omega)]
   ·rw[hZ (by omega)];exact ad j (by omega) R
  ·rcases xL p with p|p
   ·exact ac d p
   ·rw[p];rfl
  ·rw[← T];exact B.step ab
theorem Aj{a:Mp}{r b n:Nat}{f:Int→Option Int}{left:Int→Bool}{h:Option (Int × Int)}(j:a r=some (.it b n f left h)){e:MK}(i:(∀x,eB x→left x=false)→e (.bU [.bool false]) a=some ())
  (h2:∀x c,eB x→eB c→left x=true→f x=some c→e (.bU [.bool true,.int .i64 x,.int .i64 c]) (a.set r (.it b n f (λz=>left z && !(z==x)) (some (x,c))))=some ()):pa a (.raw (.pointer (some ⟨r,0,none⟩))) e=some ():=by
 unfold pa;simp only[j];rw[kb.2 i];simp only[O];exact kQ.2 λg=>kb.2 λd=>h2 g.1 g.2 d.1 d.2.1 d.2.2.1 d.2.2.2
theorem IV{a:Mp}{r b n:Nat}{f:Int→Option Int}{left:Int→Bool}{x c:Int}(e:a r=some (.it b n f left (some (x,c))))(d:MK):oY a (.raw (.pointer (some ⟨r,0,none⟩))) d=d (.bU [.int .i64 x,.int .i64 c]) a:=by
 unfold oY;simp only[e]
theorem h7.some{l:List It}{f:Int→Option Int}(h:h7 l 0 f){x c:Int}(a:f x=Option.some c):∃k:Nat,c=(k:Int)∧k<l.length∧dI l k=x∧gD l.length (dI l) 0 x=Option.some k:=by
 rw[h x]at a;cases b:gD l.length (dI l) 0 x with
 |none=>rw[b]at a;cases a
 | some k =>
  rw[b]at a;injection a with a;obtain⟨_,d,e,_⟩:=kN.1 b;exact⟨k,a.symm,d,e,rfl⟩
theorem H0{l:List It}(bm:l.length≤900000000)(az:∀i∈l,eB i.e.a1){o r I b n0:Nat}{g:Z}{P:Mp}{rks:List Int}(a8:rks.length≤1000000000)(bp:l.length≤rks.length){N:Ex→List D→Z→Mp→Option Unit}(H:dR g o r rks [] .J){f:Int→Option Int}(au:P I=some (.it b n0 f (λx=>(f x).isSome) none))(t:h7 l 0 f)(X aa:D)
  (be:∀ds g' y a k,dR g' o r rks a k→fI (cV (bH rks)) (aH a) a.length→kM l.length (dI l) [] a→g.length≤g'.length→(∀j,j≠o→j<g.length→g'[j]?=g[j]?)→(k = .J∨∃q m,k = .S 1 q 0 m∧g.length≤q)→N (.ext 2) ds g' y=some ()) :
  k8 (nQ (.ptr o 0 0) (.raw (.pointer (some ⟨I,0,none⟩)))) [X,aa] g P N=some ():=by
 refine vi (λm ds g' y=>∃Q R a k left T,ds=[Q,R]∧dR g' o r rks a k∧fI (cV (bH rks)) (aH a) a.length∧g.length≤g'.length∧(∀j,j≠o→j<g.length→g'[j]?=g[j]?)∧(k = .J∨∃q m,k = .S 1 q 0 m∧g.length≤q)∧y I=some (.it b n0 f left T)∧a.Nodup∧(∀h:Nat,h∈a↔∃x,eB x∧f x=some (h:Int)∧left x=false)∧m+a.length=l.length) l.length
  ⟨X,aa,[],_,_,_,rfl,H,(λh bi s=>by simp at s),aT _,λ_ _ _=>rfl,.inl rfl,au,List.nodup_nil,λh=>⟨λs=>(by cases s),λ⟨x,_,d,c⟩=>(by rw[d]at c;cases c)⟩,by simp⟩ ?_
 rintro m ds ap am ⟨Q,R,a,k,left,T,rfl,M,ab,a1,ad,B,av,F,v,bn⟩;simp only[nQ];refine Aj av (λax=>?_) λx bg ai bj a5 z=>?_
 ·simp only[jw,jl,O,aQ,aY,aR];refine be _ ap am a k M ab ⟨F,λi=>?_⟩ a1 ad B;rw[v i,Ch];constructor
  ·rintro⟨x,ai,d,c⟩;obtain⟨h,s,n,u,aq⟩:=t.some d;have:i=h:=by omega
   subst this;rw[u];exact aq
  ·intro d;have c:=kN.1 d;obtain⟨ba,ae⟩:∃p,l[i]?=some p:=⟨_,cA c.2.1⟩
   have n:eB (dI l i):=by rw[zi ae];exact az ba (dX ae)
   exact⟨dI l i,n,by rw[t,d];rfl,ax _ n⟩
 ·obtain⟨h,rfl,s,ac,bo⟩:=t.some z;simp only[jw,jl,O,aQ,aL];rw[IV (nC _ _ _)];have af:h∉a:=λA=>by
   obtain⟨p,a9,d,c⟩:=(v h).1 A;obtain⟨w,n,_,u,_⟩:=t.some d;have:h=w:=by omega
   subst this;rw[u]at ac;rw[ac,a5]at c;cases c
  have a7:∀L∈h::a,L∈List.range l.length:=λL G=>by
   rcases ga.1 G with rfl|G
   ·exact jo.2 s
   ·obtain⟨p,a9,d,_⟩:=(v L).1 G;obtain⟨w,n,u,_⟩:=t.some d;exact jo.2 (by omega)
  have a3:=lG (so.2 ⟨af,F⟩) a7;simp only[e8,sk]at a3;obtain⟨bh,an,ak,ao,al,K,ar,bk,⟨q,bc,a6,ag⟩,a0⟩:=Bg a8 (by omega) (show h<rks.length by omega) M ab;simp only[jw,jl,lz,O,ao];unfold pz;have bl:ak.length=a.length+1:=by rw[K.length_eq];simp[-Ma]
  refine mP.2 ⟨⟨m - 1,by omega,_,_,ak,an,_,_,rfl,al,ar,by omega,λj ah a4=>?_,.inr ⟨q,bc,a6,?_⟩,nC _ _ _,?_,λw=>?_,by omega⟩,rfl⟩
  ·rw[a0 j ah (λbq C=>?_) (by omega),ad j ah a4];rcases B with rfl|⟨bd,bb,rfl,a2⟩
   ·cases C
   ·injection C with _ C;omega
  ·rcases ag with⟨br,E⟩|ag
   ·rcases B with rfl|⟨bd,bb,rfl,a2⟩
    ·cases E
    ·injection E with _ E;omega
   ·omega
  ·rw[K.nodup_iff,List.nodup_append];refine⟨F,by simp,λbf aw b ay=>?_⟩;rw[h4.1 ay];exact λA=>af (A▸aw)
  ·rw [K.mem_iff,fZ,h4,v w];constructor
   ·rintro(⟨p,d,c,n⟩|rfl)
    ·exact⟨p,d,c,by simp[-Ma,n]⟩
    ·exact⟨x,ai,z,by simp⟩
   ·rintro⟨p,d,c,n⟩;by_cases aj:p=x
    ·right;subst aj;rw[z]at c;injection c with c;omega
    ·left;exact⟨p,d,c,by simpa[-Ma,aj]using n⟩
theorem Jm{a:Type}{l:List a}{ps:List Nat}{k:Nat}{x:a}(h:l[k]?=some x):pk l (ps++[k])=pk l ps++[x]:=by
 unfold pk;rw[List.filterMap_append];simp[-Ma,h]
theorem vv{c:Type}{l:List c}:∀{ps:List Nat},(∀k∈ps,k<l.length)→(pk l ps).length=ps.length
 |[],_=>rfl
 | k::ps,h=>by
  have a:=h k (gq ..);have b:l[k]?=some l[k]:=cA a;unfold pk;rw[ly,b];simp only[e8];exact mQ (· + 1) (vv (ps:=ps) λk a=>h k (fH _ a))
theorem Jl{a b:Type}(f:a→b)(l:List a)(ps:List Nat):pk (l.map f) ps=(pk l ps).map f:=by
 unfold pk;rw[List.map_filterMap];congr 1;funext c;simp[-Ma]
theorem dR.bA{g g':Z}{o r:Nat}{rks:List Int}{e:List Nat}{b:D}(H:dR g o r rks e b)(h:∀a,(a=o∨a=r∨∃n,b = .S 1 a 0 n)→g'[a]?=g[a]?):dR g' o r rks e b:=by
 obtain⟨er,m⟩:=H.rk;refine⟨by rw[h o (.inl rfl)];exact H.ob,H.rr,⟨er,by rw[h r (.inr (.inl rfl))];exact m⟩,?_,H.pb⟩;rcases H.pp with l|⟨d,f,i,j,c,k⟩
 ·exact .inl l
 ·exact .inr ⟨d,f,i,j,c,by rw[h d (.inr (.inr ⟨_,c⟩))];exact k⟩
theorem q9{g:Z}{N:Nat}{rows:List (List D)}{d:D}(h:Own g N aP 11 rows d){c T z:Nat}{i:List (List D)}(a:g[c]?=some (.row T z i))(f:T≠aP):¬d.eN c:=by
 rintro⟨l,j,rfl⟩;rcases h with⟨b,_⟩|⟨k,_,b,e⟩
 ·cases b
 ·injection b with _ b;subst b;rw[e]at a;injection a with a;injection a with a;exact f a.symm
theorem dR.ph{g:Z}{o r:Nat}{rks:List Int}{l:List Nat}{c:D}(H:dR g o r rks l c){N:Nat}{rows:List (List D)}{d:D}(h:Own g N aP 11 rows d){b:Nat}(j:b=o∨b=r∨∃n,c = .S 1 b 0 n):¬d.eN b:=by
 rcases j with rfl|rfl|⟨n,a⟩
 ·exact q9 h H.ob (by decide)
 ·obtain⟨er,k⟩:=H.rk;exact q9 h k (by decide)
 ·rcases H.pp with⟨e,_⟩|⟨q,m,e,p,f,i⟩
  ·rw[e]at a;cases a
  ·rw[f]at a;injection a with _ a;subst a;exact q9 h i (by decide)
theorem H2 {l:List It} {K:D} (b5:aV 11 aJ l K) (c1:l.length≤900000000) {o r a N:Nat} {g:Z} {rks:List Int} (bc:rks.length≤1000000000) (c5:l.length≤rks.length) {e:List Nat} {s:D} (H:dR g o r rks e s) (bq:fI (cV (bH rks)) (aH e) e.length) (bu:kM l.length (dI l) [] e) {rows:List (List D)}
  (bw:g[a]?=some (.row W 1 rows)) (cd:∀j,j<l.length→rows[j]?=some (dC (ja l j))) (av:a≠o) (b6:s = .J∨∃q m,s = .S 1 q 0 m∧q≠a∧N≤q) (cq:N≤o) (cp:N≤g.length) (cr:a<g.length) (m:Int) (X aa ab:D) :
  Wp (bZ (kI K (.int .i64 m) (.ptr o 0 0) (.S 1 a 0 l.length)) [.J,X,aa,ab] g) λx=>∃ps f,x.1 = .ext 4∧Y 0 x.2.1=f∧dY l.length (dI l) (bH rks) ps∧ps.length=min m.toNat l.length∧Own x.2.2 N aP 11 ((pk l ps).map aJ) f∧(ps=[]→f = .J)∧g.length≤x.2.2.length∧∀b,b<N→x.2.2[b]?=g[b]?:=by
 have cg:Wp ((bZ (kI K (.int .i64 m) (.ptr o 0 0) (.S 1 a 0 l.length)) [.J,X,aa,ab] g).bind Option.some) λx=>∃ps f,x.1 = .ext 4∧Y 0 x.2.1=f∧dY l.length (dI l) (bH rks) ps∧ps.length=min m.toNat l.length∧Own x.2.2 N aP 11 ((pk l ps).map aJ) f∧(ps=[]→f = .J)∧g.length≤x.2.2.length∧∀b,b<N→x.2.2[b]?=g[b]?:=by
  refine Wp.loop (λR aq B=>∃f an ao ap ps e s,aq=[f,an,ao,ap]∧R+ps.length=l.length+1∧dY l.length (dI l) (bH rks) ps∧ps.length≤m.toNat∧dR B o r rks e s∧fI (cV (bH rks)) (aH e) e.length∧kM l.length (dI l) ps e∧B[a]?=some (.row W 1 rows)∧(s = .J∨∃q m,s = .S 1 q 0 m∧q≠a∧N≤q)∧Own B N aP 11 ((pk l ps).map aJ) f∧(ps=[]→f = .J)∧g.length≤B.length∧∀b,b<N→B[b]?=g[b]?) _ (l.length+1)
   ⟨_,_,_,_,[],e,s,rfl,by simp,.nil,by simp,H,bq,bu,bw,b6,Own.J _ _ _ _,λ_=>rfl,aT _,λ_ _=>rfl⟩ ?_ (λr ak =>.some ak)
  rintro R aq co ⟨f,an,ao,ap,ps,e,s,rfl,cz,v,c3,G,br,C,bx,ay,y,a7,a1,ag⟩;have a5:(pk l ps).length=ps.length:=vv v.mem;have b7:aX tab bD f=some (.int .i64 (ps.length:Nat)):=by rw[HI y];simp[-Ma,a5]
  have c4:=v.len;simp only[kI,cL,dT,b7,dZ,O];by_cases a6:(ps.length:Int)<m
  ·have bv:=vK G;simp only[a6,dJ,cY,fj,aL,bv,O,eM,cU,aQ];by_cases ba:(0:Int)<(e.length:Nat)
   ·simp only[ba,dJ,aL,O];obtain⟨n,d⟩:∃n,e.length=n+1:=⟨e.length - 1,by omega⟩
    have c2:=Ck C;obtain⟨ad,ac,am,bk,A,T,au,b2,c7,al,q,k,F⟩:=J7 bc d (by omega) G br;generalize cs:aH e 0=c at *;have b3:c∈e:=T.mem_iff.2 (gq ..);obtain⟨ar,bp⟩:=Cj C b3 b2;have ax:c<l.length:=ar.1;obtain⟨bf,a2⟩:∃cf,l[c]?=some cf:=⟨_,cA ax⟩
    have aw:(0:Int)≤(c:Int):=by omega
    have b4:(c:Int)<(l.length:Int):=by omega
    have b1:kS W (.iface W (.int .i64 (c:Int)))=some (.int .i64 (c:Int)):=by simp[-Ma,kS]
    have ai:q≠a:=by
     rcases ay with h|⟨bh,ci,h,M,_⟩
     ·rw[h]at k;cases k
     ·rw[h]at k;injection k with _ k;omega
    have ca:N≤q:=by
     rcases ay with h|⟨bh,ci,h,_,M⟩
     ·rw[h]at k;cases k
     ·rw[h]at k;injection k with _ k;omega
    have ae:ad[a]?=some (.row W 1 rows):=by
     rw[al a av (λn d=>by rw[k]at d;injection d with _ d;exact ai d)];exact bx
    have aj:Own ad N aP 11 ((pk l ps).map aJ) f:=y.bA λb p u=>al b (λw=>G.ph y (.inl w) u) (λn d=>G.ph y (.inr (.inr ⟨n,d⟩)) u)
    have a0:∀b,b<N→ad[b]?=g[b]?:=λb p=>by
     rw[al b (by omega) (λn d=>by rw[k]at d;injection d with _ d;omega)];exact ag b p
    simp only[bk,O,b1,nb b5,aw,aL,e7,a2,gC,oS,C0];refine wa (n0:=N) (by omega) aj (ys:=[aJ bf]) rfl (by simp[-Ma,a5];omega) λcl L z ct az a3 cw=>?_
    have P:L[a]?=some (.row W 1 rows):=by
     rw[a3 a (bB.1 ae).1 (q9 aj ae (by decide))];exact ae
    have I:dR L o r rks am ac:=A.bA λb p=>a3 b (by
     rcases p with rfl|rfl|⟨bg,i⟩
     ·exact(bB.1 A.ob).1
     ·obtain⟨er,ak⟩:=A.rk;exact(bB.1 ak).1
     ·rcases A.pp with⟨t,_⟩|⟨bh,cn,t,M,bn,bo⟩
      ·rw[t]at i;cases i
      ·rw[bn]at i;injection i with _ i;subst i;exact(bB.1 bo).1) (A.ph aj p)
    have cb:(pk l ps).map aJ++[aJ bf]=(pk l (ps++[c])).map aJ:=by rw[Jm a2];simp[-Ma]
    rw[cb]at z;have bd:dY l.length (dI l) (bH rks) (ps++[c]) :=.snoc v ar bp;have b0:=cd c ax;have cx:k0 a 0 l.length (c:Int)=k0 a 0 l.length (c:Int):=rfl;have bb:aM tab aN (.S 1 a 0 l.length) (.int .i64 (c:Int))=some (.ptr a c 0):=by
     rw[k0,bN ⟨aw,b4⟩];simp[-Ma]
    have a4:aA tab L W (.ptr a c 0)=some (.int .i64 (ja l c)):=by
     rw[fE,eI P,b0];rfl
    simp only[bb,a4,O,jb,aQ];have Q:=B9 (n:=l.length) (fl:=dI l) c;cases E:gD l.length (dI l) (c+1) (dI l c)with
    | none =>
     have af:ja l c = -1:=by unfold ja;rw[E]
     have b8:¬(0:Int) ≤ -1:=by omega
     rw[E]at Q;simp only[af,b8,cT,aY,aR,O,nF];refine .some (.inl ⟨rfl,R - 1,by omega,_,_,_,_,ps++[c],am,ac,rfl,by simp;omega,bd,by simp;omega,I,au,xV v C T Q (by simp),P,.inr ⟨q,_,F,ai,ca⟩,z,(λw=>by simp at w),(show g.length≤L.length by omega),λb p=>?_⟩);rw[az b p];exact a0 b p
    | some j =>
     have af:ja l c=(j:Int):=by unfold ja;rw[E]
     have ce:(0:Int)≤(j:Int):=by omega
     have cy:=kN.1 E;have c0:am.length≤900000000:=by have:=T.length_eq;simp at this;omega
     rw[E]at Q;obtain⟨bm,bj,ch,bl,bi,ck,bt,cu,⟨cj,c6,b9,a9⟩,ah⟩:=Bg bc (by omega) (show j<rks.length by omega) I au;have a8:∀b,(cl.eN b)→b≠o∧∀n,ac ≠ .S 1 b 0 n:=λb u=>⟨λw=>I.ph z (.inl w) u,λn d=>I.ph z (.inr (.inr ⟨n,d⟩)) u⟩
     simp only[af,ce,dJ,aL,O,bb,a4,bl,nF];have bz:=(bB.1 P).1;refine .some (.inl ⟨rfl,R - 1,by omega,_,_,_,_,ps++[c],ch,bj,rfl,by simp;omega,bd,by simp;omega,bi,bt,xV v C T Q (ck.trans (by simpa using List.perm_append_comm)),?_,.inr ⟨cj,_,b9,?_,?_⟩,z.bA λb p u=>?_,(λw=>by simp at w),(show g.length≤bm.length by omega),λb p=>?_⟩)
     ·rw[ah a av (λn d=>by rw[F]at d;injection d with _ d;exact ai d) bz];exact P
     ·rcases a9 with⟨bg,i⟩|h
      ·rw[F]at i;injection i with _ i;omega
      ·omega
     ·rcases a9 with⟨bg,i⟩|h
      ·rw[F]at i;injection i with _ i;omega
      ·omega
     ·exact ah b (a8 b u).1 (a8 b u).2 (z.lt u).2
     ·rw[ah b (by omega) (λn d=>by rw[F]at d;injection d with _ d;omega) (by omega),az b p];exact a0 b p
   ·have cc:e=[]:=gA (by omega);subst cc;simp only[ba,cT,aY,aR];have:=Cl C v;exact .some (.inr ⟨by simp,ps,f,rfl,rfl,v,by omega,y,a7,a1,ag⟩)
  ·simp only[a6,cT,cY,fj,aY,aR,O,gP,cU,aQ];exact .some (.inr ⟨by simp,ps,f,rfl,rfl,v,by omega,y,a7,a1,ag⟩)
 obtain⟨x,t,M⟩:=cg;cases be:bZ (kI K (.int .i64 m) (.ptr o 0 0) (.S 1 a 0 l.length)) [.J,X,aa,ab] g with
 |none=>rw[be]at t;cases t
 | some cm =>
  rw[be]at t;injection t with t;subst t;exact⟨cm,rfl,M⟩
theorem Ar(h:Z)(n:Nat)(b:n≤2000000000):oh tab h aN (.int .i64 n) (.int .i64 n)=some (.S 1 h.length 0 n,aK h W 1 (List.replicate n [.int .i64 0])):=by
 have a:cC ((n:Int)).toNat eO.fJ=true:=by rw[e7];exact qX b
 show(if 0≤(n:Int)∧(n:Int)≤n∧cC (n:Int).toNat eO.fJ=true∧0<eO.V then some (D.S eO.V h.length 0 (n:Int).toNat,aK h W eO.V (List.replicate (n:Int).toNat eO.zero))else none)=_;rw[bN ⟨by omega,by omega,a,by decide⟩,e7];rfl
theorem CI{h:Z}{o n:Nat}{rks:List Int}(d:h[o]?=some (.row W 1 (rks.map dC)))(e:rks.length=n)(i:n≤900000000)(g:0<n):dH tab h aN W (.S 1 o 0 n) (.int .i64 n)=some (.S 1 h.length 0 (rks++List.replicate n 0).length,aK (h.set o .dead) W 1 ((rks++List.replicate n 0).map dC)):=by
 rw[K9];have b:iK h eO eO (.int .i64 n)=some (List.replicate n [.int .i64 0]):=by
  show(if 0≤(n:Int)∧cC (n:Int).toNat eO.fJ=true then some (List.replicate (n:Int).toNat eO.zero)else none)=_;rw[bN ⟨by omega,by rw[e7];exact qX (by omega)⟩,e7];rfl
 unfold nH;rw[b];obtain⟨a,rfl⟩:∃a,n=a+1:=⟨n - 1,by omega⟩
 have f:eO.V=1:=id rfl;have c:cC (a+1+(a+1)) eO.fJ=true:=qX (by omega);simp only[f,show Nat.blt 0 1=true from rfl,sr,d,fY,e8,List.length_replicate,c,e,aT,gv,aL,gB,jm,iB,List.map_replicate];rfl
theorem JE{rks:List Int}{n k:Nat}(a:k<rks.length):bH (rks++List.replicate n 0) k=gN rks k:=by
 unfold bH gN;rw[dS a]
theorem Kq{n:Nat}{fl rk e:Nat→Int}(h:∀k,k<n→rk k=e k){l:List Nat}(d:dY n fl rk l):dY n fl e l:=by
 induction d with
 |nil=>exact .nil
 | snoc d a f i =>
  refine .snoc i a λg b c=>f g b ?_
  unfold cV at c ⊢;rw[h _ b.1,h _ a.1];exact c
theorem KC{n:Nat}{h:Z}{e:List It}:∀row∈e.map aJ,∀d∈row,bL n h 3 d=d:=by
 intro row b d a;obtain⟨c,_,rfl⟩:=fc.1 b;exact u2 n h 2 c d a
theorem Jc{i p:D}(x:aV 11 aJ [] i)(af:aV 1 dC [] p)(m:Int)(h:Z):nP i p (.int .i64 m) h (λd h'=>eD (scope h h' d=some (.J,h)) (some ()))=some ():=by
 have q:∃a,R lU [p] h=some (a,h)∧(a = .J∨a = .sl 1 true []):=by
  rcases af with⟨rfl,_⟩|⟨e,rfl⟩
  ·refine⟨.J,?_,.inl rfl⟩;rw[qo];have j:U tab .eql aN .J .J=some (.bool true):=id rfl;simp only[nM,j,O,aQ,aL,cS]
  ·refine⟨.sl 1 true [],?_,.inr rfl⟩;rw[qo];have j:U tab .eql aN (.sl 1 e (List.map dC [])) .J=some (.bool false):=id rfl;have r:dH tab h aN aN (.sl 1 true []) (.sl 1 e (List.map dC []))=some (.sl 1 true [],h):=id rfl;simp only[nM,j,r,O,aQ,aY,aR,yf,cS]
 obtain⟨a,q,y⟩:=q;have X:aX tab bD i=some (.int .i64 (0:Nat)):=by simpa using kg x
 have j:dH tab h aN W a (.int .i64 (0:Nat))=some (a,h):=by rcases y with rfl|rfl<;>exact id rfl
 have r:eE tab dM [1] [a]=some (.agg [.J,a]):=ya _ (by rcases y with rfl|rfl<;>rfl);have F:=v8 dM 2 h [.J,a] rfl (by decide);have G:=Ar (aK h dM 2 [[.J,a]]) 0 (by omega);have l:(aK h dM 2 [[.J,a]]).length=h.length+1:=by simp[-Ma,aK]
 have aj:IntKind.wrap .i64 (((0:Nat):Int) - 1)=((([]:List It).length:Nat):Int) - 1:=rfl;unfold nP;simp only[q,X,j,r,F,G,O,fh,aj];unfold q2;refine kQ.2 λw=>kb.2 λ_=>?_
 rw[l];have N:(aK (aK h dM 2 [[.J,a]]) W 1 (List.replicate 0 [.int .i64 0]))[h.length+1]?=some (.row W 1 (List.replicate ([]:List It).length [.int .i64 0])):=by
  have:=ic (aK h dM 2 [[.J,a]]) W 1 (List.replicate 0 [.int .i64 0])
  rwa [l]at this
 have ad:(aK (aK h dM 2 [[.J,a]]) W 1 (List.replicate 0 [.int .i64 0]))[h.length]?=some (.row dM 2 [[.J,a]]):=by
  rw[g8 _ _ _ _ (by rw[l];omega)];exact ic _ _ _ _
 refine Ah x (by simp) (λak Q=>by cases Q) N (nC _ _ _) _ _ _ _ λf k E al C e t _ _ _ L M=>?_
 have ae:k[h.length]?=some (.row dM 2 [[.J,a]]):=by rw[t.2 _ (by omega)];exact ad
 have ac:∀c,e c=none:=λc=>by
  rw[M c];cases s:gD ([]:List It).length (dI []) 0 c with
  |none=>rfl
  |some B=>have:=(kN.1 s).2.1;simp at this
 simp only[fb,dW];unfold pc;simp only[L];refine kQ.2 λu=>kb.2 λ_=>?_
 have aa:∀n:Ex→List D→Z→Mp→Option Unit,(∀f b g,b=k→n (.ext 2) f b g=some ())→k8 (nQ (.ptr h.length 0 0) (.raw (.pointer (some ⟨u,0,none⟩)))) [.any,.any] k (E.set u (.it w C e (λc=>(e c).isSome) none)) n=some ():=λn H=>by
  refine vi (λB f b g=>b=k∧(∃v o,f=[v,o])∧g u=some (.it w C e (λc=>(e c).isSome) none)) 0 ⟨rfl,⟨_,_,rfl⟩,nC _ _ _⟩ ?_;rintro B f b g ⟨rfl,⟨v,o,rfl⟩,K⟩;simp only[nQ];refine Aj K (λ_=>?_) λc o _ _ _ A=>?_
  ·simp only[jw,jl,O,aQ,aY,aR];exact H _ _ _ rfl
  ·rw[ac]at A;cases A
 refine aa _ λf b g P=>?_
 subst P;have ah:aA tab b aN (.ptr h.length 0 (0+0))=some .J:=by
  rw[vd,eI ae];rfl
 have I:R oE [.ptr h.length 0 0] b=some (.int .i64 (0:Nat),b):=by
  rw[yP];simp only[r5,nr,(lV h.length).1,ah,HH,O,cS];rfl
 have T:bZ (kI i (.int .i64 m) (.ptr h.length 0 0) (.S 1 (h.length+1) 0 0)) [.J,.any,.any,.any] b=some (.ext 4,[.J,.any,.bool false,.any],b):=by
  rw[ik];have:kI i (.int .i64 m) (.ptr h.length 0 0) (.S 1 (h.length+1) 0 0) [.J,.any,.any,.any] b=some (.ext 4,[.J,.any,.bool false,.any],b):=by
   have ab:aX tab bD .J=some (.int .i64 0):=id rfl;simp only[kI,cL,dT,ab,dZ,O];by_cases z:(0:Int)<m
   ·simp only[z,dJ,cY,fj,aL,I,O,eM,cU,aQ]
    try rfl
   ·simp only[z,cT,cY,fj,aY,aR,O,gP,cU,aQ]
    try rfl
  rw[this];rfl
 simp only[fb,dW,T,O,cL,cS];have ag:scope h b .J=some (.J,h):=by
  refine kj rfl .J (by have:=t.1;simp[-Ma,aK]at this;omega) λai s=>?_
  rw[t.2 ai (by omega),g8 _ _ _ _ (by rw[l];omega),g8 _ _ _ _ s]
 simp only[ag,eD,aL]
theorem Jb{l:List It}{rks:List Int}{x F:D}(k:aV 11 aJ l x)(A:aV 1 dC rks F)(R:l.length=rks.length)(bt:l.length≤400000000)(ao:0<l.length)(L:∀i∈l,eB i.e.a1)(m:Int)(h:Z):
  nP x F (.int .i64 m) h (λd h'=>eD (scope h h' d=some (mh 11 ((pk l (h8 l.length (dI l) (gN rks) m.toNat)).map aJ),h)) (some ()))=some ():=by
 have G:=Bf A h (by omega) (by omega);rw[← R]at G;have a0:aX tab bD x=some (.int .i64 (l.length:Nat)):=kg k;have al:=ic h W 1 (rks.map dC);have s:=CI al R.symm (by omega) ao;have K:(aK h W 1 (rks.map dC)).length=h.length+1:=by simp[-Ma,aK]
 rw[K]at s;generalize B:rks++List.replicate l.length 0=b at s;have X:l.length≤b.length:=by rw[← B];simp[-Ma]
 have bu:b.length≤1000000000:=by rw[← B];simp[-Ma];omega
 generalize y:aK ((aK h W 1 (rks.map dC)).set h.length .dead) W 1 (b.map dC)=f at s;have p:f.length=h.length+2:=by rw[← y];simp[-Ma,aK]
 have bc:∀c,c<h.length→f[c]?=h[c]?:=λc q=>by
  rw[← y,g8 _ _ _ _ (by simp[-Ma,aK];omega),hZ (by omega),g8 _ _ _ _ q]
 have bg:f[h.length+1]?=some (.row W 1 (b.map dC)):=by
  have:=ic ((aK h W 1 (rks.map dC)).set h.length .dead) W 1 (b.map dC);rw[List.length_set,K,y]at this;exact this
 have aj:eE tab dM [1] [.S 1 (h.length+1) 0 b.length]=some (.agg [.J,.S 1 (h.length+1) 0 b.length]):=ya _ rfl;have ak:=v8 dM 2 f [.J,.S 1 (h.length+1) 0 b.length] rfl (by decide);have H:=Ar (aK f dM 2 [[.J,.S 1 (h.length+1) 0 b.length]]) l.length (by omega);have u:(aK f dM 2 [[.J,.S 1 (h.length+1) 0 b.length]]).length=h.length+3:=by simp[-Ma,aK,p]
 rw[u]at H;have bi:IntKind.wrap .i64 ((l.length:Int) - 1)=(l.length:Int) - 1:=cX (by omega) (by omega);unfold nP;simp only[G,a0,s,aj,ak,H,O,fh,bi];generalize t:aK (aK f dM 2 [[.J,.S 1 (h.length+1) 0 b.length]]) W 1 (List.replicate l.length [.int .i64 0])=j;have br:j.length=h.length+4:=by rw[← t];simp[-Ma,aK,p]
 have ag:j[h.length+3]?=some (.row W 1 (List.replicate l.length [.int .i64 0])):=by
  have:=ic (aK f dM 2 [[.J,.S 1 (h.length+1) 0 b.length]]) W 1 (List.replicate l.length [.int .i64 0]);rw[u,t]at this;exact this
 have ad:∀c,c<h.length+2→j[c]?=f[c]?:=λc q=>by
  rw[← t,g8 _ _ _ _ (by rw[u];omega),g8 _ _ _ _ (by rw[p];omega)]
 have be:j[h.length+2]?=some (.row dM 2 [[.J,.S 1 (h.length+1) 0 b.length]]):=by
  rw[← t,g8 _ _ _ _ (by rw[u];omega)];have:=ic f dM 2 [[.J,.S 1 (h.length+1) 0 b.length]]
  rwa [p]at this
 unfold q2;refine kQ.2 λC=>kb.2 λ_=>?_
 rw[p];refine Ah (l:=l) k (by omega) L ag (nC _ _ _) _ _ _ _ λai am bl bh bz bo v ax bv a8 ar au=>?_
 have ae:dR am (h.length+2) (h.length+1) b [] .J:=⟨by rw[v.2 _ (by omega)];exact be,by omega,⟨[],by rw[v.2 _ (by omega),ad _ (by omega),bg];simp[-Ma]⟩,.inl ⟨rfl,rfl⟩,λbb Q=>by cases Q⟩
 simp only[fb,dW];unfold pc;simp only[ar];refine kQ.2 λbx=>kb.2 λ_=>?_
 have bw:=v.1;refine H0 (l:=l) (by omega) L (rks:=b) (by omega) X ae (nC _ _ _) au _ _ λai an bm b0 bn af ap aq bq M a2=>?_
 have ah:an[h.length+3]?=some (.row W 1 bh):=by rw[M _ (by omega) (by omega)];exact ax
 obtain⟨bj,ba,w,E,ab,ac,aa,a6,T,a4,ay,P⟩:=H2 (l:=l) k (by omega) (rks:=b) (o:=h.length+2) (r:=h.length+1) (a:=h.length+3) (N:=h.length) (by omega) X af ap aq ah a8 (by omega) (by
  rcases a2 with g|⟨bf,bd,g,f⟩
  ·exact .inl g
  ·exact .inr ⟨bf,bd,g,by omega,by omega⟩) (by omega) (by omega) (by omega) m .any .any .any
 obtain⟨b2,b3,I⟩:=bj;simp only at ab ac T ay P;subst ab;simp only[fb,dW,ba,O,cL,ac,cS];have a7:w=h8 l.length (dI l) (gN rks) m.toNat:=xX (Kq (λbb Q=>by rw[← B];exact JE (by omega)) aa) a6;have aw:bL h.length I 4 E=mh 11 ((pk l (h8 l.length (dI l) (gN rks) m.toNat)).map aJ):=by
  rw[← a7];rcases zv T (aT _) (n:=3) KC with⟨g,f⟩|g
  ·rw[g,f];rfl
  ·by_cases z:w=[]
   ·rw[a4 z,z];rfl
   ·rw[g];have a3:(pk l w).map aJ≠[]:=λaz=>by
     have bp:=vv (l:=l) aa.mem;have j:=mQ List.length az;simp only[fY,fB]at j;exact z (gA (by omega))
    cases av:(pk l w).map aJ with
    |nil=>exact absurd av a3
    |cons a C=>rfl
 have a5:Ok h.length (mh 11 ((pk l (h8 l.length (dI l) (gN rks) m.toNat)).map aJ)):=by
  generalize (pk l (h8 l.length (dI l) (gN rks) m.toNat))=bk;cases bk with
  |nil=>exact .J
  | cons a C =>
   refine .sl _ _ _ λb1 A d k=>?_
   obtain⟨i,_,rfl⟩:=fc.1 A;exact u4 _ i d k
 have a9:scope h I E=some (mh 11 ((pk l (h8 l.length (dI l) (gN rks) m.toNat)).map aJ),h):=by
  refine kj aw a5 (by omega) λc q=>?_
  rw[P c q,M c (by omega) (by omega),v.2 c (by omega),ad c (by omega),bc c q]
 simp only[a9,eD,aL]
theorem Kw{a:List (Int × Int × aG)}{d:D}(h:aV 3 vh a d):aV 3 cN (a.map λp=>dO.mk p.1 p.2.1 p.2.2) d:=by
 rcases h with⟨rfl,rfl⟩|⟨b,rfl⟩
 ·exact .inl ⟨rfl,rfl⟩
 ·exact .inr ⟨b,by rw[nW];rfl⟩
theorem HP{a:List dO}{d:D}(h:aV 3 cN a d):aV 3 vh (a.map λp=>(p.off,p.len,p.fS)) d:=by
 rcases h with⟨rfl,rfl⟩|⟨b,rfl⟩
 ·exact .inl ⟨rfl,rfl⟩
 ·exact .inr ⟨b,by rw[nW];rfl⟩
theorem He{row:List D}(h:pY row):∃i:It,aJ i=row∧eB i.e.a1:=by
 obtain⟨r,s,t,a,b,c,d,f,g,q,j,u,k,rfl,l,m,n,o,p⟩:=h;exact⟨⟨r,⟨a,b,c,d,_,q,f,g,s,t,k,j,n,o,Kw l,by simpa using m⟩⟩,rfl,p⟩
theorem Je{i:It}(h:eB i.e.a1):pY (aJ i):=⟨i.r,i.e.s7,i.e.s8,i.e.a0,i.e.a1,i.e.a2,i.e.a3,i.e.a5,i.e.a6,i.e.ld,i.e.fd,_,i.e.fs,rfl,HP i.e.ih,by simpa using i.e.tP,i.e.ho,i.e.hl,h⟩
theorem zI:∀{b:List (List D)},(∀row∈b,pY row)→∃l:List It,b=l.map aJ∧∀i∈l,eB i.e.a1
 |[],_=>⟨[],rfl,λi hi=>by cases hi⟩
 | row::b,h=>by
  obtain⟨i,c,h2⟩:=He (h row (gq ..));obtain⟨l,d,f⟩:=zI λk g=>h k (fH _ g)
  refine⟨i::l,by rw[iB,c,d],λj a=>?_⟩;rcases ga.1 a with rfl|a
  ·exact h2
  ·exact f j a
theorem A1:∀{a:List (List D)},(∀row∈a,∃r,row=[.int .i64 r])→∃rks:List Int,a=rks.map dC
 |[],_=>⟨[],rfl⟩
 | row::a,h=>by
  obtain⟨r,rfl⟩:=h row (gq ..);obtain⟨d,b⟩:=A1 λr c=>h r (fH _ c)
  exact⟨r::d,by rw[iB,← b];rfl⟩
theorem A3{a:Type}{z:Nat}{f:a→List D}{l:List a}{d:D}(h:nw z d=some (l.map f)):aV z f l d:=by
 unfold nw at h;split at h
 ·injection h with h;exact .inl ⟨rfl,List.map_eq_nil_iff.1 h.symm⟩
 ·split at h
  ·rename_i b;injection h with h;subst b;exact .inr ⟨_,by rw[h]⟩
  ·cases h
 ·cases h
theorem Bq{a:Type}{z:Nat}{f:a→List D}{l:List a}{d:D}(h:aV z f l d):nw z d=some (l.map f):=by
 rcases h with⟨rfl,rfl⟩|⟨b,rfl⟩
 ·rfl
 ·unfold nw;simp[-Ma]
theorem Ay(l:List It)(rks:List Int)(m:Int):vo (l.map aJ) (rks.map dC) m=(pk l (h8 l.length (dI l) (gN rks) m.toNat)).map aJ:=by
 unfold vo;rw[Jl,fY,nW,nW];have a:(oM 2 ∘ aJ)=λc=>c.e.a1:=rfl
 have b:(rks.map (oM 0 ∘ dC))=rks:=by
  have:(oM 0 ∘ dC)=id:=rfl;rw[this];simp[-Ma]
 rw[a,b]
theorem Ds{l:List It}{rks:List Int}{b c:D}(f:aV 11 aJ l b)(n:aV 1 dC rks c)(k:l.length=rks.length)(j:l.length≤400000000)(g:∀i∈l,eB i.e.a1)(m:Int)(h:Z):
  mW [b,c,.int .i64 m] h=some (mh 11 ((pk l (h8 l.length (dI l) (gN rks) m.toNat)).map aJ),h):=by
 unfold mW;simp only[Bq f,Bq n];rw[bN,Ay];refine⟨by simpa using k,by simpa using j,λo a=>?_,λo a=>?_⟩
 ·obtain⟨i,d,rfl⟩:=fc.1 a;exact Je (g i d)
 ·obtain⟨i,d,rfl⟩:=fc.1 a;exact⟨i,rfl⟩
theorem K1{args:List D}{h:Z}{r:D × Z}(a:mW args h=some r):mF X R bZ Bu zB args h (λd h'=>eD (scope h h' d=some r) (some ()))=some ():=by
 unfold mW at a;split at a
 case h_2=>cases a
 rename_i w y c;split at a
 case h_2=>cases a
 rename_i x z s t;split at a
 case isFalse=>cases a
 rename_i q;injection a with a;subst a;obtain⟨e,f,k,l⟩:=q;obtain⟨j,rfl,n⟩:=zI k;obtain⟨u,rfl⟩:=A1 l;rw[Gp,Ay];simp only[fY]at e f;have g:=A3 s;have i:=A3 t;rcases p7 j.length with b|b
 ·have p:j=[]:=gA b;have o:u=[]:=gA (by omega);subst p;subst o;have:pk ([]:List It) (h8 ([]:List It).length (dI []) (gN []) c.toNat)=[]:=by
   unfold pk;exact List.filterMap_eq_nil_iff.2 λv _=>rfl
  rw[this];exact Jc g i c h
 ·exact Jb g i e f b n c h
def cQ(f x:Int):It:=⟨[114],⟨0,f,x,x+1,[⟨x,1,[]⟩],.sl 3 true [[.int .i64 x,.int .i64 1,.str []]],0,0,[],[],[],.J,.J _ _,by simp,.mk _ _ _ _,by simp⟩⟩
theorem vJ(f x:Int)(q:0≤x)(r:x≤10)(h:Z):R lT [.int .i64 f,.int .i64 x] h=some (.agg (aJ (cQ f x)),h):=by
 have p:IntKind.wrap .i64 (x+1)=x+1:=cX (by omega) (by omega);have d:eE tab bW [0,1] [.int .i64 x,.int .i64 1]=some (.agg [.int .i64 x,.int .i64 1,.str []]):=id rfl;have g:bF tab cD 1 [0] [.agg [.int .i64 x,.int .i64 1,.str []]]=some (.sl 3 true [[.int .i64 x,.int .i64 1,.str []]]):=id rfl;have i:eE tab aF [1,2,3,4] [.int .i64 f,.int .i64 x,.int .i64 (x+1),.sl 3 true [[.int .i64 x,.int .i64 1,.str []]]]=some (.agg (bR (cQ f x).e)):=id rfl;have j:eE tab aP [0,1] [.str [114],.agg (bR (cQ f x).e)]=some (.agg (aJ (cQ f x))):=id rfl;apply Wp.val;rw[Eu];simp only[w3,O,eL,p,d,g,i,j];have k:=ic h aP 11 [[.str [],.int .i64 0,.int .i64 0,.int .i64 0,.int .i64 0,.J,.int .i64 0,.int .i64 0,.str [],.str [],.J]];simp only[bS];refine pJ k (by rfl) (by rfl) (by exact aT _) (by rfl) λa b c=>?_
 have b:a[h.length]?=some (.row aP 11 [aJ (cQ f x)]):=b;have l:aA tab a aP (.ptr h.length 0 0)=some (.agg (aJ (cQ f x))):=by
  rw[z3,eI b];rfl
 simp only[O,l,cS];have n:scope h a (.agg (aJ (cQ f x)))=some (.agg (aJ (cQ f x)),h):=by
  refine kj (by rfl) (u3 _ _) (by have:=c.1;simp[-Ma,aK]at this;omega) λo m=>?_
  rw[c.2 o (by omega),g8 _ _ _ _ m]
 rw[n];exact .some rfl
theorem Da(f:FuncId)(xs:List D)(h:Z):gh R1 (.fn (.func f) [] []) xs h=R1 f xs h:=by
 rw[Db];simp[-Ma]
theorem J6(h:Z):R1 tw [] h=some (.bool true,h):=by
 have p:=vJ 1 0 (by omega) (by omega) h;have q:=vJ 2 0 (by omega) (by omega) h;have r:=vJ 1 1 (by omega) (by omega) h;have s:bF tab bD 3 [0,1,2] [.agg (aJ (cQ 1 0)),.agg (aJ (cQ 2 0)),.agg (aJ (cQ 1 1))]=some (.sl 11 true ([cQ 1 0,cQ 2 0,cQ 1 1].map aJ)):=id rfl;have t:bF tab aN 3 [0,1,2] [.int .i64 0,.int .i64 5,.int .i64 9]=some (.sl 1 true ([0,5,9].map dC)):=id rfl;have C:[1,0]=h8 3 (dI [cQ 1 0,cQ 2 0,cQ 1 1]) (gN [0,5,9]) 2:=by
  have d:dI [cQ 1 0,cQ 2 0,cQ 1 1] 0=1:=rfl;have v:dI [cQ 1 0,cQ 2 0,cQ 1 1] 1=2:=rfl;have g:dI [cQ 1 0,cQ 2 0,cQ 1 1] 2=1:=rfl;have L:gN [0,5,9] 0=0:=rfl;have r1:gN [0,5,9] 1=5:=rfl;have w:fD 3 (dI [cQ 1 0,cQ 2 0,cQ 1 1]) [] 1:=⟨by omega,by simp,λi A B=>by
   obtain rfl:i=0:=by omega
   rw[d,v]at B;omega⟩
  have x:fD 3 (dI [cQ 1 0,cQ 2 0,cQ 1 1]) ([]++[1]) 0:=⟨by omega,by simp,λi A=>by omega⟩
  refine xX (m:=2) (.snoc (ps:=[1]) (.snoc (ps:=[]) .nil w λa b=>?_) x λa b=>?_) rfl
  ·obtain⟨y,_,f⟩:=b;have:a=0∨a=1∨a=2:=by omega
   unfold cV;rcases this with rfl|rfl|rfl
   ·rw[L,r1];omega
   ·omega
   ·have:=f 0 (by omega) (by rw[d,g]);simp at this
  ·obtain⟨y,z,f⟩:=b;have:a=0∨a=1∨a=2:=by omega
   unfold cV;rcases this with rfl|rfl|rfl
   ·omega
   ·simp at z
   ·have:=f 0 (by omega) (by rw[d,g]);simp at this
 have c:=Ds (l:=[cQ 1 0,cQ 2 0,cQ 1 1]) (rks:=[0,5,9]) (.inr ⟨true,rfl⟩) (.inr ⟨true,rfl⟩) rfl (by simp) (λa b=>by
  simp only[ga,xN,lg]at b;unfold eB;rcases b with rfl|rfl|rfl<;>simp[-Ma,cQ]) 2 h
 rw[show([cQ 1 0,cQ 2 0,cQ 1 1]:List It).length=3 from rfl,show(2:Int).toNat=2 from rfl,← C]at c;have u:mh 11 ((pk [cQ 1 0,cQ 2 0,cQ 1 1] [1,0]).map aJ) = .sl 11 false [aJ (cQ 2 0),aJ (cQ 1 0)]:=rfl;rw[u]at c;have E:aM tab bD (.sl 11 false [aJ (cQ 2 0),aJ (cQ 1 0)]) (.int .i64 0)=some (.aE (aJ (cQ 2 0))):=id rfl;have F:aM tab bD (.sl 11 false [aJ (cQ 2 0),aJ (cQ 1 0)]) (.int .i64 1)=some (.aE (aJ (cQ 1 0))):=id rfl;have G:aX tab bD (.sl 11 false [aJ (cQ 2 0),aJ (cQ 1 0)])=some (.int .i64 2):=id rfl;have M:aC tab aF 2 (.aE (bR (cQ 1 0).e))=some (.aE (.int .i64 0::(bR (cQ 1 0).e).drop 3)):=id rfl;have N:∀(j:Int) (o:List D),aA tab h W (.aE (.int .i64 j::o))=some (.int .i64 j):=λ_ _=>id rfl
 have k:(cQ 2 0).e.a1=2:=rfl;have n:(cQ 1 0).e.a1=1:=rfl;have H:U tab .eql W (.int .i64 2) (.int .i64 2)=some (.bool true):=id rfl;have I:U tab .eql W (.int .i64 1) (.int .i64 1)=some (.bool true):=id rfl;have K:U tab .eql W (.int .i64 0) (.int .i64 0)=some (.bool true):=id rfl;rw[Et];simp only[w2,Da,Jt,p,q,r,s,t,Lg,c,O,G,H,cY,aL,E,F,oP,s5,k,n,I,M,N,K,cU,cS]
theorem JG(i:It):gx 2 (aJ i)=some i.e.a1:=rfl
theorem JH(i:It):gx 4 (aJ i)=some i.e.a3:=rfl
theorem zW(f:Int):∀(c:List It) (a:Int × Bool) (b:Option Int),a=(b.getD 0,b.isSome) →
  (c.map aJ).foldl (λa r=>if gx 2 r=some f then((gx 4 r).getD 0,true)else a) a=(((c.map dU).foldl (λa x=>if x.a1=f then some x.a3 else a) b).getD 0,((c.map dU).foldl (λa x=>if x.a1=f then some x.a3 else a) b).isSome)
 |[],a,b,h=>h
 | i::c,a,b,h=>by
  simp only[iB,p5];refine zW f c _ _ ?_;rw[JG,JH];show _=((if i.e.a1=f then some i.e.a3 else b).getD 0,(if i.e.a1=f then some i.e.a3 else b).isSome)
  by_cases d:i.e.a1=f
  ·simp[-Ma,d]
  ·simp[-Ma,d,h]
theorem Bh{a:List It}{b:D}(e:aV 11 aJ a b)(j:a.length≤1000000)(f:Int)(h:Z):R m4 [b,.int .i64 f] h=some (.bU [.int .i64 ((hP f (a.map dU)).getD 0),.bool (hP f (a.map dU)).isSome],h):=by
 rw[Li];rcases e with⟨rfl,rfl⟩|⟨i,rfl⟩
 ·rfl
 ·have c:(a.map aJ).all (ln 2 4)=true:=by
    rw[eV];intro l g;obtain⟨k,_,rfl⟩:=fc.1 g;rfl
  have d:lZ 2 4 f (a.map aJ)=((hP f (a.map dU)).getD 0,(hP f (a.map dU)).isSome):=zW f a _ _ rfl;unfold oe;simp only[c,d,fY,true_and];rw[bN (by omega)]
theorem K7(h:Z)(x y:D):dH tab h bD bD x y=nH aP jL mm h x y:=id rfl
theorem HM{n:Nat}(h:n≤900000000):cC n jL.fJ=true:=kB (show n*144≤140737488355328 by omega) (by omega)
theorem Kg{a:List It}{e:D}(o:aV 11 aJ a e)(h:Z)(q:a.length≤900000000)(g:0<a.length):R oI [e] h=some (.S 11 h.length 0 a.length,aK h aP 11 (a.map aJ)):=by
 rcases o with⟨rfl,rfl⟩|⟨b,rfl⟩
 ·simp at g
 rw[yQ];have k:U tab .eql bD (.sl 11 b (a.map aJ)) .J=some (.bool false):=id rfl;have m:bF tab bD 0 [] []=some (.sl 11 true []):=id rfl;have l:dH tab h bD bD (.sl 11 true []) (.sl 11 b (a.map aJ))=some (.S 11 h.length 0 a.length,aK h aP 11 (a.map aJ)):=by
  rw[K7];have n:iK h mm jL (.sl 11 b (a.map aJ))=some (a.map aJ):=by
   show(if 11=jL.V then some (a.map aJ)else none)=_;exact bN rfl
  unfold nH;rw[n];obtain⟨c,d,rfl⟩:∃c d,a=c::d:=by
   cases a with
   |nil=>simp at g
   |cons i j=>exact⟨i,j,rfl⟩
  have f:cC ((c::d).length) jL.fJ=true:=HM (by omega);have p:jL.V=11:=id rfl;simp only[p,show Nat.blt 0 11=true from rfl,iB,e8,fB,dA,jW,fY]at f ⊢;simp only[f,gv,aL]
 simp only[r9,k,aQ,m,l,O,cS,aY,aR]
theorem Ke{a:List It}{b:D}(f:aV 11 aJ a b)(k:Int)(i:(a.length:Nat)≤k)(j:k≤1000)(h:Z):R oG [b,.int .i64 k] h=some (.int .i64 (k - (a.length:Nat)),h):=by
 have c:aX tab bD b=some (.int .i64 (a.length:Nat)):=kg f;have g:IntKind.wrap .i64 (k - (a.length:Nat))=k - (a.length:Nat):=cX (by omega) (by omega);rw[EH];by_cases d:k≤(a.length:Nat)
 ·have e:k - (a.length:Nat)=0:=by omega
  simp only[r8,c,O,mR,d,dJ,aQ,aL,cS,e]
 ·simp only[r8,c,O,mR,d,cT,aQ,aY,aR,fh,g,cS]
theorem Kc{b:List It}{l:List Int}{d f:D}(c:aV 11 aJ b d)(ar:aV 1 fQ l f)(a9:b.length≤1000)(G:l.length=b.length)(F:b=[]→d = .J∧f = .J){i:It}(aq:kK i)(aj:i.e.fs.length≤20)(ai:∀e,hP i.e.a1 (b.map dU)=some e→e=i.e.a2)(r k:Int)(h:Z):
  ((b.length:Nat)≥k→R kY [d,f,.agg (aJ i),.int .i64 r,.int .i64 k] h=some (.bU [.J,.J,.int .i64 16],h)) ∧
  ((b.length:Nat)<k→∃m o,R kY [d,f,.agg (aJ i),.int .i64 r,.int .i64 k] h=some (.bU [m,o,.int .i64 0],h)∧aV 11 aJ (b++[i]) m∧aV 1 fQ (l++[r]) o):=by
 have am:aX tab bD d=some (.int .i64 (b.length:Nat)):=kg c;have A:=Bc i h aj;rw[aq.e]at A;have af:=Bh c (by omega) i.e.a1 h;have a7:aC tab aF 2 (.aE (bR i.e))=some (.aE (.int .i64 i.e.a2::(bR i.e).drop 3)):=id rfl;have a8:∀(X:Int) (ad:List D),aA tab h W (.aE (.int .i64 X::ad))=some (.int .i64 X):=λ_ _=>id rfl
 have ae:U tab .neq iT (.int .i64 0) (.int .i64 0)=some (.bool false):=id rfl;have v:R kY [d,f,.agg (aJ i),.int .i64 r,.int .i64 k] h=(U tab .geq W (.int .i64 (b.length:Nat)) (.int .i64 k)).bind λa4=>aI a4
    (scope h h (aD [.J,.J,.int .i64 16]))
    ((R oI [d] h).bind λw =>
    (aA tab w.2 aP (.aE (aJ i))).bind λP =>
    (bF tab bD 1 [0] [P]).bind λa5 =>
    (dH tab w.2 bD bD w.1 a5).bind λL =>
    (R lU [f] L.2).bind λM =>
    (bF tab aN 1 [0] [.int .i64 r]).bind λa6 =>
    (dH tab M.2 aN aN M.1 a6).bind λN =>
    eD (aA tab h aP (.aE (aJ i))=some P)
    (scope h N.2 (aD [L.1,N.1,.int .i64 0]))):=by
  rw[EG];simp only[xe,ma,O,oS,A,ae,aQ,aY,aR,oP,s5,z1,af,jw,jl,lz,am];cases an:hP i.e.a1 (b.map dU)with
  |none=>simp only[sw,cY,aY,aR,O,cU,aQ]
  | some e =>
   obtain rfl:=ai e an;have ap:U tab .neq W (.int .i64 i.e.a2) (.int .i64 i.e.a2)=some (.bool false):=by simp only[dP,eS,fw,cT]
   simp only[xS,cY,aL,O,js,a7,a8,ap,cU,aQ,aY,aR]
 rw[v];constructor
 ·intro E;simp only[jb,O,E,dJ,aQ,aL];exact kj (by rfl) (.bU _ λz c=>by
   simp at c;rcases c with rfl|rfl
   ·exact .J
   ·exact .int _ _) (aT _) λ_ _=>rfl
 ·intro E;have al:¬((b.length:Nat):Int)≥k:=by omega
  suffices Wp (R kY [d,f,.agg (aJ i),.int .i64 r,.int .i64 k] h) (λa=>∃m o,a=(.bU [m,o,.int .i64 0],h)∧aV 11 aJ (b++[i]) m∧aV 1 fQ (l++[r]) o) by
   obtain⟨a,ag,m,o,rfl,ah⟩:=this;exact⟨m,o,v.symm.trans ag,ah⟩
  rw[v];simp only[jb,O,al,cT,aQ,aY,aR];have ao:bF tab bD 1 [0] [.agg (aJ i)]=some (.sl 11 true [aJ i]):=id rfl;obtain⟨x,t,ab,ax,ba,av⟩:∃x t,R oI [d] h=some (x,t)∧Own t h.length aP 11 (b.map aJ) x∧h.length≤t.length∧∀a,a<h.length→t[a]?=h[a]?:=by
   cases p:b with
   | nil =>
    obtain⟨rfl,rfl⟩:=F p;have e:U tab .eql bD .J .J=some (.bool true):=id rfl;refine⟨.J,h,?_,.J _ _ _ _,aT _,λ_ _=>rfl⟩;rw[yQ];simp only[r9,e,O,aQ,aL,cS]
   | cons j aa =>
    have:=Kg c h (by omega) (by rw[p];simp[-Ma]);rw[← p];exact⟨_,_,this,.inr ⟨h.length,aT _,by rw[fY],ic _ _ _ _⟩,by rw[hQ];omega,λa s=>g8 _ _ _ _ s⟩
  simp only[ab,O,oS,ao];refine wa (ys:=[aJ i]) (n0:=h.length) (by omega) ax (lp _ _ _ _) (by simp;omega) λQ g K bb aw _ _=>?_
  obtain⟨y,u,ac,ay,bc,H⟩:∃y u,R lU [f] g=some (y,u)∧Own u g.length W 1 (l.map fQ) y∧g.length≤u.length∧∀a,a<g.length→u[a]?=g[a]?:=by
   cases p:l with
   | nil =>
    obtain⟨rfl,rfl⟩:=F (by rw[p]at G;exact gA G.symm);have e:U tab .eql aN .J .J=some (.bool true):=id rfl;refine⟨.J,g,?_,.J _ _ _ _,aT _,λ_ _=>rfl⟩;rw[qo];simp only[nM,e,O,aQ,aL,cS]
   | cons j aa =>
    have au:aV 1 dC l f:=ar;have:=Bf au g (by omega) (by rw[p];simp[-Ma]);rw[← p];exact⟨_,_,this,.inr ⟨g.length,aT _,by rw[fY],ic _ _ _ _⟩,by rw[hQ];omega,λa s=>g8 _ _ _ _ s⟩
  simp only[ac,O,yg];refine BH (ys:=[fQ r]) (n0:=g.length) (by omega) ay (lp _ _ _ _) (by simp;omega) λT q az bd I _ _=>?_
  have a0:Own q h.length aP 11 ((b++[i]).map aJ) Q:=by
   rw[jm];exact K.bA λa s ak=>by
    have:=(K.lt ak).2;rw[I a this,H a this]
  have a3:Own q h.length W 1 ((l++[r]).map fQ) T:=by
   rw[jm];exact az.from (by omega)
  have B:=l9 (n0:=h.length) (n:=2) a0 (aT _) λj _=>u2 _ q 1 j
  have C:=l9 (n0:=h.length) (n:=2) a3 (aT _) λj _=>A0 _ q 2 j
  simp only[lK,aD];refine⟨_,kj (d' :=.bU [bL h.length q 3 Q,bL h.length q 3 T,.int .i64 0]) (by rfl) (.bU _ λz c=>by
   simp at c;rcases c with rfl|rfl|rfl
   ·exact km B λj _=>u4 _ j
   ·exact km C λj _ z c=>by
      simp only[fQ,h4]at c;subst c;exact .int _ _
   ·exact .int _ _) (by omega) λa s=>by rw[I a (by omega),H a (by omega),aw a (by omega),av a s],_,_,rfl,B,C⟩
theorem iW.take{xs:List RI}(h:iW xs)(n:Nat):iW (xs.take n):=λd e a c b=>by
 rw[eP]at a;split at a
 ·rename_i f;rw[List.take_take,sv (by omega)]at b;exact h d e a c b
 ·cases a
theorem iW.at{a:List It}(h:iW (a.map dU)){j:Nat}{i:It}(c:a[j]?=some i):∀e,hP i.e.a1 ((a.take j).map dU)=some e→e=i.e.a2:=λe b=>by
 refine h j (dU i) (by rw[dG,c];rfl) e ?_;rw[← sn];exact b
theorem Kf{c:List It}{L:List Int}{o p:D}(r:aV 11 aJ c o)(aj:aV 1 fQ L p)(ar:c.length≤1000)(ai:L.length=c.length)(ah:∀i∈c,kK i∧i.e.fs.length≤20)(ab:iW (c.map dU))(k:Int)(aq:(c.length:Nat)≤k)(h:Z):R oH [o,p,.int .i64 k] h=some (.bool true,h):=by
 have G:aX tab bD o=some (.int .i64 (c.length:Nat)):=kg r;have H:aX tab aN p=some (.int .i64 (c.length:Nat)):=by rw[← ai];exact oT aj
 have ae:¬((c.length:Nat):Int)>k:=by omega
 apply Wp.val;rw[EI];simp only[xf,G,H,O,eM,ae,cT,cY,aY,aR,aL,G,H,dP,eS,fw,cU,aQ,bS];refine Wp.loop (λd q b=>∃(j:Nat) (x y z A B C:D),q=[.bool false,x,y,z,A,.int .i64 (j:Nat),B,C]∧d+j=c.length∧h.length≤b.length∧∀a,a<h.length→b[a]?=h[a]?)
  (λd=>d.1 = .ext 0∧h.length≤d.2.2.length∧∀a,a<h.length→d.2.2[a]?=h[a]?) c.length ⟨0,_,_,_,_,_,_,rfl,by omega,aT _,λ_ _=>rfl⟩ ?_ ?_
 ·rintro d q b ⟨j,x,y,z,A,B,C,rfl,au,w,m⟩;simp only[xg,cL,dT,O,dZ,bS];refine Wp.eY ?_ ?_
  ·intro l;have l:j<c.length:=jd l;have ad:(0:Int)≤(j:Int):=by omega
   obtain⟨i,s⟩:=zy l;obtain⟨am,ac⟩:=ah i (dX s);have N:=iU j (by omega);simp only[nb r,ad,aL,e7,s,gC,O,oS];have ak:(aK b aP 11 [[.str [],.int .i64 0,.int .i64 0,.int .i64 0,.int .i64 0,.J,.int .i64 0,.int .i64 0,.str [],.str [],.J]])[b.length]?=some (.row aP 11 [aJ pL]):=ic _ _ _ _;have al:∀a,a<b.length→(aK b aP 11 [[.str [],.int .i64 0,.int .i64 0,.int .i64 0,.int .i64 0,.J,.int .i64 0,.int .i64 0,.str [],.str [],.J]])[a]?=b[a]?:=λa u=>g8 _ _ _ _ u
   have av:(aK b aP 11 [[.str [],.int .i64 0,.int .i64 0,.int .i64 0,.int .i64 0,.J,.int .i64 0,.int .i64 0,.str [],.str [],.J]]).length=b.length+1:=hQ _ _ _ _;generalize aK b aP 11 [[.str [],.int .i64 0,.int .i64 0,.int .i64 0,.int .i64 0,.J,.int .i64 0,.int .i64 0,.str [],.str [],.J]]=ap at *;refine pJ (kk:=0) (off:=0) (row:=aJ pL) (v :=.agg (aJ i)) ak (by rfl) (by rfl) (by exact aT _) (zH _) λf g M=>?_
   have g:f[b.length]?=some (.row aP 11 [aJ i]):=g;obtain⟨an,X,K⟩:=vR (T:=tab) (t:=bD) (i:=mm) (e:=aP) (j:=jL) (id rfl) (id rfl) (id rfl) (id rfl) r (k :=.i64) (n:=(j:Nat)) (by omega) (by omega);rw[e7]at K;have aa:aA tab f W (.ptr b.length 0 (0+1+1))=some (.int .i64 i.e.a1):=by rw[fE,eI g];rfl
   have F:aA tab f W (.ptr b.length 0 (0+1+2))=some (.int .i64 i.e.a2):=by rw[fE,eI g];rfl
   have E:=Bc i f ac;rw[am.e]at E;have P:U tab .neq iT (.int .i64 0) (.int .i64 0)=some (.bool false):=id rfl;have Q:=Bh K (by rw[hG];omega) i.e.a1 f;have I:h.length≤f.length∧∀a,a<h.length→f[a]?=h[a]?:=⟨by have:=M.1;omega,λa u=>by rw[M.2 a (by omega),al a (by omega),m a u]⟩
   simp only[O,X,lQ,zc,lP,aa,F,Q,z2 g,E,P,jw,jl,lz];cases af:hP i.e.a1 ((c.take j).map dU)with
   | none =>
    simp only[sw,cY,aY,aR,O,cU,aQ,eL,N];exact .some (.inl ⟨rfl,d - 1,by omega,j+1,_,_,_,_,_,_,rfl,by omega,I⟩)
   | some e =>
    obtain rfl:=ab.at s e af;have ag:U tab .neq W (.int .i64 i.e.a2) (.int .i64 i.e.a2)=some (.bool false):=by simp only[dP,eS,fw,cT]
    simp only[xS,cY,aL,O,js,lP,F,ag,cU,aQ,aY,aR,eL,N];exact .some (.inl ⟨rfl,d - 1,by omega,j+1,_,_,_,_,_,_,rfl,by omega,I⟩)
  ·intro l;exact .some (.inr ⟨by simp,rfl,w,m⟩)
 ·rintro⟨ao,q,b⟩ ⟨rfl,w,m⟩;simp only[fb,dW,O,cS];rw[kj (by rfl) (.bool _) w m];exact .some rfl
theorem HA(zs:List Int)(d:D)(a5:iw .u8 zs d)(bh:∀z∈zs,0≤z∧z<256)(bi:zs.length≤9223372036854775807)(w:Int)(bf:0≤w∧w<256):∃h',R1 tB [d,.int .u8 w] []=some (.bool true,h'):=by
 suffices Wp (R1 tB [d,.int .u8 w] []) (λbk=>bk.1 = .bool true) by
  obtain⟨⟨b3,h'⟩,g,rfl⟩:=this;exact⟨h',g⟩
 obtain⟨bg,b0⟩:=bf;obtain⟨a3,s,aq,b1,_⟩:=IH zs d 240 [] a5 (by omega) (by omega) bh bi;obtain⟨a,r,Q,aw,A,y,C,ac,ai,bv,bz,⟨ab,ae⟩,P,b2⟩:=IK aq 10 (by omega);have y:R lS [.ptr 0 0 0,.int .i64 10] a3=some (.bU [Q,aw],A):=y;have aj:(U tab .rem W (.int .i64 w) (.int .i64 12))=some (.int .i64 (w % 12)):=by
  simp[-Ma,U,fW];have g:Int.tmod w 12=w % 12:=Int.tmod_eq_emod_of_nonneg bg;rw[g]
 have bc:fM .not (.bool true)=some (.bool false):=id rfl;have a9:aX tab bD Q=some (.int .i64 (a.length:Nat)):=kg C;have a4:hN tab fa W (.int .u8 w)=some (.int .i64 w):=by
  show some (D.int .i64 (IntKind.wrap .i64 w))=_;rw[cX (by omega) (by omega)]
 obtain⟨k,a8,bu⟩:∃k:Nat,w % 12=(k:Int)∧k<12:=⟨(w % 12).toNat,by omega,by omega⟩
 rw[a8]at aj;rw[EF];simp only[xc,J6,O,bc,fB,aQ,aY,aR,Jp,s,Jq,y,jw,jl,lz,a4,aj,a9,bS];refine Wp.loop (λl x f=>∃(j:Nat) (b c ap H I K L M N F G:D),x=[.bool false,b,c,H,I,K,L,.int .i64 (j:Nat),M,N,F,G]∧l+j=a.length+1∧j≤a.length∧j≤k∧f=A∧aV 11 aJ (a.take j) b∧aV 1 fQ (r.take j) c∧(j=0→b = .J∧c = .J))
  (λl=>l.1 = .ext 0∧∃(b c:D),Y 1 l.2.1=b∧Y 2 l.2.1=c∧l.2.2=A∧aV 11 aJ (a.take (min k a.length)) b∧aV 1 fQ (r.take (min k a.length)) c) (a.length+1)
  ⟨0,.J,.J,.J,_,_,_,_,_,_,_,_,rfl,rfl,by omega,by omega,rfl,.inl ⟨rfl,rfl⟩,.inl ⟨rfl,rfl⟩,λ_=>⟨rfl,rfl⟩⟩ ?_ ?_
 ·rintro l x f ⟨j,b,c,ap,H,I,K,L,M,N,F,G,rfl,bx,bq,br,rfl,m,p,bb⟩;simp only[xd,cL,dT,O,dZ,bS];refine Wp.eY ?_ ?_
  ·intro o;have o:j<a.length:=jd o;have a7:(0:Int)≤(j:Int):=by omega
   obtain⟨i,h⟩:=zy o;obtain⟨q,ak⟩:∃q,r[j]?=some q:=⟨_,cA (by omega)⟩
   have bl:=iU j (by omega);have bj:aA tab f W (.aE (fQ q))=some (.int .i64 q):=id rfl;have E:(a.take j).length=j:=by rw[hG];omega
   have bw:(r.take j).length=j:=by rw[hG];omega
   obtain⟨an,ao⟩:=Kc m p (by omega) (by omega) (λa6=>bb (by rw[← E,a6];rfl)) (ai i (dX h)) (ae i (dX h)) (ab.at h) q k f;rw[E]at an ao;simp only[nb C,oQ ac,a7,aL,e7,h,ak,gC,O,oS,bj,Ju];have ah:aX tab bD b=some (.int .i64 (j:Nat)):=by have:=kg m;rwa [E]at this
   by_cases bt:k≤j
   ·have v:((j:Nat):Int)≥(k:Nat):=by omega
    have s:U tab .neq iT (.int .i64 16) (.int .i64 16)=some (.bool false):=id rfl;simp only[an v,O,jw,jl,lz,ah,jb,v,dJ,aQ,aL,s,aY,aR];have u:min k a.length=j:=by omega
    exact .some (.inr ⟨by simp,rfl,b,c,rfl,rfl,rfl,by rw[u];exact m,by rw[u];exact p⟩)
   ·have v:¬((j:Nat):Int)≥(k:Nat):=by omega
    obtain⟨av,ax,a0,B,aa⟩:=ao (by omega);have s:U tab .neq iT (.int .i64 0) (.int .i64 0)=some (.bool false):=id rfl;have bd:a.take j++[i]=a.take (j+1):=by rw[jq,h];rfl
    have be:r.take j++[q]=r.take (j+1):=by rw[jq,ak];rfl
    rw[bd]at B;rw[be]at aa;have ag:(a.take (j+1)).length=j+1:=by rw[hG];omega
    have ad:=Ke B k (by rw[ag];omega) (by omega) f;rw[ag]at ad;have bm:IntKind.wrap .i64 ((k:Int) - (j:Nat))=(k:Int) - (j:Nat):=cX (by omega) (by omega);have bn:IntKind.wrap .i64 ((k:Int) - (j:Nat) - 1)=(k:Int) - ((j+1:Nat):Int):=by rw[cX (by omega) (by omega)];omega
    simp only[a0,O,jw,jl,lz,ah,jb,v,cT,aQ,aY,aR,s,cY,fj,aL,Jv,ad,fh,bm,bn,dP,eS,fw,cU,eL,bl];exact .some (.inl ⟨rfl,l - 1,by omega,j+1,av,ax,.J,_,_,_,_,_,_,_,_,rfl,by omega,by omega,by omega,rfl,B,aa,λbp=>by omega⟩)
  ·intro o;have o:j=a.length:=by
    have:¬(j:Int)<a.length:=by simpa using o
    omega
   have u:min k a.length=j:=by omega
   exact .some (.inr ⟨by simp,rfl,b,c,rfl,rfl,rfl,by rw[u];exact m,by rw[u];exact p⟩)
 ·rintro⟨bo,x,f⟩ ⟨rfl,b,c,g,X,af,m,p⟩;simp only at g X af;subst af;have ba:kU (.int .i64 (k:Nat)) (.int .i64 (a.length:Nat))=some (.int .i64 ((min k a.length:Nat):Int)):=by
   have g:(if((a.length:Nat):Int)<(k:Nat)then((a.length:Nat):Int)else(k:Nat))=((min k a.length:Nat):Int):=by
    split<;>omega
   rw[← g];rfl
  obtain⟨ay,a1,al⟩:=vR (T:=tab) (t:=bD) (i:=mm) (e:=aP) (j:=jL) (id rfl) (id rfl) (id rfl) (id rfl) C (k :=.i64) (n:=(min k a.length:Nat)) (by omega) (by omega);obtain⟨az,a2,am⟩:=vR (T:=tab) (t:=aN) (i:=kn) (e:=W) (j:=eO) (id rfl) (id rfl) (id rfl) (id rfl) ac (k :=.i64) (n:=(min k a.length:Nat)) (by omega) (by omega);rw[e7]at al am;have P:=J4 _ _ b ay f m al rfl (by rw[hG];omega);have ar:=J5 _ c az f p am (by rw[hG];omega);have au:=Kf m p (by rw[hG];omega) (by rw[hG,hG];omega) (λi h=>⟨ai i (gb h),ae i (gb h)⟩) (by rw[sn];exact ab.take _) (k:Nat) (by rw[hG];omega) f;simp only[O,fb,dW,cL,dT,g,X,ba,a1,a2,Jr,P,cY,fj,aL,Js,ar,cU,Jw,au,cS];exact .some rfl
end Go.Proofs.YtinlnkhheafjaaaDoor

/- Part 4 of the texts that the theorem needs: an interpreter on data, proved sound; the functions on data; laws about them. -/
import Derived.Test.YtinlnkhheafjaaaDoorM3
set_option linter.unusedSimpArgs false
set_option linter.unusedVariables false
set_option linter.unnecessarySimpa false
set_option maxRecDepth 100000
namespace Go.Eng
abbrev eS:=@Int.toNat_natCast
abbrev gq:=@not_true
abbrev iE:=@List.head?_cons
abbrev iF:=@List.map_append
abbrev jn:=@Bool.true_eq_false
abbrev lP:=@or_false
abbrev lT:=@Decidable.not_not
abbrev mC:=@or_self
abbrev mX:=@List.getElem?_cons_succ
abbrev ns:=@beq_self_eq_true
abbrev nK:=@or_true
abbrev nW:=@true_or
abbrev pP:=@Int.natCast_nonneg
abbrev qo:=@false_or
abbrev rX:=@List.take_left'
abbrev uD:=@List.all_cons
abbrev uI:=@List.map_nil
abbrev uY:=@UInt8.lt_iff_toNat_lt
end Go.Eng
namespace Go.Proofs.YtinlnkhheafjaaaDoor
open Go.Eng Go.Pi
open Option renaming bind_some → Qd
abbrev aG:=List UInt8
def bC(p:aG × aG):List D:=[.str p.1,.str p.2]
structure cL where
 off:Int
 len:Int
 fT:aG
 deriving DecidableEq
def aY(l:cL):List D:=[.int .i64 l.off,.int .i64 l.len,.str l.fT]
structure Ev where
 a0:Int
 a1:Int
 a2:Int
 a3:Int
 ls:List cL
 ld:D
 a5:Int
 a6:Int
 s7:aG
 s8:aG
 fs:List (aG × aG)
 fd:D
 hN:aU 2 bC fs fd
 hl:fs.length≤9223372036854775807
 iK:aU 3 aY ls ld
 qL:ls.length≤9223372036854775807
def cD(e:Ev):List D:=[.int .i64 e.a0,.int .i64 e.a1,.int .i64 e.a2,.int .i64 e.a3,e.ld,.int .i64 e.a5,.int .i64 e.a6,.str e.s7,.str e.s8,e.fd]
structure It where
 r:aG
 e:Ev
def aH(i:It):List D :=.str i.r::cD i.e
theorem vu(n0:Nat)(h:Z)(n:Nat)(p:aG × aG):∀d∈bC p,bP n0 h n d=d:=by simp[-Qd,bC]
theorem vx(n:Nat)(p:aG × aG):∀d∈bC p,Ok n d:=by
 intro d a;simp[-Qd,bC]at a;rcases a with rfl|rfl<;>constructor
theorem qU(n0:Nat)(h:Z)(n:Nat)(p:cL):∀d∈aY p,bP n0 h n d=d:=by simp[-Qd,aY]
theorem xD(n:Nat)(p:cL):∀d∈aY p,Ok n d:=by
 intro d a;simp[-Qd,aY]at a;rcases a with rfl|rfl|rfl<;>constructor
theorem BB(n0:Nat)(h:Z)(n:Nat)(e:Ev):∀d∈cD e,bP n0 h (n+1) d=d:=by
 intro d b;simp[-Qd,cD]at b;rcases b with rfl|rfl|rfl|rfl|rfl|rfl|rfl|rfl|rfl|rfl
 all_goals first|exact tI e.iK (λa _=>qU _ _ _ a)|exact tI e.hN (λa _=>vu _ _ _ a)|simp[-Qd]
theorem BC(n:Nat)(e:Ev):∀d∈cD e,Ok n d:=by
 intro d b;simp[-Qd,cD]at b;rcases b with rfl|rfl|rfl|rfl|rfl|rfl|rfl|rfl|rfl|rfl
 all_goals first|exact lh e.iK (λa _=>xD _ a)|exact lh e.hN (λa _=>vx _ a)|constructor
theorem qP(n:Nat)(i:It):Ok n (.agg (aH i)):=by
 refine .agg _ λc b=>?_
 simp[-Qd,aH,cD]at b;rcases b with rfl|rfl|rfl|rfl|rfl|rfl|rfl|rfl|rfl|rfl|rfl
 all_goals first|exact lh i.e.iK (λa _=>xD _ a)|exact lh i.e.hN (λa _=>vx _ a)|constructor
theorem s0(n0:Nat)(h:Z)(n:Nat)(i:It):∀d∈aH i,bP n0 h (n+1) d=d:=by
 intro d a;rcases eI.1 a with rfl|a
 ·simp[-Qd]
 ·exact BB n0 h n i.e d a
theorem xx(n:Nat)(i:It):∀d∈aH i,Ok n d:=by
 intro d a;rcases eI.1 a with rfl|a
 ·exact .str _
 ·exact BC n i.e d a
theorem sk(e:Ev)(h:Z):aA tab h aF (.aD (cD e))=some (.agg (cD e)):=id rfl
theorem sZ(i:It):aC tab aI 1 (.aD (aH i))=some (.aD (cD i.e)):=id rfl
theorem Ck(i:It):aC tab aI 0 (.aD (aH i))=some (.aD (aH i)):=id rfl
theorem Cl(i:It)(h:Z):aA tab h bL (.aD (aH i))=some (.str i.r):=id rfl
theorem xA(i:It)(h:Z):aA tab h aI (.aD (aH i))=some (.agg (aH i)):=id rfl
theorem F2(i:It):bI tab cN 1 [0] [.agg (aH i)]=some (.sl 11 true [aH i]):=id rfl
theorem nH(l:cL)(h:Z):aA tab h bF (.aD (aY l))=some (.agg (aY l)):=id rfl
theorem vw(l:aG × aG)(h:Z):aA tab h bO (.aD (bC l))=some (.agg (bC l)):=id rfl
theorem Lm(a b:cL):U tab .neq bF (.agg (aY a)) (.agg (aY b))=some (.bool (decide (a≠b))):=by
 obtain⟨c,d,e⟩:=a;obtain⟨f,g,h⟩:=b;simp[-Qd,aY];by_cases i:c=f<;>by_cases j:d=g<;>by_cases k:e=h<;>simp[-Qd,i,j,k]
theorem BZ(a b:aG × aG):U tab .neq bO (.agg (bC a)) (.agg (bC b))=some (.bool (decide (a≠b))):=by
 obtain⟨c,d⟩:=a;obtain⟨e,f⟩:=b;simp[-Qd,bC];by_cases g:c=e<;>by_cases h:d=f<;>simp[-Qd,g,h]
def OC(c:Int):Int:=if c % 2=1 then IntKind.wrap .u32 (BitVec.ofInt IntKind.u32.bits (c.fdiv 2) ^^^ BitVec.ofInt IntKind.u32.bits 3988292384).toNat else c.fdiv 2
def El:Nat→Int→Int
 |0,c=>c
 |n+1,c=>El n (OC c)
def F3(c z:Int):Int:=El 8 (IntKind.wrap .u32 (BitVec.ofInt IntKind.u32.bits c ^^^ BitVec.ofInt IntKind.u32.bits (IntKind.wrap .u32 z)).toNat)
def A4:Int→List Int→Int
 |c,[]=>c
 |c,z::r=>A4 (F3 c z) r
def Gv(l:List Int):Int:=IntKind.wrap .u32 (BitVec.ofInt IntKind.u32.bits (if IntKind.u32.signed then -1 else IntKind.u32.max) ^^^ BitVec.ofInt IntKind.u32.bits (A4 4294967295 l)).toNat
theorem N7(l r:List cL)(d e:D)(h:Z)(n:aU 3 aY l d)(w:aU 3 aY r e)(F:l.length≤9223372036854775807):R vQ [d,e] h=some (.bool (decide (l=r)),h):=by
 apply Wp.val;rw[H9];simp only[zR,O,bH,lK n,lK w,eC];refine Wp.eN ?_ ?_
 ·intro i;have i:l.length≠r.length:=by
   have:¬(l.length:Int)=r.length:=by simpa using i
   omega
  have p:l≠r:=λo=>i (by rw[o])
  simp only[O,cS];exact .some (by simp[-Qd,p])
 ·intro i;have i:l.length=r.length:=by
   have:(l.length:Int)=r.length:=by simpa using i
   omega
  refine Wp.loop (λs j m=>m=h∧∃t u v,∃a:Nat,j=[t,.int .i64 a,u,v]∧s+a=l.length∧l.take a=r.take a)
   (λb=>b.2.2=h∧((b.1 = .ret∧Y 0 b.2.1 = .bool false∧l≠r)∨(b.1 = .ext 0∧l=r))) l.length ⟨rfl,_,_,_,0,rfl,rfl,rfl⟩ ?_ ?_
  ·rintro s j m ⟨rfl,t,u,v,a,rfl,E,x⟩;simp only[zS,bY,dI,O,bH,lK n,dN];refine Wp.eN ?_ ?_
   ·intro g;have g:a<l.length:=ji g;have k:l[a]?=some l[a]:=cA g;have c:r[a]?=some (r[a]'(by omega)):=cA (by omega);have C:=ig a (by omega);generalize l[a]=b at k;generalize r[a]'(by omega)=y at c;simp only[mm n,mm w,pP,aM,eS,k,c,gH,O,nH,Lm];refine Wp.eN ?_ ?_
    ·intro f;have f:b≠y:=by simpa using f
     try simp only[O]
     refine .some (.inr ⟨by simp,rfl,.inl ⟨rfl,rfl,λo=>?_⟩⟩);subst o;rw[k]at c;injection c with c;exact f c
    ·intro f;have f:b=y:=by simpa using f
     subst f;simp only[dV,O,C];refine .some (.inl ⟨rfl,s - 1,by omega,rfl,_,_,_,a+1,rfl,by omega,?_⟩);rw[jz,jz,x,k,c]
   ·intro g;have g:a=l.length:=by
     have:¬(a:Int)<l.length:=by simpa using g
     omega
    refine .some (.inr ⟨by simp,rfl,.inr ⟨rfl,?_⟩⟩);have z:l.take a=l:=gW (by omega);have A:r.take a=r:=gW (by omega);rw[← z,← A,x]
  ·rintro⟨b,j,m⟩ ⟨rfl,⟨rfl,q,p⟩|⟨rfl,B⟩⟩
   ·replace q:Y 0 j = .bool false:=q;simp only[pC,pB,oI,bY,O,q,cS];exact .some (by simp[-Qd,p])
   ·simp only[eW,dE,O,cS];exact .some (by simp[-Qd,B])
theorem N8(l r:List (aG × aG))(d e:D)(h:Z)(n:aU 2 bC l d)(w:aU 2 bC r e)(F:l.length≤9223372036854775807):R vR [d,e] h=some (.bool (decide (l=r)),h):=by
 apply Wp.val;rw[Ia];simp only[zT,O,bH,jX n,jX w,eC];refine Wp.eN ?_ ?_
 ·intro i;have i:l.length≠r.length:=by
   have:¬(l.length:Int)=r.length:=by simpa using i
   omega
  have p:l≠r:=λo=>i (by rw[o])
  simp only[O,cS];exact .some (by simp[-Qd,p])
 ·intro i;have i:l.length=r.length:=by
   have:(l.length:Int)=r.length:=by simpa using i
   omega
  refine Wp.loop (λs j m=>m=h∧∃t u v,∃a:Nat,j=[t,.int .i64 a,u,v]∧s+a=l.length∧l.take a=r.take a)
   (λb=>b.2.2=h∧((b.1 = .ret∧Y 0 b.2.1 = .bool false∧l≠r)∨(b.1 = .ext 0∧l=r))) l.length ⟨rfl,_,_,_,0,rfl,rfl,rfl⟩ ?_ ?_
  ·rintro s j m ⟨rfl,t,u,v,a,rfl,E,x⟩;simp only[zU,bY,dI,O,bH,jX n,dN];refine Wp.eN ?_ ?_
   ·intro g;have g:a<l.length:=ji g;have k:l[a]?=some l[a]:=cA g;have c:r[a]?=some (r[a]'(by omega)):=cA (by omega);have C:=ig a (by omega);generalize l[a]=b at k;generalize r[a]'(by omega)=y at c;simp only[s5 n,s5 w,pP,aM,eS,k,c,gH,O,vw,BZ];refine Wp.eN ?_ ?_
    ·intro f;have f:b≠y:=by simpa using f
     try simp only[O]
     refine .some (.inr ⟨by simp,rfl,.inl ⟨rfl,rfl,λo=>?_⟩⟩);subst o;rw[k]at c;injection c with c;exact f c
    ·intro f;have f:b=y:=by simpa using f
     subst f;simp only[dV,O,C];refine .some (.inl ⟨rfl,s - 1,by omega,rfl,_,_,_,a+1,rfl,by omega,?_⟩);rw[jz,jz,x,k,c]
   ·intro g;have g:a=l.length:=by
     have:¬(a:Int)<l.length:=by simpa using g
     omega
    refine .some (.inr ⟨by simp,rfl,.inr ⟨rfl,?_⟩⟩);have z:l.take a=l:=gW (by omega);have A:r.take a=r:=gW (by omega);rw[← z,← A,x]
  ·rintro⟨b,j,m⟩ ⟨rfl,⟨rfl,q,p⟩|⟨rfl,B⟩⟩
   ·replace q:Y 0 j = .bool false:=q;simp only[pC,pB,oI,bY,O,q,cS];exact .some (by simp[-Qd,p])
   ·simp only[eW,dE,O,cS];exact .some (by simp[-Qd,B])
def iy(a b:Ev):Bool:=decide (a.a0=b.a0)&&(decide (a.a1=b.a1)&&(decide (a.a2=b.a2)&&(decide (a.a3=b.a3)&&(decide (a.a5=b.a5)&&(decide (a.a6=b.a6)&&(decide (a.s7=b.s7)&&(decide (a.s8=b.s8)&&(decide (a.ls=b.ls)&&decide (a.fs=b.fs)))))))))
def hP(i j:It):Bool:=decide (i.r=j.r)&&iy i.e j.e
theorem Oa(a:Ev):iy a a=true:=by simp[-Qd,iy]
theorem Ea(a:It):hP a a=true:=by simp[-Qd,hP,Oa]
theorem N4(i j:It)(h:Z):R vO [.agg (aH i),.agg (aH j)] h=some (.bool (hP i j),h):=by
 apply Wp.val;rw[H5];simp only[zM,nM,O,bH,sZ,Ck,Cl,sk];generalize y:aL h aF 10 [[.int .i64 0,.int .i64 0,.int .i64 0,.int .i64 0,.J,.int .i64 0,.int .i64 0,.str [],.str [],.J]]=B;have Q:B.length=h.length+1:=by simp[-Qd,← y,aL]
 have N:∀b,b<h.length→B[b]?=h[b]?:=λb A=>by simp only[← y,aL];rw[dY A]
 have X:B[h.length]?=some (.row aF 10 [[.int .i64 0,.int .i64 0,.int .i64 0,.int .i64 0,.J,.int .i64 0,.int .i64 0,.str [],.str [],.J]]):=by simp[-Qd,← y,aL]
 clear y;refine rD X (by rfl) (by rfl) (by simp) (by rfl) λw s L=>?_
 replace s:w[h.length]?=some (.row aF 10 [cD i.e]):=s;have K:w.length=h.length+1:=by rw[L.1,Q]
 try simp only[nu]
 rw[K];generalize z:aL w aF 10 [[.int .i64 0,.int .i64 0,.int .i64 0,.int .i64 0,.J,.int .i64 0,.int .i64 0,.str [],.str [],.J]]=C;have ad:h.length≤C.length:=by simp[-Qd,← z,aL];omega
 have I:∀b,b<h.length+1→C[b]?=w[b]?:=λb A=>by simp only[← z,aL];rw[dY (by omega)]
 have aa:C[h.length+1]?=some (.row aF 10 [[.int .i64 0,.int .i64 0,.int .i64 0,.int .i64 0,.J,.int .i64 0,.int .i64 0,.str [],.str [],.J]]):=by
  simp only[← z,aL];rw[← K,iC (aS _)];simp[-Qd]
 replace s:=(I h.length (by omega)).trans s;clear z;refine rD aa (by rfl) (by rfl) (by simp) (by rfl) λp E F=>?_
 replace E:p[h.length+1]?=some (.row aF 10 [cD j.e]):=E;replace s:=(F.2 h.length (by omega)).trans s;have P:∀b,b<h.length→p[b]?=h[b]?:=λb A=>(((F.2 b (by omega)).trans (I b (by omega))).trans (L.2 b (by omega))).trans (N b A)
 have T:h.length≤p.length:=by have:=F.1;omega
 have k:p.row h.length 0=some (cD i.e):=dW s;have l:p.row (h.length+1) 0=some (cD j.e):=dW E;have f:∀v:Bool,scope h p (.bool v)=some (.bool v,h):=λv=>jZ (by simp) (.bool v) T P
 obtain⟨ab,a⟩:=i;obtain⟨ac,c⟩:=j;by_cases d:ab=ac
 case neg=>exact⟨_,by simp[-Qd,d,f,hP],rfl⟩
 by_cases g:a.a0=c.a0
 case neg=>exact⟨_,by simp[-Qd,d,g,f,hP,iy,k,l,cD],rfl⟩
 by_cases m:a.a1=c.a1
 case neg=>exact⟨_,by simp[-Qd,d,g,m,f,hP,iy,k,l,cD],rfl⟩
 by_cases o:a.a2=c.a2
 case neg=>exact⟨_,by simp[-Qd,d,g,m,o,f,hP,iy,k,l,cD],rfl⟩
 by_cases q:a.a3=c.a3
 case neg=>exact⟨_,by simp[-Qd,d,g,m,o,q,f,hP,iy,k,l,cD],rfl⟩
 by_cases r:a.a5=c.a5
 case neg=>exact⟨_,by simp[-Qd,d,g,m,o,q,r,f,hP,iy,k,l,cD],rfl⟩
 by_cases t:a.a6=c.a6
 case neg=>exact⟨_,by simp[-Qd,d,g,m,o,q,r,t,f,hP,iy,k,l,cD],rfl⟩
 by_cases u:a.s7=c.s7
 case neg=>exact⟨_,by simp[-Qd,d,g,m,o,q,r,t,u,f,hP,iy,k,l,cD],rfl⟩
 by_cases x:a.s8=c.s8
 case neg=>exact⟨_,by simp[-Qd,d,g,m,o,q,r,t,u,x,f,hP,iy,k,l,cD],rfl⟩
 have G:=N7 a.ls c.ls a.ld c.ld p a.iK c.iK a.qL;have M:=N8 a.fs c.fs a.fd c.fd p a.hN c.hN a.hl;by_cases D:a.ls=c.ls
 case neg=>exact⟨_,by simp[-Qd,d,g,m,o,q,r,t,u,x,D,f,hP,iy,k,l,cD,G],rfl⟩
 by_cases H:a.fs=c.fs
 case neg=>exact⟨_,by simp[-Qd,d,g,m,o,q,r,t,u,x,D,H,f,hP,iy,k,l,cD,G,M],rfl⟩
 exact⟨_,by simp[-Qd,d,g,m,o,q,r,t,u,x,D,H,f,hP,iy,k,l,cD,G,M],rfl⟩
def idx{b:Type}(a:b→Bool):Nat→List b→Int
 |_,[] => -1
 |k,x::r=>if a x=true then k else idx a (k+1) r
theorem xr{b:Type}(a:b→Bool):∀(l:List b) (k:Nat),decide (0≤idx a k l)=l.any a
 |[],k=>by simp[-Qd,idx]
 | x::r,k=>by
  unfold idx;by_cases h:a x=true
  ·simp[-Qd,h]
  ·simp[-Qd,h,xr a r]
theorem Cc{zs:List Int}{d:D}(a:jr .u8 zs d):aV tab iQ d=some (.int .i64 zs.length):=by
 rcases a with⟨rfl,rfl⟩|rfl
 ·rfl
 ·simp[-Qd,ints]
theorem JZ{zs:List Int}{d:D}(b:jr .u8 zs d)(i:Nat)(z:Int)(a:zs[i]?=some z):aN tab iQ d (.int .i64 i)=some (.aD [.int .u8 z]):=by
 rcases b with⟨rfl,rfl⟩|rfl
 ·cases a
 ·simp[-Qd,ints,a]
theorem OB(h:Z)(o k f:Nat)(v:D):bZ tab h W (.ptr o k f) v=jl 1 h (.ptr o k f) v:=rfl
def blank(l:cL):cL:={ l with fT:=[] }
theorem s9{h:Z}{a T z:Nat}{cs:List D}(c:h[a]?=some (.row T z [cs]))(b:cs.length=10):aA tab h aF (.ptr a 0 0)=some (.agg cs):=by
 rw[Lc,dW c];simp[-Qd,mI,b];exact gW (by omega)
theorem qS{h:Z}{a T z:Nat}{cs:List D}(c:h[a]?=some (.row T z [cs]))(b:cs.length=11):aA tab h aI (.ptr a 0 0)=some (.agg cs):=by
 rw[CN,dW c];simp[-Qd,mI,b];exact gW (by omega)
theorem N9(n:Int)(h:Z):R sS [.int .i64 n] h=some (.bool false,h):=by
 rw[Ib];simp[-Qd,zV]
def jE(a b:Int):Int:=if a<b then -1 else if b<a then 1 else 0
theorem N6(a b:Int)(h:Z):R sR [.int .i64 a,.int .i64 b] h=some (.int .i64 (jE a b),h):=by
 rw[H8];simp[-Qd,zQ,N9,jE];by_cases c:a<b
 ·simp[-Qd,c]
 ·by_cases d:b<a<;>simp[-Qd,c,d]
def mv(c:Int):Bool:=(decide (97≤c)&&decide (c≤122))||(decide (65≤c)&&decide (c≤90))
def vi(c:Int):Bool:=decide (48≤c)&&decide (c≤57)
def rB(c:Int):Bool:=(vi c||mv c)||decide (c=95)
def lO(c:UInt8):Bool:=rB c.toNat||decide ((c.toNat:Int)=46)
def jj(s:aG):Bool:=match s with
 |[]=>false
 |c::a=>decide ((c::a).length≤32)&&(mv c.toNat||decide ((c.toNat:Int)=95))&&(c::a).all lO
theorem Oj(s:aG)(i:Nat)(c:UInt8)(a:s[i]?=some c):ny tab bL (.str s) (.int .i64 i)=some (.int .u8 c.toNat):=by
 show(if(0:Int)≤(i:Int)then(match s[(i:Int).toNat]? with|some c=>some (D.int .u8 c.toNat)|none=>none)else none)=_;simp[-Qd,a]
def rG(l:List (aG × aG)):Prop:=∀c a b,l[c]?=some a→l[c+1]?=some b→Op.bytesLess a.1 b.1=true∧a.1≠b.1
theorem vt(p:aG × aG):(aC tab bO 0 (.aD (bC p)))=some (.aD (bC p)):=id rfl
theorem vv(p:aG × aG)(h:Z):aA tab h bL (.aD (bC p))=some (.str p.1):=id rfl
theorem KS(l:List cL)(d:D)(n:D)(j:cL→Bool)(h:Z)(p:aU 3 aY l d)(A:l.length≤9223372036854775807)(q:∀x,fA R n [.agg (aY x)] h=some (.bool (j x),h)){u:Type}(k:bT→Option u)(X:Int→Option u)
   (y:∀v r,k (.ret,.int .i64 v::r,h)=X v) (z:∀r,k (.ext 0,r,h)=X (-1)):∀(i c:List cL),l=c++i→∀a b e f,
   (cH (lp d n (.int .i64 l.length)) [a,b,.int .i64 c.length,e,f] h).bind k=X (idx j c.length i):=by
 intro i
 induction i with
 | nil =>
  rintro c rfl a b e f;rw[iM];simp[-Qd,lp,z,idx]
 | cons g i C =>
  rintro c rfl a b e f;have B:IntKind.wrap .i64 ((c.length:Int)+1)=(c++[g]).length:=by
   rw[dF (by omega) (by simp at A;omega)];simp[-Qd]
  have t:(c.length:Int)<(c++g::i).length:=by simp;omega
  rw[iM];generalize o:c++g::i=w at *;have s:w[c.length]?=some g:=by rw[← o];exact qI _ _ _
  by_cases m:j g=true
  ·simp[-Qd,lp,mm p,t,s,nH,q,m,y,idx]
  ·have:=C (c++[g]) (by simp[-Qd,← o]) a (.int .i64 c.length) (.bool true) (.bool (j g));simp only[← B]at this;simp[-Qd,lp,mm p,t,s,nH,q,m,idx];simp[-Qd,m]at this;exact this
theorem D4(l:List cL)(d:D)(a:D)(b:cL→Bool)(h:Z)(c:aU 3 aY l d)(g:l.length≤9223372036854775807)(f:∀x,fA R a [.agg (aY x)] h=some (.bool (b x),h)):
   R oN [d,a] h=some (.int .i64 (idx b 0 l),h):=by
 rw[Bk];simp only[uf,O,lK c,bH];rw[show(0:Int)=(([]:List cL).length:Int)from rfl,KS l d a b h c g f _ (λe=>some (.int .i64 e,h)) (λe i=>by simp) (λi=>by simp) l [] rfl];rfl
theorem AB{T:bD}{t e:Nat}{i j:TI}(k:T t=Option.some i)(hi:i.td = .sl e)(c:T e=Option.some j)(m:0<j.V){h:Z}{ys:List (List D)}{y:D}(l:iq h j.V y=Option.some ys)(d:lim ys.length j.gA=true):
  ∃b h',dM T h t t (.sl j.V true []) y=Option.some (b,h')∧h.length≤h'.length∧(∀a,a<h.length→h'[a]?=h[a]?)∧((b = .sl j.V true []∧ys=[])∨Own h' h.length e j.V ys b):=by
 have n:Nat.blt 0 j.V=true:=iU m;have g:jW h i j y=Option.some ys:=by simp[-Qd,jW,hi,l]
 unfold dM;simp only[k,hi,c,n,g];cases ys with
 |nil=>exact⟨_,_,rfl,aS _,λ_ _=>rfl,.inl ⟨rfl,rfl⟩⟩
 | cons o p =>
  simp only[e8,cT,d,gz,aM,jx,true_and];exact⟨_,_,rfl,by simp[-Qd,aL],λa f=>by simp only[aL];rw[dY f],.inr (.inr ⟨h.length,aS _,rfl,by simp[-Qd,aL]⟩)⟩
def xw:It:=⟨[],⟨0,0,0,0,[],.J,0,0,[],[],[],.J,aU.J _ _,by simp,aU.J _ _,by simp⟩⟩
def dH(n:Int):List D:=[.int .i64 n]
def jO:List Int→Int
 |[]=>0
 |x::r=>if x=0 then jO r else x
theorem KX(l:List Int)(d:D)(h:Z)(m:aU 1 dH l d)(x:l.length≤9223372036854775807){s:Type}(j:bT→Option s)(X:Int→Option s)
   (u:∀v r,j (.ret,.int .i64 v::r,h)=X v) (w:∀r,j (.ext 0,r,h)=X 0):∀(g c:List Int),l=c++g→∀n:Int,n=c.length→∀a b e f,
   (cH (pK (.int .i64 0) d (.int .i64 l.length)) [a,b,.int .i64 n,e,f] h).bind j=X (jO g):=by
 intro g
 induction g with
 | nil =>
  rintro c rfl n rfl a b e f;rw[iM];simp[-Qd,pK,w,jO]
 | cons i g z =>
  rintro c rfl n rfl a b e f;have y:IntKind.wrap .i64 ((c.length:Int)+1)=(c++[i]).length:=by
   rw[dF (by omega) (by simp at x;omega)];simp[-Qd]
  have p:(c.length:Int)<(c++i::g).length:=by simp;omega
  rw[iM];generalize k:c++i::g=t at *;have o:t[c.length]?=some i:=by rw[← k];exact qI _ _ _
  by_cases q:i=0
  ·subst q;have:=z (c++[0]) (by simp[-Qd,← k]) _ rfl a (.int .i64 0) (.bool true) (.bool false);simp only[← y]at this;simp[-Qd,pK,qQ m,p,o,dH,jO];exact this
  ·simp[-Qd,pK,qQ m,p,o,dH,q,u,jO]
theorem N5(l:List Int)(d:D)(h:Z)(a:aU 1 dH l d)(c:l.length≤9223372036854775807):R vP [d] h=some (.int .i64 (jO l),h):=by
 rw[H7];simp only[zP,O,mu a,bH];rw[KX l d h a c _ (λb=>some (.int .i64 b,h)) (λb e=>by simp) (λe=>by simp) l [] rfl 0 rfl]
theorem Dn(o pos:Nat)(zs:List Int)(d:D)(h:Z)(b:h[o]?=some (.row iz 2 [[d,.int .i64 pos]]))(a:jr .u8 zs d):R vN [.ptr o 0 0] h=some (.bool (decide (pos<zs.length)),h):=by
 rw[H3];simp[-Qd,zK,Z.row,b,Cc a]
def CM(h:Z)(o:Nat):Prop:=∃(b:D) (a:List Int) (c:Nat),h[o]?=some (.row iz 2 [[b,.int .i64 c]])∧jr .u8 a b∧a.length≤400∧c≤400∧∀d∈a,0≤d∧d<256
theorem CM.aX{h h':Z}{o:Nat}(b:CM h o)(c:h'[o]?=h[o]?):CM h' o:=by
 obtain⟨a,g,f,d,e⟩:=b;exact⟨a,g,f,by rw[c];exact d,e⟩
theorem CM.lt{h:Z}{o:Nat}(a:CM h o):o<h.length:=by
 obtain⟨c,f,e,b,d⟩:=a;exact(aZ.1 b).1
theorem CM.ok{h:Z}{o:Nat}(e:CM h o)(n:Nat):∀T V rows,h[o]?=some (.row T V rows)→∀row∈rows,∀d∈row,Ok n d:=by
 obtain⟨d,k,i,g,f,_⟩:=e;intro T V rows a row b j c;rw[g]at a;injection a with a;injection a with _ _ a;subst a;simp at b;subst b;simp at c;rcases c with rfl|rfl
 ·exact J0 f n
 ·exact .int _ _
theorem gR{h:Z}{o:Nat}(r:CM h o)(n:Int)(B:1≤n)(C:n≤1000000000):∃v h',R ga [.ptr o 0 0,.int .i64 n] h=some (.int .i64 v,h')∧CM h' o∧bW o h h'∧0≤v∧v<n:=by
 obtain⟨c,b,a,e,d,k,u,i⟩:=r;have s:¬n<1:=by omega
 have t:¬n=0:=by omega
 by_cases g:a<b.length
 ·have j:b[a]?=some b[a]:=cA g;have l:=i b[a] (na _);generalize b[a]=f at j l;have x:IntKind.wrap .i64 ((a:Int)+1)=(a:Int)+1:=dF (by omega) (by omega);have y:IntKind.wrap .i64 ((a:Int)+1 - 1)=(a:Int):=by rw[dF (by omega) (by omega)];omega
  have z:IntKind.wrap .i64 (a:Int)=(a:Int):=dF (by omega) (by omega);have A:IntKind.wrap .i64 f=f:=dF (by omega) (by omega);have m:o<h.length:=(aZ.1 e).1;have w:∀X,(h.set o X)[o]?=some X:=λX=>jR m
  have p:=Int.tmod_nonneg n l.1;have q:=Int.tmod_lt_of_pos f (show 0<n by omega);refine⟨f.tmod n,h.set o (.row iz 2 [[c,.int .i64 ((a+1:Nat):Int)]]),?_,⟨c,b,a+1,by simp[-Qd,m],d,k,by omega,i⟩,⟨by simp,λF E=>by rw[iD (by omega)]⟩,p,q⟩;rw[Bp];simp[-Qd,uB,Dn o a b c h e d,g,s,t,Z.row,e,OB,jl,D.fk,cG,D.one,dK,x,y,z,JZ d a f j,A,w]
 ·refine⟨0,h,?_,⟨c,b,a,e,d,k,u,i⟩,.refl _ _,by omega,by omega⟩;rw[Bp];simp[-Qd,uB,Dn o a b c h e d,g]
theorem Mj{h:Z}{o:Nat}(f:CM h o)(l:List aG)(d:D)(a:aU 1 (λs=>[.str s]) l d)(n:1≤l.length)(h2:l.length≤1000):∃s h',R fP [.ptr o 0 0,d] h=some (.str s,h')∧CM h' o∧bW o h h'∧s∈l:=by
 obtain⟨k,h',e,c,j,b,m⟩:=gR f l.length (by omega) (by omega);obtain⟨s,i,g⟩:=DC l k b m;refine⟨s,h',?_,c,j,i⟩;rw[HZ];simp[-Qd,zF,Lk a,e,KQ a,b,g]
theorem kx{h:Z}{o:Nat}(g:CM h o)(l:List aG)(m:Nat)(i:∀s∈l,s.length≤m)(e:1≤l.length)(h2:l.length≤1000){b:Type}{f:D × Z→Option b}{Q:b→Prop}
  (k:∀s h',CM h' o→bW o h h'→s∈l→s.length≤m→Wp (f (.str s,h')) Q):Wp ((R fP [.ptr o 0 0,.sl 1 true (l.map λs=>[.str s])] h).bind f) Q:=by
 obtain⟨s,h',d,c,j,a⟩:=Mj g l _ (.mk _ _ _ _) e h2;rw[d];exact k s h' c j a (i s a)
theorem nq(t:Nat){s a:aG}(c:s.length≤1000000000)(d:a.length≤1000000000){b:Type}{f:D→Option b}{Q:b→Prop}(k:∀v:aG,v.length=s.length+a.length→Wp (f (.str v)) Q):Wp ((U tab .add t (.str s) (.str a)).bind f) Q:=by
 rw[Gz _ _ _ _ (by omega)];exact k _ (by simp)
theorem Mo{h:Z}{o:Nat}(v:CM h o)(b:Int)(F:0≤b)(G:b≤20):∃s h',R sQ [.ptr o 0 0,.int .i64 b] h=some (.str s,h')∧CM h' o∧bW o h h'∧s.length≤80:=by
 suffices Wp (R sQ [.ptr o 0 0,.int .i64 b] h) (λk=>∃s,k.1 = .str s∧CM k.2 o∧bW o h k.2∧s.length≤80) by
  obtain⟨⟨C,h'⟩,p,s,rfl,u⟩:=this;exact⟨s,h',p,u⟩
 rw[H6];have r:=dF (n:=b+1) (by omega) (by omega);simp only[zN,O,bH,dV,r];obtain⟨z,p,t,i,y,A,K⟩:=gR v (b+1) (by omega) (by omega);refine Wp.step t ?_;simp only[O];refine Wp.loop (λa j e=>∃s c,j=[.str s,.int .i64 a,c]∧CM e o∧bW o h e∧a≤20∧s.length+4*a≤80) (λf=>f.1 = .ext 0∧∃s c l,f.2.1=[.str s,c,l]∧CM f.2.2 o∧bW o h f.2.2∧s.length≤80) z.toNat ⟨[],.any,by rw[Int.toNat_of_nonneg A],i,y,by omega,by simp;omega⟩ ?_ ?_
 ·rintro a j e ⟨s,c,rfl,d,g,E,q⟩;simp only[zO,bY,dI,O,eM];refine Wp.eN ?_ ?_
  ·intro m;have m:0<(a:Int):=by simpa using m
   simp only[Mb,O];refine kx d C5 4 (by decide) (by decide) (by decide) λI D i x _ H=>?_
   simp only[O];refine nq _ (by omega) (by omega) λB r=>?_
   have w:IntKind.wrap .i64 ((a:Int) - 1)=((a - 1:Nat):Int):=by
    rw[dF (by omega) (by omega)];omega
   simp only[O,fM,w];exact .some (.inl ⟨rfl,a - 1,by omega,B,_,rfl,i,g.trans x,by omega,by omega⟩)
  ·intro _;exact .some (.inr ⟨by simp,rfl,s,_,_,rfl,d,g,by omega⟩)
 ·rintro⟨C,j,e⟩ ⟨rfl,s,c,l,rfl,d,g,q⟩;simp only[eW,dE,bY,O,cS];exact .some ⟨s,rfl,d,g,q⟩
theorem Mn{h:Z}{o:Nat}(v:CM h o):∃s h',R sP [.ptr o 0 0] h=some (.str s,h')∧CM h' o∧bW o h h'∧s.length≤200:=by
 suffices Wp (R sP [.ptr o 0 0] h) (λg=>∃s,g.1 = .str s∧CM g.2 o∧bW o h g.2∧s.length≤200) by
  obtain⟨⟨B,h'⟩,m,s,rfl,u⟩:=this;exact⟨s,h',m,u⟩
 rw[H4];simp only[zL,O,bH,LJ,LL,LN,LP,LR,LU,LW,LY,L0,L2,L4,L6,L8,Ma];obtain⟨y,m,l,e,a,z,A⟩:=gR v 8 (by omega) (by omega);refine Wp.step l ?_;clear l;simp only[fY,O];have f:∀(s:aG) (c:Z),CM c o→bW o h c→s.length≤200→Wp (some ((.str s:D),c)) (λg=>∃s,g.1 = .str s∧CM g.2 o∧bW o h g.2∧s.length≤200):=λs c n p q =>.some ⟨s,rfl,n,p,q⟩
 refine Wp.eN (λ_=>?_) (λ_=>?_)
 ·repeat first
    | (refine kx (by assumption) _ 8 (by decide) (by decide) (by decide) λj c e b _ i=>?_
       replace a:=a.trans b;clear b
       try simp only[O])
    | (refine nq _ (by first|omega|(simp[-Qd];omega)|simp[-Qd]) (by first|omega|(simp[-Qd];omega)|simp[-Qd]) λk d=>?_
       try simp only[eF,e8]at d
       try simp only[O])
  try simp only[cS]
  exact f _ _ (by assumption) a (by omega)
 refine Wp.eN (λ_=>?_) (λ_=>?_)
 ·repeat first
    | (refine kx (by assumption) _ 8 (by decide) (by decide) (by decide) λj c e b _ i=>?_
       replace a:=a.trans b;clear b
       try simp only[O])
    | (refine nq _ (by first|omega|(simp[-Qd];omega)|simp[-Qd]) (by first|omega|(simp[-Qd];omega)|simp[-Qd]) λk d=>?_
       try simp only[eF,e8]at d
       try simp only[O])
  try simp only[cS]
  exact f _ _ (by assumption) a (by omega)
 refine Wp.eN (λ_=>?_) (λ_=>?_)
 ·repeat first
    | (refine kx (by assumption) _ 8 (by decide) (by decide) (by decide) λj c e b _ i=>?_
       replace a:=a.trans b;clear b
       try simp only[O])
    | (refine nq _ (by first|omega|(simp[-Qd];omega)|simp[-Qd]) (by first|omega|(simp[-Qd];omega)|simp[-Qd]) λk d=>?_
       try simp only[eF,e8]at d
       try simp only[O])
  try simp only[cS]
  exact f _ _ (by assumption) a (by omega)
 refine Wp.eN (λ_=>?_) (λ_=>?_)
 ·repeat first
    | (refine kx (by assumption) _ 8 (by decide) (by decide) (by decide) λj c e b _ i=>?_
       replace a:=a.trans b;clear b
       try simp only[O])
    | (refine nq _ (by first|omega|(simp[-Qd];omega)|simp[-Qd]) (by first|omega|(simp[-Qd];omega)|simp[-Qd]) λk d=>?_
       try simp only[eF,e8]at d
       try simp only[O])
  try simp only[cS]
  exact f _ _ (by assumption) a (by omega)
 refine Wp.eN (λ_=>?_) (λ_=>?_)
 ·repeat first
    | (refine kx (by assumption) _ 8 (by decide) (by decide) (by decide) λj c e b _ i=>?_
       replace a:=a.trans b;clear b
       try simp only[O])
    | (refine nq _ (by first|omega|(simp[-Qd];omega)|simp[-Qd]) (by first|omega|(simp[-Qd];omega)|simp[-Qd]) λk d=>?_
       try simp only[eF,e8]at d
       try simp only[O])
  try simp only[cS]
  exact f _ _ (by assumption) a (by omega)
 refine Wp.eN (λ_=>?_) (λ_=>?_)
 ·repeat first
    | (refine kx (by assumption) _ 8 (by decide) (by decide) (by decide) λj c e b _ i=>?_
       replace a:=a.trans b;clear b
       try simp only[O])
    | (refine nq _ (by first|omega|(simp[-Qd];omega)|simp[-Qd]) (by first|omega|(simp[-Qd];omega)|simp[-Qd]) λk d=>?_
       try simp only[eF,e8]at d
       try simp only[O])
  try simp only[cS]
  exact f _ _ (by assumption) a (by omega)
 obtain⟨s,c,t,r,w,x⟩:=Mo e 6 (by omega) (by omega);simp only[t,O,cS];exact f _ _ r (a.trans w) (by omega)
structure Sm (h0:Z) (o:Nat) (g:Z):Prop where
 lt:o<h0.length
 cd:CM g o
 gr:lq h0.length o h0 g
theorem Sm.refl{h:Z}{o:Nat}(a:CM h o):Sm h o h:=⟨a.lt,a,.refl _ _ _⟩
theorem Sm.next{a g g':Z}{o:Nat}(s:Sm a o g)(b:CM g' o)(c:bW o g g'):Sm a o g':=⟨s.lt,b,s.gr.trans c.grow⟩
theorem Sm.app{b g g':Z}{o:Nat}(s:Sm b o g)(d:g.length≤g'.length)(c:∀a,a<b.length→g'[a]?=g[a]?):Sm b o g':=⟨s.lt,s.cd.aX (c o s.lt),s.gr.trans ⟨d,λa e _=>c a e⟩⟩
theorem Sm.le{a g:Z}{o:Nat}(s:Sm a o g):a.length≤g.length:=s.gr.1
theorem Sm.scope{a g:Z}{o:Nat}(s:Sm a o g){d d':D}(f:bP a.length g 4 d=d')(h:Ok a.length d'):∃h',scope a g d=some (d',h')∧CM h' o∧bW o a h':=by
 obtain⟨b,c,e⟩:=Oe f h s.gr (s.cd.ok a.length);exact⟨_,b,s.cd.aX (e o s.lt),c⟩
def fj:Int→List cL→Int→Prop
 |a,[],b=>a=b
 |a,l::r,b=>l.off=a∧1≤l.len∧l.len≤20∧l.fT.length≤200∧fj (a+l.len) r b
theorem Db:∀(f:List cL) (a b:Int) (l:cL),fj a f b→l.off=b→1≤l.len→l.len≤20→l.fT.length≤200→fj a (f++[l]) (b+l.len)
 | [],a,b,l,h,c,h2,d,e=>by
  simp only[fj]at h;subst h;exact⟨c,h2,d,e,rfl⟩
 |x::r,a,b,l,h,c,h2,d,e=>⟨h.1,h.2.1,h.2.2.1,h.2.2.2.1,Db r _ b l h.2.2.2.2 c h2 d e⟩
theorem k6:∀(c:List cL) (a b:Int),fj a c b→a+c.length≤b∧b≤a+20*c.length
 |[],a,b,h=>by simp[-Qd,fj]at h;simp[-Qd];omega
 | x::r,a,b,h=>by
  have:=k6 r _ b h.2.2.2.2;have:=h.2.1;have:=h.2.2.1;simp only[eF];omega
theorem K9{h:Z}{a T z:Nat}{cs:List D}(c:h[a]?=some (.row T z [cs]))(b:cs.length=3):aA tab h bF (.ptr a 0 0)=some (.agg cs):=by
 rw[CO,dW c];simp[-Qd,mI,b];exact gW (by omega)
theorem k8(g:Z)(T z:Nat)(rows:List (List D)):(aL g T z rows)[g.length]?=some (.row T z rows):=by simp[-Qd,aL]
theorem k9(g:Z)(T z:Nat)(rows:List (List D)){a:Nat}(b:a<g.length):(aL g T z rows)[a]?=g[a]?:=by
 simp only[aL];rw[dY b]
theorem iN(g:Z)(T z:Nat)(rows:List (List D)):(aL g T z rows).length=g.length+1:=by simp[-Qd,aL]
theorem Mm{h:Z}{o:Nat}(ac:CM h o)(fr:Int)(ba:0≤fr)(bb:fr≤1000000)(p:Int)(bg:1≤p)(bh:p≤10):∃x h',R sO [.ptr o 0 0,.int .i64 fr,.int .i64 p,.bool true] h=some (x,h')∧CM h' o∧bW o h h'∧∃b e,aU 3 aY b x∧fj fr b e∧1≤b.length∧b.length≤p.toNat:=by
 suffices Wp (R sO [.ptr o 0 0,.int .i64 fr,.int .i64 p,.bool true] h) (λP=>CM P.2 o∧bW o h P.2∧∃b e,aU 3 aY b P.1∧fj fr b e∧1≤b.length∧b.length≤p.toNat) by
  obtain⟨⟨x,h'⟩,X,ao⟩:=this;exact⟨x,h',X,ao⟩
 rw[H2];simp only[zI,O,bH];obtain⟨H,X,u,I,F,bk,bl⟩:=gR ac p (by omega) (by omega);have r:=(Sm.refl ac).next I F;refine Wp.step u ?_;clear u;have az:=dF (n:=1+H) (by omega) (by omega);simp only[dV,az,O];refine Wp.loop (λk K v=>∃(d:Int) (x i s t:D) (b:List cL),K=[.int .i64 d,x,.int .i64 k,i,s,t]∧Sm h o v∧Own v h.length bF 3 (b.map aY) x∧fj fr b d∧b.length+k=(1+H).toNat)
  (λE=>E.1 = .ext 0∧∃(i x s t S e:D) (d:Int) (b:List cL),E.2.1=[i,x,s,t,S,e]∧Sm h o E.2.2∧Own E.2.2 h.length bF 3 (b.map aY) x∧fj fr b d∧b.length=(1+H).toNat)
  (1+H).toNat ⟨fr,.J,.any,.any,.any,[],by rw[Int.toNat_of_nonneg (by omega)],r,Own.J _ _ _ _,rfl,by simp⟩ ?_ ?_
 ·rintro k K v ⟨d,x,i,s,t,b,rfl,m,f,y,bc⟩;simp only[zJ,bY,dI,O,eM];refine Wp.eN ?_ ?_
  ·intro w;have w:0<(k:Int):=by simpa using w
   have a9:=k6 _ _ _ y;obtain⟨j,c,u,I,F,bi,bj⟩:=gR m.cd 20 (by omega) (by omega);have r:=m.next I F;replace f:=f.same F m.lt;refine Wp.step u ?_;clear u;have a0:=dF (n:=1+j) (by omega) (by omega);have N:∀a,x.eH a→a<c.length:=λa g=>(f.lt g).2
   simp only[dV,a0,O,bH,AG,AK];generalize B:aL c bF 3 [[.int .i64 0,.int .i64 0,.str []]]=L;have ag:L[c.length]?=some (.row bF 3 [[.int .i64 0,.int .i64 0,.str []]]):=by rw[← B];exact k8 _ _ _ _
   have aa:∀a,a<c.length→L[a]?=c[a]?:=λa g=>by rw[← B];exact k9 _ _ _ _ g
   have ae:L.length=c.length+1:=by rw[← B];exact iN _ _ _ _
   clear B;have bf:=r.le;refine yA ag (by rfl) (by rfl) (by simp) (by rfl) λA q l=>?_
   replace q:A[c.length]?=some (.row bF 3 [[.int .i64 d,.int .i64 (1+j),.str []]]):=q;have ab:∀a,a<c.length→A[a]?=c[a]?:=λa g=>(l.2 a (by omega)).trans (aa a g)
   have ar:A.length=c.length+1:=l.1.trans ae;have Q:=r.app (by omega) λa g=>ab a (by omega)
   replace f:Own A h.length bF 3 (b.map aY) x:=f.aX λa _ g=>ab a (N a g)
   clear ag aa ae l;simp only[aQ,aM,bH,O];obtain⟨z,am,T,al,G,ay⟩:=Mn Q.cd;have ah:=Q.next al G;replace f:=f.same G m.lt;have av:o≠c.length:=λad=>by have:=r.lt;omega
   replace q:=(G.2 c.length (Ne.symm av)).trans q;have au:am.length=c.length+1:=G.1.trans ar;refine Wp.step T ?_;clear T;simp only[O,kV,cT];refine Pl q (by rfl) (by rfl) (by simp) (by rfl) λM C l=>?_
   replace C:M[c.length]?=some (.row bF 3 [aY ⟨d,1+j,z⟩]):=C;have be:M.length=c.length+1:=l.1.trans au;have ai:=ah.app (by omega) λa g=>l.2 a (by omega)
   replace f:Own M h.length bF 3 (b.map aY) x:=f.aX λa _ g=>l.2 a (by have:=N a g;omega)
   clear q l;simp only[O,dE,K9 C rfl];rw[show bI tab bB 1 [0] [.agg (aY ⟨d,1+j,z⟩)]=some (.sl 3 true [aY ⟨d,1+j,z⟩])from id rfl];simp only[O];refine yy (by omega) f (lf _ _ _ _) (by simp;omega) λa7 an a4 a3 ak a2 _=>?_
   have aj:=ai.app a3 ak;have a5:=(a2 c.length (by omega) (λad=>by have:=N _ ad;omega)).trans C;have a6:an.row c.length 0=some (aY ⟨d,1+j,z⟩):=dW a5;have a1:=dF (n:=d+(1+j)) (by omega) (by omega);have aq:IntKind.wrap .i64 ((k:Int) - 1)=((k - 1:Nat):Int):=by
    rw[dF (by omega) (by omega)];omega
   simp only[O,kU,cT,fh,a6,aY,hV,gN,iE,dV,a1,fM,aq];exact .some (.inl ⟨rfl,k - 1,by omega,d+(1+j),a7,_,_,_,b++[⟨d,1+j,z⟩],rfl,aj,by rw[iF];exact a4,Db _ _ _ _ y rfl (by simp;omega) (by simp;omega) (by simpa using ay),by simp;omega⟩)
  ·intro w;have w:¬0<(k:Int):=by simpa using w
   exact .some (.inr ⟨by simp,rfl,_,x,_,_,_,_,d,b,rfl,m,f,y,by omega⟩)
 ·rintro⟨a8,K,v⟩ ⟨rfl,i,x,s,t,S,e,d,b,rfl,m,f,y,bd⟩;simp only[eW,dE,bY,dI,O,cS];have af:=nL (n:=3) f (aS _) (λi _=>qU _ v _ i);obtain⟨h',aw,ap,ax⟩:=m.scope rfl (lh af λi _=>xD _ i);rw[aw];exact .some ⟨ap,ax,b,d,af,y,by omega,by omega⟩
def MF(l:List (aG × aG)):Prop:=(l.map (·.1)).Sublist jY∧∀a∈l,a.2∈pe
theorem Mk{h:Z}{o:Nat}(t:CM h o):∃x h',R sN [.ptr o 0 0] h=some (x,h')∧CM h' o∧bW o h h'∧∃l,aU 2 bC l x∧MF l:=by
 suffices Wp (R sN [.ptr o 0 0] h) (λe=>CM e.2 o∧bW o h e.2∧∃l,aU 2 bC l e.1∧MF l) by
  obtain⟨⟨x,h'⟩,y,I⟩:=this;exact⟨x,h',y,I⟩
 rw[H0];simp only[zG,O,bH,LG,Lf,gi,LF];refine Wp.loop (λu s c=>∃x d m p,∃(a:Nat) (l:List (aG × aG)),s=[x,d,.int .i64 a,m,p]∧Sm h o c∧u+a=4∧Own c h.length bO 2 (l.map bC) x∧(l.map (·.1)).Sublist (jY.take a)∧∀e∈l,e.2∈pe)
  (λk=>k.1 = .ext 0∧∃x d m p w l,k.2.1=[x,d,m,p,w]∧Sm h o k.2.2∧Own k.2.2 h.length bO 2 (l.map bC) x∧MF l) 4 ⟨.J,.any,.any,.any,0,[],rfl,.refl t,rfl,Own.J _ _ _ _,by simp,by simp⟩ ?_ ?_
 ·rintro u s c ⟨x,d,m,p,a,l,rfl,f,ac,b,j,q⟩;have S:IntKind.wrap .i64 ((a:Int)+1)=(a+1:Nat):=by
   rw[dF (by omega) (by omega)];omega
  simp only[zH,bY,dI,O,bH,dN];refine Wp.eN ?_ ?_
  ·intro g;have g:a<4:=ji g;have z:jY[a]?=some jY[a]:=cA g;simp only[Cp,pP,aM,eS,dB,z,gH,O,kp];obtain⟨ae,y,G,E,B,af,ag⟩:=gR f.cd 3 (by omega) (by omega);have r:=f.next E B;replace b:=b.same B t.lt;refine Wp.step G ?_;simp only[eM,O];refine Wp.join (P:=λk=>∃x c,∃l:List (aG × aG),k=(.aO,[x],c)∧Sm h o c∧Own c h.length bO 2 (l.map bC) x∧(l.map (·.1)).Sublist (jY.take (a+1))∧∀e∈l,e.2∈pe) ?_ ?_ ?_
   ·intro _;simp only[LH,O];refine kx r.cd pe 8 (by decide) (by decide) (by decide) λX ab F C Q _=>?_
    have v:=r.next F C;replace b:=b.same C t.lt;simp only[O,FO,F1];have ad:l.length≤4:=by
     have:=j.length_le;simp at this;omega
    refine Pd v.le b (lf _ _ _ _) (by simp;omega) λaa H b T D _ _=>?_
    simp only[O];refine .some ⟨aa,H,l++[(jY[a],X)],rfl,v.app T D,by rw[iF];exact b,?_,?_⟩
    ·rw[jz,z,iF];exact j.append (List.Sublist.refl _)
    ·intro e i;rcases eA.1 i with i|i
     ·exact q e i
     ·simp at i;subst i;exact Q
   ·intro _;refine .some ⟨_,_,l,rfl,r,b,j.trans ?_,q⟩;rw[jz];exact List.sublist_append_left _ _
   ·rintro _ ⟨x,c,l,rfl,f,b,j,q⟩;simp only[lj,dE,bY,dV,O,S];exact .some (.inl ⟨rfl,u - 1,by omega,x,_,_,_,a+1,l,rfl,f,by omega,b,j,q⟩)
  ·intro g;have g:¬a<4:=by
    have:¬(a:Int)<4:=by simpa using g
    omega
   refine .some (.inr ⟨by simp,rfl,x,_,_,_,_,l,rfl,f,b,j.trans (List.take_sublist _ _),q⟩)
 ·rintro⟨x,s,c⟩ ⟨rfl,x,d,m,p,w,l,rfl,f,b,L⟩;simp only[eW,dE,bY,O,cS];have A:=nL (n:=3) b (aS _) (λd _=>vu _ c _ d);obtain⟨h',M,K,N⟩:=f.scope rfl (lh A λd _=>vx _ d);exact⟨_,M,K,N,l,A,L⟩
structure pH (e:Ev):Prop where
 h0:0≤e.a0
 h2:e.a0≤2
 f0:0≤e.a1
 f2:e.a1≤2
 a0:0≤e.a2
 a9:e.a2≤100
 ch:fj e.a2 e.ls e.a3
 l1:1≤e.ls.length
 l3:e.ls.length≤3
 t0:0≤e.a5
 t9:e.a5≤255000
 wt:e.a6∈pa
 tr:e.s7∈pc
 st:e.s8∈pd
 fs:MF e.fs
theorem Mg{h:Z}{o:Nat}(a4:CM h o):∃e h',R sG [.ptr o 0 0] h=some (.agg (cD e),h')∧CM h' o∧bW o h h'∧pH e:=by
 suffices Wp (R sG [.ptr o 0 0] h) (λaa=>∃e,aa.1 = .agg (cD e)∧CM aa.2 o∧bW o h aa.2∧pH e) by
  obtain⟨⟨ad,h'⟩,y,e,rfl,z⟩:=this;exact⟨e,h',y,z⟩
 have c3:=a4.lt;rw[HE];simp only[ze,O,bH,LB,LC,LD];generalize A:aL h aF 10 [[.int .i64 0,.int .i64 0,.int .i64 0,.int .i64 0,.J,.int .i64 0,.int .i64 0,.str [],.str [],.J]]=K;have j:K[h.length]?=some (.row aF 10 [[.int .i64 0,.int .i64 0,.int .i64 0,.int .i64 0,.J,.int .i64 0,.int .i64 0,.str [],.str [],.J]]):=by rw[← A];exact k8 _ _ _ _
 have H:Sm h o K:=(Sm.refl a4).app (by rw[← A,iN];omega) λa m=>by rw[← A];exact k9 _ _ _ _ m
 have b4:K.length=h.length+1:=by rw[← A];exact iN _ _ _ _
 clear A;obtain⟨p,ct,ar,ai,be,bo,cp⟩:=gR H.cd 3 (by omega) (by omega);refine Wp.step ar ?_;clear ar;simp only[O];obtain⟨q,cu,av,ak,bf,bp,cq⟩:=gR ai 3 (by omega) (by omega);refine Wp.step av ?_;clear av;simp only[O];obtain⟨i,cw,aw,al,bg,cn,cr⟩:=gR ak 6 (by omega) (by omega);refine Wp.step aw ?_;clear aw;simp only[O,nv,dF (n:=10*i) (by omega) (by omega)];obtain⟨k,cx,ax,am,bh,co,cs⟩:=gR al 256 (by omega) (by omega);refine Wp.step ax ?_;clear ax;simp only[O,nv,dF (n:=1000*k) (by omega) (by omega)];obtain⟨cm,cy,ay,an,bi,ah,bq⟩:=gR am 4 (by omega) (by omega);obtain⟨u,ch,b1⟩:=DC pa cm ah bq;refine Wp.step ay ?_;clear ay;simp only[O,Co,ah,aM,dB,b1,gH,fD];refine kx an pc 8 (by decide) (by decide) (by decide) λt cz ao bj ce _=>?_
 simp only[O];refine kx ao pd 8 (by decide) (by decide) (by decide) λsm c0 ap bk cb _=>?_
 simp only[O];obtain⟨r,l,az,aq,bl,a0,ba,a5⟩:=Mk ap;refine Wp.step az ?_;clear az;have ci:=tJ ba;simp only[O,FQ _ _ _ _ _ _ _ r ci,nu];have G:=((((((be.trans bf).trans bg).trans bh).trans bi).trans bj).trans bk).trans bl;have ag:=H.next aq G;replace j:=(G.2 h.length (by omega)).trans j;have a9:l.length=h.length+1:=G.1.trans b4;clear H ai ak al am an ao ap be bf bg bh bi bj bk bl G;generalize F:aL l aF 10 [[.int .i64 0,.int .i64 0,.int .i64 0,.int .i64 0,.J,.int .i64 0,.int .i64 0,.str [],.str [],.J]]=M;have bb:M[l.length]?=some (.row aF 10 [[.int .i64 0,.int .i64 0,.int .i64 0,.int .i64 0,.J,.int .i64 0,.int .i64 0,.str [],.str [],.J]]):=by rw[← F];exact k8 _ _ _ _
 have a3:∀a,a<l.length→M[a]?=l[a]?:=λa m=>by rw[← F];exact k9 _ _ _ _ m
 have b6:M.length=l.length+1:=by rw[← F];exact iN _ _ _ _
 clear F;refine rD bb (by rfl) (by rfl) (by simp) (by rfl) λE s b=>?_
 replace s:E[l.length]?=some (.row aF 10 [[.int .i64 p,.int .i64 q,.int .i64 (10*i),.int .i64 0,.J,.int .i64 (1000*k),.int .i64 u,.str t,.str sm,r]]):=s;have N:∀a,a<l.length→E[a]?=l[a]?:=λa m=>(b.2 a (by omega)).trans (a3 a m)
 have a7:E.length=h.length+2:=by have:=b.1;omega
 have I:=ag.app (by omega) λa m=>N a (by omega)
 replace j:=(N h.length (by omega)).trans j;rw[a9]at s ⊢;clear bb a3 b6 b N ag aq a9;have bd:E.row (h.length+1) 0=some [.int .i64 p,.int .i64 q,.int .i64 (10*i),.int .i64 0,.J,.int .i64 (1000*k),.int .i64 u,.str t,.str sm,r]:=dW s;simp only[O,me,cT,fh,bd,hV,gN,iE];obtain⟨x,br,au,aj,C,c,f,B,P,a6,b5⟩:=Mm I.cd (10*i) (by omega) (by omega) 3 (by omega) (by omega);refine Wp.step au ?_;clear au bd;have ae:=I.next aj C;replace s:=(C.2 (h.length+1) (by omega)).trans s;replace j:=(C.2 h.length (by omega)).trans j;have a8:br.length=h.length+2:=C.1.trans a7;have X:=po (tJ B);simp only[O,qp,cT];refine tY s (by rfl) (by rw[X.1];rfl) (by simp) X.2 λL w b=>?_
 rw[X.1]at w;replace w:L[h.length+1]?=some (.row aF 10 [[.int .i64 p,.int .i64 q,.int .i64 (10*i),.int .i64 0,x,.int .i64 (1000*k),.int .i64 u,.str t,.str sm,r]]):=w;have af:=ae.app (kK b.1.symm) λa m=>b.2 a (by omega)
 replace j:=(b.2 h.length (by omega)).trans j;have c2:L.length=h.length+2:=b.1.trans a8;clear I ae s b C aj a8 a7;have cl:L.row (h.length+1) 0=some [.int .i64 p,.int .i64 q,.int .i64 (10*i),.int .i64 0,x,.int .i64 (1000*k),.int .i64 u,.str t,.str sm,r]:=dW w;have b0:=k6 _ _ _ P;have b8:∃g,c[((c.length:Int) - 1).toNat]?=some g∧g.off+g.len=f:=by
  clear b0 B;have ck:∀(c:List cL) (D f:Int),fj D c f→1≤c.length→∃g,c[c.length - 1]?=some g∧g.off+g.len=f:=by
   intro c
   induction c with
   |nil=>intro D f _ b3;simp at b3
   | cons ad bc cj =>
    intro D f T _;cases bc with
    | nil =>
     have bu:D+ad.len=f:=T.2.2.2.2;exact⟨ad,rfl,by rw[T.1];exact bu⟩
    | cons c4 bc =>
     obtain⟨g,y,z⟩:=cj _ f T.2.2.2.2 (by simp);exact⟨g,by simpa using y,z⟩
  obtain⟨g,y,z⟩:=ck c _ f P a6;exact⟨g,by rw[show((c.length:Int) - 1).toNat=c.length - 1 by omega];exact y,z⟩
 obtain⟨g,b2,b7⟩:=b8;have cf:=dF (n:=(c.length:Int) - 1) (by omega) (by omega);have cg:=dF (n:=f) (by omega) (by omega);have b9:(0:Int)≤(c.length:Int) - 1:=by omega
 have bx:im 3 (.agg (aY g))=some (.aD (aY g)):=qd 3 _ rfl;simp only[O,oZ,cl,hV,gN,iE,lK B,fM,cf,mm B,b9,aM,b2,gH,nH,bx];simp only[aY,BK,BL,fD,O,dV,b7,cg,oL,cT];refine kB w (by rfl) (by rfl) (by simp) (by rfl) λbt ab b=>?_
 replace ab:bt[h.length+1]?=some (.row aF 10 [[.int .i64 p,.int .i64 q,.int .i64 (10*i),.int .i64 f,x,.int .i64 (1000*k),.int .i64 u,.str t,.str sm,r]]):=ab;have bm:=af.app (kK b.1.symm) λa m=>b.2 a (by omega)
 replace j:=(b.2 h.length (by omega)).trans j;clear w b af;simp only[O,s9 ab rfl];refine rD j (by rfl) (by rfl) (by simp) (by rfl) λa1 ac b=>?_
 replace ac:a1[h.length]?=some (.row aF 10 [[.int .i64 p,.int .i64 q,.int .i64 (10*i),.int .i64 f,x,.int .i64 (1000*k),.int .i64 u,.str t,.str sm,r]]):=ac;have bn:=bm.app (kK b.1.symm) λa m=>b.2 a (by omega)
 simp only[O,s9 ac rfl,cS];have c1:a0.length≤4:=by
  have:=a5.1.length_le;simpa using this
 generalize a2:(⟨p,q,10*i,f,c,x,1000*k,u,t,sm,a0,r,ba,by omega,B,by omega⟩:Ev)=v;have bw:cD v=[.int .i64 p,.int .i64 q,.int .i64 (10*i),.int .i64 f,x,.int .i64 (1000*k),.int .i64 u,.str t,.str sm,r]:=by rw[← a2];rfl
 have bv:pH v:=by rw[← a2];exact⟨bo,by show p≤2;omega,bp,by show q≤2;omega,by show 0≤10*i;omega,by show 10*i≤100;omega,P,a6,b5,by show 0≤1000*k;omega,by show 1000*k≤255000;omega,ch,ce,cb,a5⟩
 rw[← bw];obtain⟨h',ca,bz,cc⟩:=bn.scope (d :=.agg (cD v)) (d' :=.agg (cD v)) (by
  rw[vV,k5 λd Q=>BB h.length a1 2 v d Q]) (.agg _ λd Q=>BC _ v d Q)
 rw[ca];exact .some ⟨v,rfl,bz,cc,bv⟩
theorem x9(n lo hi:Int)(h:Z):R oO [.int .i64 n,.int .i64 lo,.int .i64 hi] h=some (.bool (decide (lo≤n)&&decide (n≤hi)),h):=by
 rw[Hs];by_cases a:lo≤n<;>simp[-Qd,yZ,a]
def la(e:Ev):Bool:=(decide (0≤e.a0)&&decide (e.a0≤999))&&((decide (0≤e.a1)&&decide (e.a1≤2147483646))&&(decide (0≤e.a2)&&(decide (e.a2<e.a3)&&decide (e.a3≤60000))))
theorem D5(e:Ev)(h:Z):R sC [.agg (cD e)] h=some (.bool (la e),h):=by
 rw[Hn];have a:=x9 e.a1 0 2147483646 h;simp only[yU,O,nM,cD,Io,Ip,BI,kT,fD,x9 e.a0,lA,eM,qg,la];generalize (decide (0≤e.a0)&&decide (e.a0≤999))=b;generalize (decide (0≤e.a1)&&decide (e.a1≤2147483646))=c at a ⊢;generalize i:decide (0≤e.a2)=d;generalize j:decide (e.a2<e.a3)=f;generalize k:decide (e.a3≤60000)=g;cases b<;>cases c<;>cases d<;>cases f<;>cases g<;>simp[-Qd,a,i,j,k]
def mw(a b:Int):Int→List cL→Int
 |_,[]=>0
 |at_,l::r=>if l.off=at_∧¬l.len<1∧¬IntKind.wrap .i64 (a - at_)<l.len∧¬(r=[]∧l.len<IntKind.wrap .i64 (a - at_))then(if b<l.fT.length then 3 else mw a b (IntKind.wrap .i64 (at_+l.len)) r)else 19
def iL(e:Ev)(a:Int):Int:=if e.ls.length=0 then 9 else if 40<e.ls.length then 4 else mw e.a3 a e.a2 e.ls
theorem D6 (e:Ev) (m:Int) (h:Z):R sD [.agg (cD e),.int .i64 m] h=some (.int .i64 (iL e m),h):=by
 apply Wp.val;have E:∀(c:Z) (u:Int),h.length≤c.length→(∀b,b<h.length→c[b]?=h[b]?)→scope h c (.int .i64 u)=some (.int .i64 u,h):=λc u w x=>jZ (by simp) (.int _ _) w x
 rw[Ho];simp only[yV,nM,O,bH,cD,BJ,BI,ko,fD,lK e.iK,fY,eM,cS];by_cases G:e.ls.length=0
 ·have v:(e.ls.length:Int)=0:=by omega
  simp only[v,dJ,aQ,aM,E h _ (aS _) (λ_ _=>rfl)];exact .some (by simp[-Qd,iL,G])
 by_cases ac:40<e.ls.length
 ·have v:¬(e.ls.length:Int)=0:=by omega
  have I:(40:Int)<(e.ls.length:Int):=by omega
  simp only[v,I,dJ,cV,bA,aR,aQ,aM,E h _ (aS _) (λ_ _=>rfl)];exact .some (by simp[-Qd,iL,G,ac])
 have v:¬(e.ls.length:Int)=0:=by omega
 have I:¬(40:Int)<(e.ls.length:Int):=by omega
 have aj:iL e m=mw e.a3 m e.a2 e.ls:=by simp[-Qd,iL,G,ac]
 rw[aj];generalize ak:mw e.a3 m e.a2 e.ls=z;simp only[v,I,dJ,cV,bA,aR,aQ,aM];refine Wp.loop (λD F c=>h.length≤c.length∧(∀b,b<h.length→c[b]?=h[b]?)∧∃T V X aa ab ai u,∃t:Int,∃d:Nat,F=[T,.int .i64 t,V,X,aa,.int .i64 d,ab,ai,u]∧D+d=e.ls.length∧mw e.a3 m t (e.ls.drop d)=z)
   (λf=>h.length≤f.2.2.length∧(∀b,b<h.length→f.2.2[b]?=h[b]?)∧((f.1 = .ext 1∧z=0)∨(f.1 = .ret∧Y 0 f.2.1 = .int .i64 z))) e.ls.length ⟨aS _,λ_ _=>rfl,_,_,_,_,_,_,_,_,0,rfl,rfl,ak⟩ ?_ ?_
 ·rintro D F c ⟨al,K,T,V,X,aa,ab,ai,u,t,d,rfl,ao,a⟩;simp only[yW,bY,dI,O,bH,BJ,kT,ko,fD,lK e.iK,dN];refine Wp.eN ?_ ?_
  ·intro s;have s:d<e.ls.length:=ji s;have ae:e.ls[d]?=some e.ls[d]:=cA s;have ag:=ig d (by omega);have k:IntKind.wrap .i64 ((e.ls.length:Int) - 1)=(e.ls.length:Int) - 1:=dF (by omega) (by omega);have M:(e.ls.drop (d+1)=[])↔(d:Int)=(e.ls.length:Int) - 1:=by
    rw[List.drop_eq_nil_iff];omega
   rw[j5 s]at a;generalize e.ls[d]=f at ae a;generalize af:e.ls.drop (d+1)=ap at a M;simp only[mm e.iK,pP,aM,eS,ae,gH,O,nH];generalize C:aL c bF 3 [[.int .i64 0,.int .i64 0,.str []]]=H;have ah:H[c.length]?=some (.row bF 3 [[.int .i64 0,.int .i64 0,.str []]]):=by rw[← C];exact k8 _ _ _ _
   have ad:∀b,b<c.length→H[b]?=c[b]?:=λb N=>by rw[← C];exact k9 _ _ _ _ N
   have am:H.length=c.length+1:=by rw[← C];exact iN _ _ _ _
   clear C;refine yA ah (by rfl) (by rfl) (by simp) (by rfl) λA P Q=>?_
   replace P:A[c.length]?=some (.row bF 3 [aY f]):=P;have q:h.length≤A.length:=by have:=Q.1;omega
   have p:∀b,b<h.length→A[b]?=h[b]?:=λb N=>((Q.2 b (by omega)).trans (ad b (by omega))).trans (K b N)
   clear ah ad am Q K;have o:A.row c.length 0=some [.int .i64 f.off,.int .i64 f.len,.str f.fT]:=dW P;simp only[O,kj,kU,kV,cT,fh,k0,o,hV,gN,iE,fM,k,fY,eC,iv,eM,dN];unfold mw at a;by_cases i:f.off=t
   ·by_cases j:f.len<1
    ·rw[bV (λg=>g.2.1 j)]at a;simp only[i,j,fw,gq,cV,dJ,dC,aM,aR,bA,reduceCtorEq,O,cX,aQ,kT,fD,kj,kU,kV,cT,fh,k0,o,hV,gN,iE,fM,k,fY,eC,iv,eM,dN];exact .some (.inr ⟨by simp,q,p,.inr ⟨rfl,by simp[-Qd,a]⟩⟩)
    ·by_cases l:IntKind.wrap .i64 (e.a3 - t)<f.len
     ·rw[bV (λg=>g.2.2.1 l)]at a;simp only[i,j,l,fw,gq,cV,dJ,dC,aM,aR,bA,reduceCtorEq,O,cX,aQ,kT,fD,kj,kU,kV,cT,fh,k0,o,hV,gN,iE,fM,k,fY,eC,iv,eM,dN];exact .some (.inr ⟨by simp,q,p,.inr ⟨rfl,by simp[-Qd,a]⟩⟩)
     ·by_cases y:(d:Int)=(e.ls.length:Int) - 1
      ·have L:decide ((d:Int)=(e.ls.length:Int) - 1)=true:=by simpa using y
       by_cases r:f.len<IntKind.wrap .i64 (e.a3 - t)
       ·rw[bV (λg=>g.2.2.2 ⟨M.2 y,r⟩)]at a;simp only[i,j,l,L,fw,gq,iO,cV,dJ,dC,ia,aM,aR,bA,reduceCtorEq,O,cX,aQ,kT,fD,kj,kU,kV,cT,fh,k0,o,hV,gN,iE,fM,k,fY,eC,iv,eM,dN,r];exact .some (.inr ⟨by simp,q,p,.inr ⟨rfl,by simp[-Qd,a]⟩⟩)
       ·rw[bE ⟨i,j,l,λg=>r g.2⟩]at a;by_cases n:m<(f.fT.length:Int)
        ·rw[bE n]at a;simp only[i,j,l,L,fw,gq,iO,cV,dJ,dC,ia,aM,aR,bA,reduceCtorEq,O,cX,aQ,kT,fD,kj,kU,kV,cT,fh,k0,o,hV,gN,iE,fM,k,fY,eC,iv,eM,dN,r,n];exact .some (.inr ⟨by simp,q,p,.inr ⟨rfl,by simp[-Qd,a]⟩⟩)
        ·rw[bV n]at a;simp only[i,j,l,L,fw,gq,iO,cV,dJ,dC,ia,aM,aR,bA,reduceCtorEq,O,cX,aQ,kT,fD,kj,kU,kV,cT,fh,k0,o,hV,gN,iE,fM,k,fY,eC,iv,eM,dN,r,n,dV,ag];exact .some (.inl ⟨rfl,D - 1,by omega,q,p,_,_,_,_,_,_,_,_,d+1,rfl,by omega,by rw[af];exact a⟩)
      ·rw[bE ⟨i,j,l,λg=>y (M.1 g.1)⟩]at a;have r:True:=trivial;by_cases n:m<(f.fT.length:Int)
       ·rw[bE n]at a;simp only[i,j,l,y,fw,gq,iO,cV,dJ,dC,ia,aM,aR,bA,reduceCtorEq,O,cX,aQ,kT,fD,kj,kU,kV,cT,fh,k0,o,hV,gN,iE,fM,k,fY,eC,iv,eM,dN,r,n];exact .some (.inr ⟨by simp,q,p,.inr ⟨rfl,by simp[-Qd,a]⟩⟩)
       ·rw[bV n]at a;simp only[i,j,l,y,fw,gq,iO,cV,dJ,dC,ia,aM,aR,bA,reduceCtorEq,O,cX,aQ,kT,fD,kj,kU,kV,cT,fh,k0,o,hV,gN,iE,fM,k,fY,eC,iv,eM,dN,r,n,dV,ag];exact .some (.inl ⟨rfl,D - 1,by omega,q,p,_,_,_,_,_,_,_,_,d+1,rfl,by omega,by rw[af];exact a⟩)
   ·rw[bV (λg=>i g.1)]at a;simp only[i,fw,iO,cV,dJ,dC,aM,aR,bA,reduceCtorEq,O,cX,aQ,kT,fD,kj,kU,kV,cT,fh,k0,o,hV,gN,iE,fM,k,fY,eC,iv,eM,dN];exact .some (.inr ⟨by simp,q,p,.inr ⟨rfl,by simp[-Qd,a]⟩⟩)
  ·intro s;have s:¬d<e.ls.length:=by
    have:¬(d:Int)<e.ls.length:=by simpa using s
    omega
   rw[pQ (by omega)]at a;exact .some (.inr ⟨by simp,al,K,.inl ⟨rfl,a.symm⟩⟩)
 ·rintro⟨an,F,c⟩ ⟨w,x,B⟩;simp only at w x B;rcases B with⟨rfl,rfl⟩|⟨rfl,B⟩
  ·simp only[eW,dE,O,cS,E c 0 w x];exact .some rfl
  ·simp only[pC,pB,oI,bY,O,B,cS,E c z w x];exact .some rfl
def dn{b:Type}(c:b→b→Int)(a:Nat):Nat→List b→List b
 |0,l=>l
 | j+1,l=>match l[j+1]?,l[j]? with
  |some x,some y=>if a<j+1∧c x y<0 then dn c a j ((l.set (j+1) y).set j x)else l
  |_,_=>l
theorem vk{b:Type}(c:b→b→Int)(a:Nat):∀(j:Nat) (l:List b),(dn c a j l).length=l.length
 |0,l=>rfl
 | j+1,l=>by
  unfold dn;split
  ·split
   ·rw[vk c a j];simp[-Qd]
   ·rfl
  ·rfl
def iu{b:Type}(c:b→b→Int)(a:Nat):Nat→Nat→List b→List b
 |_,0,l=>l
 |i,n+1,l=>iu c a (i+1) n (dn c a i l)
theorem xv{b:Type}(c:b→b→Int)(a:Nat):∀(n i:Nat) (l:List b),(iu c a i n l).length=l.length
 |0,i,l=>rfl
 | n+1,i,l=>by
  unfold iu;rw[xv c a n,vk]
theorem yg{a:Type}(f:a→List D)(l:List a)(i:Nat)(x:a):(l.map f).set i (f x)=(l.set i x).map f:=by rw[List.map_set]
theorem xB{h:Z}{a k T z:Nat}{rows:List (List D)}{p:aG × aG}(c:h[a]?=some (.row T z rows))(b:rows[k]?=some (bC p)):aA tab h bO (.ptr a k 0)=some (.agg (bC p)):=by
 rw[Lb,dW c,b];rfl
theorem KW (c:aG × aG→aG × aG→Int) (A:D) (L:∀x y g,fA R A [.agg (bC x),.agg (bC y)] g=some (.int .i64 (c x y),g)) (f N a:Nat) (ag:N≤1000000000) {H:Type} {z:bT→Option H} {Q:H→Prop}
  (l:List (aG × aG)) (m:l.length=N) (j:Nat) (u:j<N) (h:Z) (e:h[f]?=some (.row bO 2 (l.map bC))) (b:D)
  (k:∀x y h',h'[f]?=some (.row bO 2 ((dn c a j l).map bC))→bW f h h'→Wp (z (.ext 2,[x,y],h')) Q) :
  Wp ((cH (uu (.S 2 f 0 N) (.int .i64 a) A) [.int .i64 j,b] h).bind z) Q:=by
 generalize d:dn c a j l=p at k;refine Wp.loop (λw q g=>∃b,∃j:Nat,∃v:List (aG × aG),w=j∧q=[.int .i64 j,b]∧v.length=N∧j<N∧g[f]?=some (.row bO 2 (v.map bC))∧bW f h g∧dn c a j v=p)
  (λo=>o.1 = .ext 2∧(∃x y,o.2.1=[x,y])∧o.2.2[f]?=some (.row bO 2 (p.map bC))∧bW f h o.2.2) j ⟨b,j,l,rfl,rfl,m,u,e,.refl _ _,d⟩ ?_ ?_
 ·clear e m u d l j;rintro w q g ⟨b,j,l,rfl,rfl,m,u,e,sm,d⟩;simp only[uu,bY,dI,O,bH,eM];cases w with
  | zero =>
   have M:¬(a:Int)<((0:Nat):Int):=by omega
   have d:l=p:=d;subst d;simp only[M,cV,dC,fQ,bA,aR,reduceCtorEq,O,cX,aQ];exact .some (.inr ⟨by simp,rfl,⟨_,_,rfl⟩,e,sm⟩)
  | succ j =>
   have r:l[j+1]?=some l[j+1]:=cA (by omega);have i:l[j]?=some l[j]:=cA (by omega);unfold dn at d;rw[r,i]at d;simp only at d;generalize l[j+1]=x at r d;generalize l[j]=y at i d;by_cases B:a<j+1
   ·have s:(a:Int)<((j+1:Nat):Int):=by omega
    have P:IntKind.wrap .i64 (((j+1:Nat):Int) - 1)=(j:Int):=by
     rw[dF (by omega) (by omega)];omega
    have T:(0:Int)≤((j+1:Nat):Int)∧((j+1:Nat):Int)<(N:Int):=by omega
    have C:(0:Int)≤(j:Int)∧(j:Int)<(N:Int):=by omega
    have E:(l.map bC)[j+1]?=some (bC x):=by rw[dB,r];rfl
    have V:(l.map bC)[j]?=some (bC y):=by rw[dB,i];rfl
    simp only[s,dJ,dC,fQ,aM,Cr,T,C,gz,cT,eS,fM,P,O,xB e E,xB e V,L,dN,cX];by_cases n:c x y<0
    ·rw[bE ⟨B,n⟩]at d;simp only[n,dJ,aQ,aM];refine EE e E (by rfl) (by simp[-Qd,bC]) (by rfl) λae F aa=>?_
     rw[show dK (bC x) 0 (cG (.agg (bC y)))=bC y from id rfl,yg]at F;have X:((l.set (j+1) y).map bC)[j]?=some (bC y):=by
      rw[dB,iD (by omega),i];rfl
     try simp only[O,C,gz,aM,cT,eS]
     refine EE F X (by rfl) (by simp[-Qd,bC]) (by rfl) λaf G ab=>?_
     rw[show dK (bC y) 0 (cG (.agg (bC x)))=bC x from id rfl,yg]at G
     try simp only[O]
     exact .some (.inl ⟨rfl,j,by omega,_,j,_,rfl,rfl,by simpa using m,by omega,G,(sm.trans aa).trans ab,d⟩)
    ·rw[bV (λt=>n t.2)]at d;subst d;simp only[n,cV,aQ,bA,aR];exact .some (.inr ⟨by simp,rfl,⟨_,_,rfl⟩,e,sm⟩)
   ·rw[bV (λt=>B t.1)]at d;subst d;have s:¬(a:Int)<((j+1:Nat):Int):=by omega
    simp only[s,cV,dC,fQ,bA,aR,reduceCtorEq,O,cX,aQ];exact .some (.inr ⟨by simp,rfl,⟨_,_,rfl⟩,e,sm⟩)
 ·rintro⟨x,q,g⟩ ⟨rfl,⟨ac,ad,rfl⟩,I,K⟩;exact k ac ad g I K
theorem yb(c:aG × aG→aG × aG→Int)(m:D)(E:∀x y g,fA R m [.agg (bC x),.agg (bC y)] g=some (.int .i64 (c x y),g))(f N a b:Nat)(B:N≤1000000000)(P:a<b∨(a=b∧b≤N))(Q:b≤N)
  (l:List (aG × aG)) (F:l.length=N) (h:Z) (G:h[f]?=some (.row bO 2 (l.map bC))) :
  ∃d h',R mg [.S 2 f 0 N,.int .i64 a,.int .i64 b,m] h=some (d,h')∧h'[f]?=some (.row bO 2 ((iu c a (a+1) (b - (a+1)) l).map bC))∧bW f h h':=by
 suffices Wp (R mg [.S 2 f 0 N,.int .i64 a,.int .i64 b,m] h) (λv=>v.2[f]?=some (.row bO 2 ((iu c a (a+1) (b - (a+1)) l).map bC))∧bW f h v.2) by
  obtain⟨⟨x,h'⟩,p,q⟩:=this;exact⟨x,h',p,q⟩
 rw[Bn];have H:=ig a (by omega);simp only[uq,O,bH,dV,H];generalize i:iu c a (a+1) (b - (a+1)) l=n;refine Wp.loop (λu o g=>∃w z A,∃e:Nat,∃j:List (aG × aG),o=[.int .i64 e,w,z,A]∧u=b - e∧j.length=N∧g[f]?=some (.row bO 2 (j.map bC))∧bW f h g∧iu c a e (b - e) j=n)
  (λr=>r.1 = .ext 0∧r.2.2[f]?=some (.row bO 2 (n.map bC))∧bW f h r.2.2) (b - (a+1)) ⟨_,_,_,a+1,l,rfl,rfl,F,G,.refl _ _,i⟩ ?_ ?_
 ·rintro u o g ⟨w,z,A,e,j,rfl,rfl,s,t,sm,i⟩;simp only[ur,bY,dI,O,bH,dN];refine Wp.eN ?_ ?_
  ·intro k;have k:e<b:=by
    have:(e:Int)<(b:Int):=by simpa using k
    omega
   have C:b - e=(b - (e+1))+1:=by omega
   rw[C]at i;unfold iu at i;have I:=ig e (by omega);refine KW c m E f N a B j s e (by omega) g t _ λx y M K L=>?_
   simp only[eW,lj,dE,O,bY,dV,I];exact .some (.inl ⟨rfl,b - (e+1),by omega,_,_,_,e+1,_,rfl,rfl,by rw[vk];exact s,K,sm.trans L,i⟩)
  ·intro k;have k:¬e<b:=by
    have:¬(e:Int)<(b:Int):=by simpa using k
    omega
   rw[show b - e=0 by omega]at i;have i:j=n:=i;subst i;exact .some (.inr ⟨by simp,rfl,t,sm⟩)
 ·rintro⟨x,o,g⟩ ⟨rfl,p,q⟩;simp only[eW,sn,O];exact .some ⟨p,q⟩
theorem A0:∀(a b:aG),Lib.compareBytes a b<0↔Op.bytesLess a b=true
 |[],[]=>by simp[-Qd,Lib.compareBytes,Op.bytesLess]
 |[],_::_=>by simp[-Qd,Lib.compareBytes,Op.bytesLess]
 |_::_,[]=>by simp[-Qd,Lib.compareBytes,Op.bytesLess]
 | x::a,y::b=>by
  have g:=A0 a b;simp only[Lib.compareBytes,Op.bytesLess];by_cases c:x<y
  ·simp[-Qd,c]
  ·by_cases d:y<x
   ·have e:¬x=y:=λf=>by subst f;exact c d
    simp[-Qd,c,d,e]
   ·have e:x=y:=by
      apply UInt8.toNat_inj.1;have:=mt uY.2 c;have:=mt uY.2 d;omega
    subst e;simp[-Qd,c,g]
def cF(x y:aG × aG):Int:=Lib.compareBytes x.1 y.1
theorem NN(a b:aG)(h:Z):R vE [.str a,.str b] h=some (.int .i64 (Lib.compareBytes a b),h):=by
 rw[Hz];simp only[y9,O,HD,zd,Po,cS]
theorem NM(x y:aG × aG)(h:Z):R nC [.agg (bC x),.agg (bC y)] h=some (.int .i64 (cF x y),h):=by
 rw[Hy];simp only[y8,O,nM,vt,vv,NN,cS,cF]
theorem F4(x y:aG × aG)(h:Z):fA R (.fn (.func nC) [] []) [.agg (bC x),.agg (bC y)] h=some (.int .i64 (cF x y),h):=by
 rw[qe];exact NM x y h
theorem NQ(c:aG × aG→aG × aG→Int)(e:D)(q:∀x y g,fA R e [.agg (bC x),.agg (bC y)] g=some (.int .i64 (c x y),g))(a N:Nat)(H:N≤20)
  (l:List (aG × aG)) (r:l.length=N) (h:Z) (w:h[a]?=some (.row bO 2 (l.map bC))) :
  ∃d h',R qz [.S 2 a 0 N,.int .i64 N,e] h=some (d,h')∧h'[a]?=some (.row bO 2 ((iu c 0 1 (N - 1) l).map bC))∧bW a h h':=by
 suffices Wp (R qz [.S 2 a 0 N,.int .i64 N,e] h) (λz=>z.2[a]?=some (.row bO 2 ((iu c 0 1 (N - 1) l).map bC))∧bW a h z.2) by
  obtain⟨⟨x,h'⟩,B,C⟩:=this;exact⟨x,h',B,C⟩
 rw[Bm];simp only[um,O,bH];refine Wp.loop (λt n g=>(t=1∧∃f,n=[.int .i64 0,.int .i64 20,f]∧g=h)∨(t=0∧N=20∧∃f,n=[.int .i64 20,.int .i64 40,f]∧g[a]?=some (.row bO 2 ((iu c 0 1 (N - 1) l).map bC))∧bW a h g))
  (λk=>k.1 = .ext 0∧∃(b:Nat) (f A:D),k.2.1=[.int .i64 b,f,A]∧((b=0∧k.2.2=h)∨(b=N∧k.2.2[a]?=some (.row bO 2 ((iu c 0 1 (N - 1) l).map bC))∧bW a h k.2.2))) 1 (.inl ⟨rfl,_,rfl,rfl⟩) ?_ ?_
 ·rintro t n g (⟨rfl,f,rfl,rfl⟩|⟨rfl,E,f,rfl,j,m⟩)
  ·simp only[rK,bY,dI,O,bH,qg];refine Wp.eN ?_ ?_
   ·intro i;have i:N=20:=by
     have:(20:Int)≤(N:Int):=by simpa using i
     omega
    obtain⟨d,h',p,j,m⟩:=yb c e q a N 0 20 (by omega) (by omega) (by omega) l r g w;have p:R mg [.S 2 a 0 N,.int .i64 0,.int .i64 20,e] g=some (d,h'):=p;simp only[p,O,dV,show IntKind.wrap .i64 ((20:Int)+20)=40 from rfl];exact .some (.inl ⟨rfl,0,by omega,.inr ⟨rfl,i,_,rfl,by rw[i];exact j,m⟩⟩)
   ·intro i;exact .some (.inr ⟨by simp,rfl,0,_,_,rfl,.inl ⟨rfl,rfl⟩⟩)
  ·have s:¬(40:Int)≤(N:Int):=by omega
   simp only[rK,bY,dI,O,bH,qg,s,cV,aQ,bA,aR];exact .some (.inr ⟨by simp,rfl,20,_,_,rfl,.inr ⟨E.symm,j,m⟩⟩)
 ·rintro⟨x,n,g⟩ ⟨rfl,b,f,A,rfl,F⟩;simp only[eW,dE,bY,dI,O];have G:∃d h',R mg [.S 2 a 0 N,.int .i64 b,.int .i64 N,e] g=some (d,h')∧h'[a]?=some (.row bO 2 ((iu c 0 1 (N - 1) l).map bC))∧bW a h h':=by
   rcases F with⟨rfl,rfl⟩|⟨rfl,j,m⟩
   ·exact yb c e q a N 0 N (by omega) (by omega) (by omega) l r g w
   ·obtain⟨d,h',u,o,v⟩:=yb c e q a b b b (by omega) (by omega) (by omega) _ (by rw[xv];exact r) g j;rw[show b - (b+1)=0 by omega]at o;exact⟨d,h',u,o,m.trans v⟩
  obtain⟨d,h',u,o,v⟩:=G;simp only[u,O];rw[iM];have s:¬(20:Int)<(N:Int):=by omega
  simp only[uo,bY,dI,O,bH,dN,s,cV,aQ,bA,aR,eW,sn];exact .some ⟨o,v⟩
theorem NK(c:aG × aG→aG × aG→Int)(b:D)(f:∀x y g,fA R b [.agg (bC x),.agg (bC y)] g=some (.int .i64 (c x y),g))(a N:Nat)(e:N≤20)
  (l:List (aG × aG)) (i:l.length=N) (h:Z) (j:h[a]?=some (.row bO 2 (l.map bC))) :
  ∃d h',R qy [.S 2 a 0 N,b] h=some (d,h')∧h'[a]?=some (.row bO 2 ((iu c 0 1 (N - 1) l).map bC))∧bW a h h':=by
 obtain⟨d,h',k,m,n⟩:=NQ c b f a N e l i h j;refine⟨aE [],h',?_,m,n⟩;rw[Bl];simp only[uk,O,CR,k]
theorem Cq(cs:List D)(i:Int)(a:0≤i)(b:i<256)(c:i.toNat<cs.length):aN tab tR (.aD cs) (.int .u8 i)=some (.aD (cs.drop i.toNat)):=by
 have:=KG (T:=tab) (t:=tR) (n:=256) (z:=1) (i:=yq) (j:=tO) (id rfl) (id rfl) (id rfl) (id rfl) (by omega) (cs:=cs) (k :=.u8) a b (by omega)
 rwa [Nat.mul_one]at this
theorem Cv:lJ.length=256:=by decide
theorem xz:kn.length=256:=by simp[-Qd,kn,Cv]
theorem Cw(i:Nat)(hi:i<256):∃z,kn.drop i = .int .u8 z::kn.drop (i+1)∧lJ[i]?=some z:=by
 have b:=Cv;have a:=xz;refine⟨lJ[i]'(by omega),?_,cA (by omega)⟩;rw[j5 (by omega)];simp[-Qd,kn]
def Cy(z:Int):Bool:=decide (IntKind.wrap .u8 (BitVec.ofInt IntKind.u8.bits z &&& BitVec.ofInt IntKind.u8.bits 2).toNat≠0)
def Cz(z:Int):Bool:=decide (IntKind.wrap .u8 (BitVec.ofInt IntKind.u8.bits z &&& BitVec.ofInt IntKind.u8.bits 3).toNat≠0)
theorem Ct:∀i:Fin 256,(lJ[i.val]?).map Cy=some (mv i.val)∧(lJ[i.val]?).map Cz=some (vi i.val||mv i.val):=by decide
theorem NP(c:UInt8)(h:Z):R vG [.int .u8 c.toNat] h=some (.bool (mv c.toNat),h):=by
 have a:c.toNat<256:=c.toNat_lt;obtain⟨g,f,d⟩:=Cw c.toNat a;have b:=(Ct ⟨c.toNat,a⟩).1;simp only[d,gH,jT]at b;have e:=xz;rw[HB];simp only[zb,O,Cq kn c.toNat (by omega) (by omega) (by rw[e];simpa using a),eS,f,CK,A5,eC,cS,← b,Cy]
theorem ya(c:UInt8)(h:Z):R vH [.int .u8 c.toNat] h=some (.bool (rB c.toNat),h):=by
 have a:c.toNat<256:=c.toNat_lt;obtain⟨i,f,d⟩:=Cw c.toNat a;have b:=(Ct ⟨c.toNat,a⟩).2;simp only[d,gH,jT]at b;have e:=xz;rw[HC];simp only[Cz]at b;simp only[zc,O,Cq kn c.toNat (by omega) (by omega) (by rw[e];simpa using a),eS,f,CK,A5,eC,fY,rB,b];cases g:(vi c.toNat||mv c.toNat)<;>simp[-Qd]
theorem CA(s:aG)(h:Z)(u:Nat)(E:h[u]?=some (.row fJ 1 (gB s)))(D:s.length≤9223372036854775807){y:Type}(n:bT→Option y)(X:Bool→Option y)(C:Z)
   (z:∀r,n (.ret,.bool false::r,h)=X false) (A:∀r,n (.ext 0,r,h)=X true):∀(i d:aG),s=d++i→∀a b e f,
   (cH (oc (.S 1 u 0 s.length,C) (.int .i64 s.length)) [a,b,.int .i64 d.length,e,f] h).bind n=X (i.all lO):=by
 intro i
 induction i with
 | nil =>
  rintro d rfl a b e f;rw[iM];simp[-Qd,oc,A]
 | cons c i x =>
  rintro d rfl a b e f;have w:IntKind.wrap .i64 ((d.length:Int)+1)=(d++[c]).length:=by
   rw[dF (by omega) (by simp at D;omega)];simp[-Qd]
  have m:(d.length:Int)<(d++c::i).length:=by simp;omega
  rw[iM];generalize p:d++c::i=v at *;have B:(gB v)[d.length]?=some [.int .u8 c.toNat]:=by rw[← p];simp[-Qd,gB]
  have q:aA tab h fJ (.ptr u d.length 0)=some (.int .u8 c.toNat):=by
   rw[Ld,dW E,B];rfl
  have o:(0:Int)≤(d.length:Int)∧(d.length:Int)<(v.length:Int):=⟨by omega,m⟩
  cases j:rB c.toNat
  ·by_cases l:(c.toNat:Int)=46
   ·have:=x (d++[c]) (by simp[-Qd,← p]) a (.int .u8 c.toNat) (.bool true) (.bool false);simp only[← w]at this;have F:rB 46=false:=rfl;have g:=ya c h;rw[j]at g;have k:lO c=true:=by simp[-Qd,lO,j,l]
    have t:decide ((c.toNat:Int)≠46)=false:=by simp[-Qd,l]
    simp only[oc,bY,dI,O,dN,m,dJ,aQ,aM,xy,o,gz,cT,eS,q,g,hd,iA,dC,eC,t,cX,bA,aR,dV,uD,k,uc];exact this
   ·have g:=ya c h;rw[j]at g;have k:lO c=false:=by simp[-Qd,lO,j,l]
    have t:decide ((c.toNat:Int)≠46)=true:=by simp[-Qd,l]
    simp only[oc,bY,dI,O,dN,m,dJ,aQ,aM,xy,o,gz,cT,eS,q,g,hd,iA,dC,eC,t,cX,uD,k,Bool.false_and,z]
  ·have:=x (d++[c]) (by simp[-Qd,← p]) a (.int .u8 c.toNat) (.bool true) (.bool false);simp only[← w]at this;have g:=ya c h;rw[j]at g;have k:lO c=true:=by simp[-Qd,lO,j]
   simp only[oc,bY,dI,O,dN,m,dJ,aQ,aM,xy,o,gz,cT,eS,q,g,hd,fU,dC,bA,aR,reduceCtorEq,cX,dV,uD,k,uc];exact this
theorem NJ(s:aG)(h:Z):R vD [.str s] h=some (.bool (jj s),h):=by
 have q:∀(k:Z) (g:Bool),h.length≤k.length→(∀p,p<h.length→k[p]?=h[p]?)→scope h k (.bool g)=some (.bool g,h):=λk g x y=>jZ (by simp) (.bool _) x y
 rw[Hx];cases s with
 | nil =>
  simp only[oa,O,nw,ns,dC,fQ,reduceCtorEq,aR,cX,aM,aQ,cS,jn,q h _ (aS _) (λ_ _=>rfl)];rfl
 | cons a b =>
  have n:((a::b:aG)==[])=false:=by simp
  by_cases l:(32:Int)<((a::b).length:Int)
  ·have A:jj (a::b)=false:=by
     have:¬(a::b).length≤32:=by omega
     simp[-Qd,jj];intro C;simp at this;omega
   simp only[oa,O,nw,n,dC,fQ,aM,iv,eM,l,dJ,reduceCtorEq,aR,cX,aQ,cS,jn,bA,ia,lF,q h _ (aS _) (λ_ _=>rfl),A]
  ·have B:(a::b).length≤32:=by omega
   have i:=Oj (a::b) 0 a rfl;have i:ny tab bL (.str (a::b)) (.int .i64 0)=some (.int .u8 a.toNat):=i;have j:=NP a h;have v:EB fJ h (.str (a::b))=some (.S 1 h.length 0 (a::b).length,aL h fJ 1 (gB (a::b))):=bE (k4 (by omega) (by omega));have w:=k8 h fJ 1 (gB (a::b));have o:∀g,scope h (aL h fJ 1 (gB (a::b))) (.bool g)=some (.bool g,h):=λg=>q _ _ (by rw[iN];omega) λp f=>k9 _ _ _ _ f
   have r:∀(e:Bool),(mv a.toNat||decide ((a.toNat:Int)=95))=e→jj (a::b)=(e&&(a::b).all lO):=λe z=>by
    simp only[jj,B,dJ,uc,z]
   cases f:mv a.toNat
   ·rw[f]at j;by_cases m:(a.toNat:Int)=95
    ·have t:decide ((a.toNat:Int)≠95)=false:=by simp[-Qd,m]
     rw[r true (by simp[-Qd,f,m])];simp only[oa,O,bH,nw,n,dC,fQ,aM,iv,eM,l,cV,reduceCtorEq,aR,cX,aQ,bA,i,j,hd,iA,eC,t,v,CP];have:=CA (a::b) (aL h fJ 1 (gB (a::b))) h.length w (by omega) (λc=>(some ((bJ 0 c.1),[(Y 0 c.2.1),(Y 1 c.2.1),(Y 2 c.2.1),(Y 3 c.2.1),(Y 4 c.2.1)],c.2.2)).bind λd=>toEnd d.1 (scope h d.2.2 (.bool true)) λu=>cZ u (scope h d.2.2 (aE [Y 0 d.2.1]))) (λe=>some (.bool e,h)) (aL h fJ 1 (gB (a::b))) (λb=>by simp[-Qd,o]) (λb=>by simp[-Qd,o]) (a::b) [] rfl (.bool false) .any .any .any;simpa using this
    ·have t:decide ((a.toNat:Int)≠95)=true:=by simp[-Qd,m]
     rw[r false (by simp[-Qd,f,m])];simp only[oa,O,nw,n,dC,fQ,aM,iv,eM,l,cV,reduceCtorEq,aR,cX,aQ,bA,i,j,hd,iA,eC,t,cS,q h _ (aS _) (λ_ _=>rfl),Bool.false_and]
   ·rw[f]at j;rw[r true (by simp[-Qd,f])];simp only[oa,O,bH,nw,n,dC,fQ,aM,iv,eM,l,cV,reduceCtorEq,aR,cX,aQ,bA,i,j,hd,fU,v,CP,ia];have:=CA (a::b) (aL h fJ 1 (gB (a::b))) h.length w (by omega) (λc=>(some ((bJ 0 c.1),[(Y 0 c.2.1),(Y 1 c.2.1),(Y 2 c.2.1),(Y 3 c.2.1),(Y 4 c.2.1)],c.2.2)).bind λd=>toEnd d.1 (scope h d.2.2 (.bool true)) λu=>cZ u (scope h d.2.2 (aE [Y 0 d.2.1]))) (λe=>some (.bool e,h)) (aL h fJ 1 (gB (a::b))) (λb=>by simp[-Qd,o]) (λb=>by simp[-Qd,o]) (a::b) [] rfl (.bool false) .any .any .any;simpa using this
def iJ(h:Z)(l:List (aG × aG))(d:D):Prop:=aU 2 bC l d∨∃a,d = .S 2 a 0 l.length∧h[a]?=some (.row bO 2 (l.map bC))
theorem tt{h:Z}{l:List (aG × aG)}{d:D}(a:iJ h l d):aV tab bS d=some (.int .i64 l.length):=by
 rcases a with a|⟨b,rfl,_⟩
 ·exact jX a
 ·exact CR _ _ _ _
theorem re{h:Z}{l:List (aG × aG)}{d:D}(a:iJ h l d)(i:Nat)(p:aG × aG)(b:l[i]?=some p):∃c,aN tab bS d (.int .i64 i)=some c∧aA tab h bO c=some (.agg (bC p)) ∧
  ∃j,aC tab bO 0 c=some j∧aA tab h bL j=some (.str p.1):=by
 have m:=(aZ.1 b).1;rcases a with a|⟨g,rfl,e⟩
 ·exact⟨.aD (bC p),by rw[s5 a];simp[-Qd,b],vw p h,.aD (bC p),vt p,vv p h⟩
 ·have f:(l.map bC)[i]?=some (bC p):=by rw[dB,b];rfl
  have k:(0:Int)≤(i:Int)∧(i:Int)<(l.length:Int):=by omega
  refine⟨.ptr g i 0,by rw[Cr];simp[-Qd,k],xB e f,.ptr g i 0,by rw[Ir],?_⟩;rw[k0,dW e,f];rfl
theorem iJ.aX{h h':Z}{l:List (aG × aG)}{d:D}(a:iJ h l d)(f:∀(b T z:Nat) (rows:List (List D)),h[b]?=some (Ob.row T z rows)→h'[b]?=h[b]?):iJ h' l d:=by
 rcases a with a|⟨e,rfl,c⟩
 ·exact .inl a
 ·exact .inr ⟨e,rfl,by rw[f e _ _ _ c];exact c⟩
theorem O7(l:List (aG × aG))(d:D)(h:Z)(p:aU 2 bC l d)(u:l.length≤1000000):∃d' h',R vz [d] h=some (d',h')∧h.length≤h'.length∧(∀f,f<h.length→h'[f]?=h[f]?) ∧
  ((l=[]∧aU 2 bC [] d')∨∃a,h.length≤a∧d' = .S 2 a 0 l.length∧h'[a]?=some (.row bO 2 (l.map bC))):=by
 rw[Hf];rcases p with⟨rfl,rfl⟩|⟨b,rfl⟩
 ·exact⟨.J,h,by
    have e:U tab .eql bS .J .J=some (.bool true):=id rfl;simp[-Qd,uh,e],aS _,λ_ _=>rfl,.inl ⟨rfl,.J _ _⟩⟩
 ·obtain⟨g,h',k,q,s,r⟩:=AB (T:=tab) (t:=bS) (i:=tM) (j:=ry) (h:=h) (id rfl) (id rfl) (id rfl) (by decide) (y :=.sl 2 b (l.map bC)) (lf _ _ _ _) (k4 (by have:ry.gA=32:=rfl;rw[this,gi];omega) (by rw[gi];omega));have m:dM tab h bS bS (.sl 2 true []) (.sl 2 b (l.map bC))=some (g,h'):=k;have e:U tab .eql bS (.sl 2 b (l.map bC)) .J=some (.bool false):=id rfl;refine⟨g,h',?_,q,s,?_⟩
  ·simp only[uh,O,e,aQ,bA,aR,F0,m,cS]
  ·rcases r with⟨rfl,c⟩|⟨rfl,c⟩|⟨a,n,rfl,o⟩
   ·have:l=[]:=by simpa using c
    exact .inl ⟨this,.inr ⟨true,rfl⟩⟩
   ·have:l=[]:=by simpa using c
    exact .inl ⟨this,.J _ _⟩
   ·exact .inr ⟨a,n,by rw[gi];rfl,o⟩
def nS(l:List (aG × aG)):List (aG × aG):=iu cF 0 1 (l.length - 1) l
theorem yl(l:List (aG × aG)):(nS l).length=l.length:=xv _ _ _ _ _
def ly:List (aG × aG)→Bool
 |x::y::r=>y.1==x.1||ly (y::r)
 |_=>false
def fE(l:List (aG × aG)):Int × List (aG × aG):=if 32<l.length then(4,[])else if l.all (λa=>jj a.1)=true then(if ly (nS l)=true then(7,[])else(0,nS l))else(6,[])
theorem KT(l:List (aG × aG))(d:D)(h:Z)(I:aU 2 bC l d)(M:l.length≤1000){F:Type}{o:bT→Option F}{Q:F→Prop}(a b c e f:D)
  (E:l.all (λp=>jj p.1)=true→∀x y z w,Wp (o (.ext 0,[a,b,x,y,z,w],h)) Q) (k2:¬l.all (λp=>jj p.1)=true→∀x y z w,Wp (o (.ret,[.J,.int .i64 6,x,y,z,w],h)) Q) :
  Wp ((cH (ui d (.int .i64 l.length)) [a,b,c,.int .i64 0,e,f] h).bind o) Q:=by
 generalize G:l.all (λp=>jj p.1)=q at E k2;refine Wp.loop (λu r s=>s=h∧∃c e f,∃g:Nat,r=[a,b,c,.int .i64 g,e,f]∧u+g=l.length∧(l.drop g).all (λp=>jj p.1)=q)
   (λx=>x.2.2=h∧((x.1 = .ext 0∧q=true∧∃p k m n,x.2.1=[a,b,p,k,m,n])∨(x.1 = .ret∧q=false∧∃p k m n,x.2.1=[.J,.int .i64 6,p,k,m,n]))) l.length ⟨rfl,_,_,_,0,rfl,rfl,G⟩ ?_ ?_
 ·rintro u r s ⟨rfl,c,e,f,g,rfl,L,i⟩;simp only[ui,bY,dI,O,bH,dN];refine Wp.eN ?_ ?_
  ·intro j;have j:g<l.length:=ji j;have C:l[g]?=some l[g]:=cA j;have K:=ig g (by omega);rw[j5 j]at i;generalize l[g]=x at C i;have H:im 2 (.agg (bC x))=some (.aD (bC x)):=qd 2 _ rfl;simp only[s5 I,pP,aM,eS,C,gH,O,vw,H,vt x,vv,NJ,hd];simp only[uD]at i;cases B:jj x.1
   ·rw[B]at i;simp only[iA,aQ,aM];exact .some (.inr ⟨by simp,rfl,.inr ⟨rfl,i.symm,_,_,_,_,rfl⟩⟩)
   ·rw[B]at i;simp only[fU,aQ,bA,aR,dV,O,K];exact .some (.inl ⟨rfl,u - 1,by omega,rfl,_,_,_,g+1,rfl,by omega,i⟩)
  ·intro j;have j:l.length≤g:=by
    have:¬(g:Int)<l.length:=by simpa using j
    omega
   rw[pQ j]at i;exact .some (.inr ⟨by simp,rfl,.inl ⟨rfl,i.symm,_,_,_,_,rfl⟩⟩)
 ·rintro⟨x,r,s⟩ ⟨v,A⟩;simp only at v A;subst v;rcases A with⟨rfl,t,p,k,m,n,rfl⟩|⟨rfl,t,p,k,m,n,rfl⟩
  ·exact E t _ _ _ _
  ·exact k2 (by rw[t];simp[-Qd]) _ _ _ _
theorem KU(l:List (aG × aG))(d:D)(h:Z)(s:iJ h l d)(T:l.length≤1000){E:Type}{p:bT→Option E}{Q:E→Prop}(a b c e:D)
  (C:ly l=false→∀x y z,Wp (p (.ext 2,[a,b,x,y,z],h)) Q) (k2:ly l=true→∀x y z,Wp (p (.ret,[.J,.int .i64 7,x,y,z],h)) Q) :
  Wp ((cH (uj d) [a,b,.int .i64 1,c,e] h).bind p) Q:=by
 generalize M:ly l=o at C k2;refine Wp.loop (λB q r=>r=h∧∃c e,∃f:Nat,q=[a,b,.int .i64 ((f+1:Nat):Int),c,e]∧B=l.length - f∧ly (l.drop f)=o)
   (λx=>x.2.2=h∧((x.1 = .ext 2∧o=false∧∃k m n,x.2.1=[a,b,k,m,n])∨(x.1 = .ret∧o=true∧∃k m n,x.2.1=[.J,.int .i64 7,k,m,n]))) l.length ⟨rfl,_,_,0,rfl,rfl,M⟩ ?_ ?_
 ·rintro B q r ⟨rfl,c,e,f,rfl,R,g⟩;simp only[uj,bY,dI,O,bH,tt s,dN];refine Wp.eN ?_ ?_
  ·intro i;have i:f+1<l.length:=by
    have:((f+1:Nat):Int)<l.length:=by simpa using i
    omega
   have u:l[f+1]?=some l[f+1]:=cA i;have t:l[f]?=some l[f]:=cA (by omega);have N:IntKind.wrap .i64 (((f+1:Nat):Int)+1)=((f+1+1:Nat):Int):=by
    rw[dF (by omega) (by omega)];omega
   have P:IntKind.wrap .i64 (((f+1:Nat):Int) - 1)=(f:Int):=by
    rw[dF (by omega) (by omega)];omega
   rw[j5 (show f<l.length by omega),j5 i]at g;unfold ly at g;rw[← j5 i]at g;generalize l[f+1]=x at u g;generalize l[f]=y at t g;obtain⟨X,G,_,r1,I,L⟩:=re s (f+1) x u;obtain⟨V,F,_,aa,H,K⟩:=re s f y t;simp only[G,F,I,H,L,K,O,fM,P,nw];cases A:(x.1==y.1)
   ·rw[A]at g;simp only[aQ,bA,aR,dV,O,N];exact .some (.inl ⟨rfl,l.length - (f+1),by omega,rfl,_,_,f+1,rfl,rfl,g⟩)
   ·rw[A]at g;simp only[aQ,aM];exact .some (.inr ⟨by simp,rfl,.inr ⟨rfl,g.symm,_,_,_,rfl⟩⟩)
  ·intro i;have i:l.length≤f+1:=by
    have:¬((f+1:Nat):Int)<l.length:=by simpa using i
    omega
   have j:o=false:=by
    rw[← g];have:(l.drop f).length≤1:=by simp;omega
    match l.drop f,this with
    |[],_=>rfl
    |[x],_=>rfl
   exact .some (.inr ⟨by simp,rfl,.inl ⟨rfl,j,_,_,_,rfl⟩⟩)
 ·rintro⟨x,q,r⟩ ⟨v,w⟩;simp only at v w;subst v;rcases w with⟨rfl,j,k,m,n,rfl⟩|⟨rfl,j,k,m,n,rfl⟩
  ·exact C j _ _ _
  ·exact k2 j _ _ _
theorem NL(d a:D)(h:Z)(g:aU 2 bC [] d):∃x,R qy [d,a] h=some (x,h):=by
 have i:aV tab bS d=some (.int .i64 0):=jX g;have c:∃x,R mg [d,.int .i64 0,.int .i64 0,a] h=some (x,h):=by
  rw[Bn];refine⟨aE [],?_⟩;simp only[uq,O,bH,dV,show IntKind.wrap .i64 ((0:Int)+1)=1 from rfl];rw[iM];simp[-Qd,ur]
 obtain⟨x,c⟩:=c;have b:∃x,R qz [d,.int .i64 0,a] h=some (x,h):=by
  rw[Bm];refine⟨aE [],?_⟩;simp only[um,O,bH];rw[iM];have e:¬(20:Int)≤0:=by omega
  have f:¬(20:Int)<0:=by omega
  simp only[rK,bY,dI,O,qg,e,cV,aQ,bA,aR,eW,dE,c];rw[iM];simp only[uo,bY,dI,O,dN,f,cV,aQ,bA,aR,eW,sn]
 obtain⟨j,b⟩:=b;refine⟨aE [],?_⟩;rw[Bl];simp only[uk,O,i,b]
theorem NF(l:List (aG × aG))(d:D)(h:Z)(p:aU 2 bC l d)(C:l.length≤20):∃d' h',R qv [d] h=some (.bN [d',.int .i64 (fE l).1],h')∧h.length≤h'.length∧(∀a,a<h.length→h'[a]?=h[a]?)∧((fE l).1=0→iJ h' (fE l).2 d'):=by
 suffices Wp (R qv [d] h) (λm=>∃d',m.1 = .bN [d',.int .i64 (fE l).1]∧h.length≤m.2.length∧(∀a,a<h.length→m.2[a]?=h[a]?)∧((fE l).1=0→iJ m.2 (fE l).2 d')) by
  obtain⟨⟨b,h'⟩,e,d',rfl,c⟩:=this;exact⟨d',h',e,c⟩
 rw[Ht];have B:¬(32:Int)<(l.length:Int):=by omega
 have n:¬32<l.length:=by omega
 simp only[y3,O,bH,jX p,eM,B,cV,aQ,bA,aR];refine KT l d h p (by omega) _ _ _ _ _ (λk b i r M=>?_) (λk b i r M=>?_)
 ·simp only[eW,dE,bY,dI,O];obtain⟨f,e,y,E,s,j⟩:=O7 l d h p (by omega);simp only[y,O];have H:∃b c,R qy [f,.fn (.func nC) [] []] e=some (b,c)∧h.length≤c.length∧(∀a,a<h.length→c[a]?=h[a]?)∧iJ c (nS l) f:=by
   rcases j with⟨rfl,j⟩|⟨w,N,rfl,F⟩
   ·obtain⟨b,I⟩:=NL f (.fn (.func nC) [] []) e j;exact⟨b,e,I,E,s,.inl j⟩
   ·obtain⟨b,c,K,L,x⟩:=NK cF (.fn (.func nC) [] []) (λb i A=>F4 b i A) w l.length C l rfl e F;refine⟨b,c,K,by have:=x.1;omega,λa G=>(x.2 a (by omega)).trans (s a G),.inr ⟨w,by rw[yl],L⟩⟩
  obtain⟨P,c,z,u,t,v⟩:=H;simp only[z,O];refine KU (nS l) f c v (by rw[yl];omega) _ _ _ _ (λo b i r=>?_) (λo b i r=>?_)
  ·have g:fE l=(0,nS l):=by simp only[fE,n,aR,k,aM,o,bA]
   rw[g];simp only[eW,dE,O,lN];exact .some ⟨f,rfl,u,t,λ_=>v⟩
  ·have g:fE l=(7,[]):=by simp only[fE,n,aR,k,aM,o]
   rw[g];simp only[pC,pB,oI,bY,dI,O,lN];exact .some ⟨.J,rfl,u,t,λq=>by cases q⟩
 ·have g:fE l=(6,[]):=by simp only[fE,n,aR,k];rfl
  rw[g];simp only[pC,pB,oI,bY,dI,O,lN];exact .some ⟨.J,rfl,aS _,λ_ _=>rfl,λq=>by cases q⟩
theorem NG(l r:List (aG × aG))(d e:D)(h:Z)(y:iJ h l d)(z:iJ h r e)(M:l.length≤1000):R vB [d,e] h=some (.bool (decide (l=r)),h):=by
 apply Wp.val;rw[Hu];simp only[y4,O,bH,tt y,tt z,eC];by_cases k:(l.length:Int)=(r.length:Int)
 ·have N:l.length=r.length:=by omega
  simp only[k,fw,gq,cV,aQ,bA,aR];generalize F:decide (l=r)=g;refine Wp.loop (λp i j=>j=h∧∃s t u v,∃a:Nat,i=[s,t,.int .i64 a,u,v]∧p+a=r.length∧decide (l.drop a=r.drop a)=g)
   (λb=>b.2.2=h∧((b.1 = .ext 0∧g=true)∨(b.1 = .ret∧g=false∧Y 0 b.2.1 = .bool false))) r.length ⟨rfl,_,_,_,_,0,rfl,rfl,F⟩ ?_ ?_
  ·rintro p i j ⟨rfl,s,t,u,v,a,rfl,L,f⟩;simp only[y5,bY,dI,O,bH,dN];refine Wp.eN ?_ ?_
   ·intro c;have c:a<r.length:=ji c;have gl:l[a]?=some l[a]:=cA (by omega);have gr:r[a]?=some r[a]:=cA c;have K:=ig a (by omega);rw[j5 (show a<l.length by omega),j5 c]at f;generalize l[a]=b at gl f;generalize r[a]=q at gr f;obtain⟨Q,B,E,_⟩:=re y a b gl;obtain⟨P,A,C,_⟩:=re z a q gr;simp only[B,A,E,C,O,BZ];by_cases o:b=q
    ·subst o;simp only[fw,gq,cV,aQ,bA,aR,dV,O,K];exact .some (.inl ⟨rfl,p - 1,by omega,rfl,_,_,_,_,a+1,rfl,by omega,by rw[← f];simp[-Qd]⟩)
    ·have m:decide (b≠q)=true:=by simpa using o
     simp only[m,aQ,aM];exact .some (.inr ⟨by simp,rfl,.inr ⟨rfl,by rw[← f];simp[-Qd,o],rfl⟩⟩)
   ·intro c;have c:r.length≤a:=by
     have:¬(a:Int)<r.length:=by simpa using c
     omega
    rw[pQ c,pQ (by omega)]at f;exact .some (.inr ⟨by simp,rfl,.inl ⟨rfl,by rw[← f];simp[-Qd]⟩⟩)
  ·rintro⟨b,i,j⟩ ⟨w,x⟩;simp only at w x;subst w;rcases x with⟨rfl,n⟩|⟨rfl,n,I⟩
   ·simp only[eW,dE,O,cS,n];exact .some rfl
   ·simp only[pC,pB,oI,bY,O,I,cS,n];exact .some rfl
 ·have m:decide ((l.length:Int)≠(r.length:Int))=true:=by simpa using k
  have H:decide (l=r)=false:=by
   simp[-Qd];intro G;subst G;exact k rfl
  simp only[m,aQ,aM,cS,H];exact .some rfl
theorem KV(l:List (aG × aG))(d:D)(p:D)(j:aG × aG→Bool)(h:Z)(A:iJ h l d)(C:l.length≤9223372036854775807)(s:∀x,fA R p [.agg (bC x)] h=some (.bool (j x),h)){u:Type}(k:bT→Option u)(X:Int→Option u)
   (y:∀v r,k (.ret,.int .i64 v::r,h)=X v) (z:∀r,k (.ext 0,r,h)=X (-1)):∀(i c:List (aG × aG)),l=c++i→∀a b e f,
   (cH (pJ d p (.int .i64 l.length)) [a,b,.int .i64 c.length,e,f] h).bind k=X (idx j c.length i):=by
 intro i
 induction i with
 | nil =>
  rintro c rfl a b e f;rw[iM];simp[-Qd,pJ,z,idx]
 | cons g i F =>
  rintro c rfl a b e f;have E:IntKind.wrap .i64 ((c.length:Int)+1)=(c++[g]).length:=by
   rw[dF (by omega) (by simp at C;omega)];simp[-Qd]
  have t:(c.length:Int)<(c++g::i).length:=by simp;omega
  rw[iM];generalize q:c++g::i=w at *;have B:w[c.length]?=some g:=by rw[← q];exact qI _ _ _
  obtain⟨G,n,o,_⟩:=re A _ _ B;by_cases m:j g=true
  ·simp[-Qd,pJ,n,o,t,s,m,y,idx]
  ·have:=F (c++[g]) (by simp[-Qd,← q]) a (.int .i64 c.length) (.bool true) (.bool (j g));simp only[← E]at this;simp[-Qd,pJ,n,o,t,s,m,idx];simp[-Qd,m]at this;exact this
theorem NO(l:List (aG × aG))(d:D)(a:D)(b:aG × aG→Bool)(h:Z)(c:iJ h l d)(g:l.length≤9223372036854775807)(f:∀x,fA R a [.agg (bC x)] h=some (.bool (b x),h)):
   R vF [d,a] h=some (.int .i64 (idx b 0 l),h):=by
 rw[HA];simp only[za,O,tt c,bH];rw[show(0:Int)=(([]:List (aG × aG)).length:Int)from rfl,KV l d a b h c g f _ (λe=>some (.int .i64 e,h)) (λe i=>by simp) (λi=>by simp) l [] rfl];rfl
theorem NI(p:aG × aG)(h:Z):R qx [.agg (bC p)] h=some (.bool (decide (2000<p.2.length)),h):=by
 rw[Hw];simp[-Qd,y7,bC];omega
theorem NH(l:List (aG × aG))(d:D)(h:Z)(a:iJ h l d)(b:l.length≤9223372036854775807):R vC [d,.fn (.func qx) [] []] h=some (.bool (l.any λp=>decide (2000<p.2.length)),h):=by
 rw[Hv];simp only[y6,O,NO l d (.fn (.func qx) [] []) (λp=>decide (2000<p.2.length)) h a b (λc=>by rw[qe];exact NI c h),lA,cS];rw[xr]
theorem ND(l:cL)(h:Z):R qu [.agg (aY l)] h=some (.bool (!(l.fT==[])),h):=by
 rw[Hr];simp[-Qd,yY,aY]
theorem NC(l:List cL)(d:D)(h:Z)(a:aU 3 aY l d)(b:l.length≤9223372036854775807):R vA [d,.fn (.func qu) [] []] h=some (.bool (l.any λp => !(p.fT==[])),h):=by
 rw[Hq];simp only[yX,O,D4 l d (.fn (.func qu) [] []) (λp => !(p.fT==[])) h a b (λc=>by rw[qe];exact ND c h),lA,cS];rw[xr]
def oH(e:Ev):Int:=
 if(!la e || !(decide (0≤e.a5)&&decide (e.a5≤253402300799999)))=true then 2
 else if e.a6<1∨Int.tmod 5040 e.a6≠0 then 21
 else if iL e 2000≠0 then iL e 2000
 else if 32<e.s7.length∨32<e.s8.length then 3
 else if(fE e.fs).1≠0 then(fE e.fs).1
 else if(fE e.fs).2≠e.fs then 19
 else if((fE e.fs).2.any λa=>decide (2000<a.2.length))=true then 3 else 0
theorem Ow(l:List (aG × aG)):(fE l).2.length≤l.length:=by
 unfold fE;split
 ·simp[-Qd]
 ·split
  ·split
   ·simp[-Qd]
   ·simp[-Qd,yl]
  ·simp[-Qd]
theorem Ov(l:List (aG × aG)):(fE l).2.length≤32:=by
 by_cases a:32<l.length
 ·simp[-Qd,fE,a]
 ·have:=Ow l;omega
theorem Nz(e:Ev)(h:Z)(ad:∀p:Z,∃d' h',R qv [e.fd] p=some (.bN [d',.int .i64 (fE e.fs).1],h')∧p.length≤h'.length∧(∀b,b<p.length→h'[b]?=p[b]?)∧((fE e.fs).1=0→iJ h' (fE e.fs).2 d')):R qt [.agg (cD e)] h=some (.int .i64 (oH e),h):=by
 apply Wp.val;have a:∀(i:Z) (d:Int),h.length≤i.length→(∀b,b<h.length→i[b]?=h[b]?)→scope h i (.int .i64 d)=some (.int .i64 d,h):=λi d aa ab=>jZ (by simp) (.int _ _) aa ab
 have P:=x9 e.a5 0 253402300799999 h;rw[Hj];simp only[yP,nM,O,bH,sk,D5,cS];have af:aC tab aF 5 (.aD (cD e))=some (.aD [.int .i64 e.a5,.int .i64 e.a6,.str e.s7,.str e.s8,e.fd]):=id rfl;have ag:aC tab aF 6 (.aD (cD e))=some (.aD [.int .i64 e.a6,.str e.s7,.str e.s8,e.fd]):=id rfl;have ah:aC tab aF 7 (.aD (cD e))=some (.aD [.str e.s7,.str e.s8,e.fd]):=id rfl;have ai:aC tab aF 8 (.aD (cD e))=some (.aD [.str e.s8,e.fd]):=id rfl;have aj:aC tab aF 9 (.aD (cD e))=some (.aD [e.fd]):=id rfl;unfold oH;generalize aq:la e=f;generalize ar:(decide (0≤e.a5)&&decide (e.a5≤253402300799999))=z at P ⊢;have first:∀{T:Type} (t:D→D × Z→D→Option T) (k:T→Prop),(∀S p x,p.2=h→x = .bool (!f || !z)→Wp (t S p x) k)→Wp ((ft .not (.bool f)).bind λc=>(gd c false (some (.aD [.int .i64 e.a5,.int .i64 e.a6,.str e.s7,.str e.s8,e.fd]))).bind λak=>(gd c false (aA tab h W ak)).bind λal=>(e7 c false h (R oO [al,.int .i64 0,.int .i64 253402300799999] h)).bind λQ=>(gd c false (ft .not Q.1)).bind λam=>(cP c (.bool true) am).bind λan=>t c Q an) k:=λt k I=>by
  cases f
  ·simp only[hd,iA,O,dC,fQ,reduceCtorEq,aR,cX,aM];exact I _ _ _ rfl rfl
  ·simp only[hd,fU,O,dC,fQ,aM,fD,P,cX,bA,aR];exact I _ _ _ rfl (by simp)
 simp only[af,ag,ah,ai,aj];refine first _ _ λS p x K ae=>?_
 subst ae;obtain⟨au,p⟩:=p;simp only at K;subst K;clear first
 simp only[aQ];by_cases A:(!f || !z)=true
 ·simp only[A,aM,a _ _ (aS _) (λ_ _=>rfl)];exact .some rfl
 simp only[A,aR,bA,fD,kp,mq,O,dN,iv,eM,u5,eC];by_cases l:e.a6<1
 ·simp only[l,nW,dJ,aM,dC,reduceCtorEq,aR,jn,O,cX,aQ,a _ _ (aS _) (λ_ _=>rfl)];exact .some rfl
 have B:¬e.a6=0:=by omega
 by_cases C:¬Int.tmod 5040 e.a6=0
 ·have m:=C;simp only[l,B,m,fw,iO,nK,dJ,cV,aM,dC,aR,bA,O,cX,aQ,fD,u5,eC,a _ _ (aS _) (λ_ _=>rfl)];exact .some rfl
 have m:Int.tmod 5040 e.a6=0:=lT.1 C;simp only[l,B,m,fw,gq,mC,cV,aM,dC,aR,bA,O,cX,aQ,fD,u5,eC,D6];generalize ao:iL e 2000=y;by_cases E:¬y=0
 ·have n:=E;simp only[n,fw,iO,dJ,aM,a _ _ (aS _) (λ_ _=>rfl)];exact .some rfl
 have n:y=0:=lT.1 E;subst n;simp only[fw,gq,cV,bA,aR,aM];by_cases o:32<e.s7.length
 ·have g:(32:Int)<(e.s7.length:Int):=by omega
  simp only[o,g,nW,dJ,aM,dC,reduceCtorEq,aR,jn,O,cX,aQ,a _ _ (aS _) (λ_ _=>rfl)];exact .some rfl
 have g:¬(32:Int)<(e.s7.length:Int):=by omega
 by_cases F:32<e.s8.length
 ·have q:(32:Int)<(e.s8.length:Int):=by omega
  simp only[o,g,F,q,nK,dJ,cV,aM,dC,aR,bA,O,kp,iv,eM,cX,a _ _ (aS _) (λ_ _=>rfl)];exact .some rfl
 have q:¬(32:Int)<(e.s8.length:Int):=by omega
 obtain⟨d',h',M,v,u,w⟩:=ad p;simp only[o,g,F,q,mC,cV,aM,dC,aR,bA,O,kp,iv,eM,cX,aQ,M,kh,j7,mX];have N:=Ov e.fs;generalize ap:fE e.fs=X at M w N;obtain⟨d,j⟩:=X;simp only at w N ⊢;by_cases G:¬d=0
 ·have r:=G;simp only[r,fw,iO,dJ,aM,a _ _ v u,aQ,eC,O];exact .some rfl
 have r:d=0:=lT.1 G;subst r;have L:=w rfl;have ac:iJ h' e.fs e.fd :=.inl e.hN;simp only[fw,gq,cV,bA,aR,aQ,eC,NG j e.fs d' e.fd h' L ac (by omega),O,hd,NH j d' h' L (by omega)];by_cases H:¬j=e.fs
 ·have s:=H;simp only[s,iO,cV,iA,aM,a _ _ v u,aQ,eC,O];exact .some rfl
 have s:j=e.fs:=lT.1 H;subst s;simp only[gq,dJ,fU,aR,bA,a _ _ v u,aQ,eC,O];split
 ·exact .some rfl
 ·exact .some rfl
theorem Ny(e:Ev)(h:Z)(a:e.fs.length≤20):R qt [.agg (cD e)] h=some (.int .i64 (oH e),h):=Nz e h λb=>NF e.fs e.fd b e.hN a
def lI(i:It):Int:=
 if i.r=[]then oH i.e
 else if 32<i.r.length then 3
 else if la i.e=false then 2
 else if iL i.e 60000=9∨iL i.e 60000=4∨iL i.e 60000=19 then iL i.e 60000
 else if i.e.a5≠0∨i.e.a6≠0∨i.e.s7≠[]∨i.e.s8≠[]∨i.e.fs.length≠0∨(i.e.ls.any λa => !(a.fT==[]))=true then 19 else 0
theorem Nx(i:It)(h:Z)(C:R qt [.agg (cD i.e)] h=some (.int .i64 (oH i.e),h)):R sx [.agg (aH i)] h=some (.int .i64 (lI i),h):=by
 have B:im 10 (.agg (cD i.e))=some (.aD (cD i.e)):=qd 10 _ rfl;have E:aC tab aF 4 (.aD (cD i.e))=some (.aD [i.e.ld,.int .i64 i.e.a5,.int .i64 i.e.a6,.str i.e.s7,.str i.e.s8,i.e.fd]):=id rfl;have F:aC tab aF 5 (.aD (cD i.e))=some (.aD [.int .i64 i.e.a5,.int .i64 i.e.a6,.str i.e.s7,.str i.e.s8,i.e.fd]):=id rfl;have G:aC tab aF 6 (.aD (cD i.e))=some (.aD [.int .i64 i.e.a6,.str i.e.s7,.str i.e.s8,i.e.fd]):=id rfl;have H:aC tab aF 7 (.aD (cD i.e))=some (.aD [.str i.e.s7,.str i.e.s8,i.e.fd]):=id rfl;have I:aC tab aF 8 (.aD (cD i.e))=some (.aD [.str i.e.s8,i.e.fd]):=id rfl;have K:aC tab aF 9 (.aD (cD i.e))=some (.aD [i.e.fd]):=id rfl;rw[Hi];simp only[yO,nM,O,Ck,sZ,Cl,sk,B,nw,cS];unfold lI;by_cases l:i.r=[]
 ·simp only[l,ns,aQ,aM,C,O]
 have x:(i.r==[])=false:=by simpa using l
 simp only[l,x,aQ,bA,aR,iv,O,eM];by_cases q:32<i.r.length
 ·have m:(32:Int)<(i.r.length:Int):=by omega
  simp only[q,m,dJ,aM]
 have m:¬(32:Int)<(i.r.length:Int):=by omega
 simp only[q,m,cV,bA,aR,D5,O,hd];cases L:la i.e
 ·simp only[iA,aQ,aM]
 simp only[fU,aQ,bA,jn,aR,D6,O,fY];generalize iL i.e 60000=k;by_cases a:k=9
 ·subst a;simp[-Qd]
 by_cases b:k=4
 ·subst b;simp[-Qd]
 by_cases c:k=19
 ·subst c;simp[-Qd]
 simp only[a,b,c,mC,cV,dC,aM,O,cX,aQ,bA,aR,F,G,H,I,K,E,fD,kp,mq,ko,eC];have f:(i.e.fs.length:Int)=0↔i.e.fs.length=0:=by omega
 have d:=NC i.e.ls i.e.ld h i.e.iK i.e.qL;generalize (i.e.ls.any λD => !(D.fT==[]))=w at d ⊢;by_cases s:¬i.e.a5=0
 ·simp only[a,b,c,fY,s,fw,gq,iO,nW,nK,qo,lP,dJ,cV,dC,fQ,ia,lF,reduceCtorEq,aM,aR,bA,jn,O,cX,aQ,fD,kp,mq,ko,eC,ox,jX i.e.hN,f,d,ns,fU,iA,mC]
 have g:i.e.a5=0:=lT.1 s;by_cases t:¬i.e.a6=0
 ·simp only[a,b,c,fY,g,t,fw,gq,iO,nW,nK,qo,lP,dJ,cV,dC,fQ,ia,lF,reduceCtorEq,aM,aR,bA,jn,O,cX,aQ,fD,kp,mq,ko,eC,ox,jX i.e.hN,f,d,ns,fU,iA,mC]
 have j:i.e.a6=0:=lT.1 t;by_cases o:¬i.e.s7=[]
 ·have y:(i.e.s7==[])=false:=by simpa using o
  simp only[a,b,c,fY,g,j,o,y,fw,gq,iO,nW,nK,qo,lP,dJ,cV,dC,fQ,ia,lF,reduceCtorEq,aM,aR,bA,jn,O,cX,aQ,fD,kp,mq,ko,eC,ox,jX i.e.hN,f,d,ns,fU,iA,mC]
 have n:i.e.s7=[]:=lT.1 o;by_cases p:¬i.e.s8=[]
 ·have z:(i.e.s8==[])=false:=by simpa using p
  simp only[a,b,c,fY,g,j,n,p,z,fw,gq,iO,nW,nK,qo,lP,dJ,cV,dC,fQ,ia,lF,reduceCtorEq,aM,aR,bA,jn,O,cX,aQ,fD,kp,mq,ko,eC,ox,jX i.e.hN,f,d,ns,fU,iA,mC]
 have u:i.e.s8=[]:=lT.1 p;by_cases v:¬i.e.fs.length=0
 ·simp only[a,b,c,fY,g,j,n,u,v,fw,gq,iO,nW,nK,qo,lP,dJ,cV,dC,fQ,ia,lF,reduceCtorEq,aM,aR,bA,jn,O,cX,aQ,fD,kp,mq,ko,eC,ox,jX i.e.hN,f,d,ns,fU,iA,mC]
 have A:i.e.fs.length=0:=lT.1 v;simp only[a,b,c,fY,g,j,n,u,A,fw,gq,iO,nW,nK,qo,lP,dJ,cV,dC,fQ,ia,lF,reduceCtorEq,aM,aR,bA,jn,O,cX,aQ,fD,kp,mq,ko,eC,ox,jX i.e.hN,f,d,ns,fU,iA,mC];cases w<;>simp[-Qd,d]
theorem Nw(i:It)(h:Z)(a:i.e.fs.length≤20):R sx [.agg (aH i)] h=some (.int .i64 (lI i),h):=Nx i h (Ny i.e h a)
def r6(h:Z)(l:List cL)(d:D):Prop:=aU 3 aY l d∨∃a,d = .S 3 a 0 l.length∧h[a]?=some (Ob.row bF 3 (l.map aY))
theorem Nd{h:Z}{l:List cL}{d:D}(a:r6 h l d):aV tab bB d=some (.int .i64 l.length):=by
 rcases a with a|⟨b,rfl,_⟩
 ·exact lK a
 ·exact CQ _ _ _ _
theorem CL{h:Z}{a k T z:Nat}{rows:List (List D)}{p:cL}(c:h[a]?=some (Ob.row T z rows))(b:rows[k]?=some (aY p)):aA tab h bF (.ptr a k 0)=some (.agg (aY p)):=by
 rw[CO,dW c,b];rfl
theorem Nc{h:Z}{l:List cL}{d:D}(a:r6 h l d)(i:Nat)(p:cL)(b:l[i]?=some p):∃c,aN tab bB d (.int .i64 i)=some c∧aA tab h bF c=some (.agg (aY p)):=by
 have k:=(aZ.1 b).1;rcases a with a|⟨j,rfl,f⟩
 ·exact⟨.aD (aY p),by rw[mm a];simp[-Qd,b],nH p h⟩
 ·have g:(l.map aY)[i]?=some (aY p):=by rw[dB,b];rfl
  have e:(0:Int)≤(i:Int)∧(i:Int)<(l.length:Int):=by omega
  exact⟨.ptr j i 0,by rw[s4];simp[-Qd,e],CL f g⟩
theorem LA(l:List cL)(d:D)(p:D)(j:cL→Bool)(h:Z)(A:r6 h l d)(C:l.length≤9223372036854775807)(s:∀x,fA R p [.agg (aY x)] h=some (.bool (j x),h)){u:Type}(k:bT→Option u)(X:Int→Option u)
   (y:∀v r,k (.ret,.int .i64 v::r,h)=X v) (z:∀r,k (.ext 0,r,h)=X (-1)):∀(i c:List cL),l=c++i→∀a b e f,
   (cH (lp d p (.int .i64 l.length)) [a,b,.int .i64 c.length,e,f] h).bind k=X (idx j c.length i):=by
 intro i
 induction i with
 | nil =>
  rintro c rfl a b e f;rw[iM];simp[-Qd,lp,z,idx]
 | cons g i F =>
  rintro c rfl a b e f;have E:IntKind.wrap .i64 ((c.length:Int)+1)=(c++[g]).length:=by
   rw[dF (by omega) (by simp at C;omega)];simp[-Qd]
  have t:(c.length:Int)<(c++g::i).length:=by simp;omega
  rw[iM];generalize q:c++g::i=w at *;have B:w[c.length]?=some g:=by rw[← q];exact qI _ _ _
  obtain⟨G,n,o⟩:=Nc A _ _ B;by_cases m:j g=true
  ·simp[-Qd,lp,n,o,t,s,m,y,idx]
  ·have:=F (c++[g]) (by simp[-Qd,← q]) a (.int .i64 c.length) (.bool true) (.bool (j g));simp only[← E]at this;simp[-Qd,lp,n,o,t,s,m,idx];simp[-Qd,m]at this;exact this
theorem M3(l:List cL)(d:D)(a:D)(b:cL→Bool)(h:Z)(c:r6 h l d)(g:l.length≤9223372036854775807)(f:∀x,fA R a [.agg (aY x)] h=some (.bool (b x),h)):
   R oN [d,a] h=some (.int .i64 (idx b 0 l),h):=by
 rw[Bk];simp only[uf,O,Nd c,bH];rw[show(0:Int)=(([]:List cL).length:Int)from rfl,LA l d a b h c g f _ (λe=>some (.int .i64 e,h)) (λe i=>by simp) (λi=>by simp) l [] rfl];rfl
theorem O6(l:List cL)(d:D)(h:Z)(p:aU 3 aY l d)(u:l.length≤1000000):∃d' h',R vy [d] h=some (d',h')∧h.length≤h'.length∧(∀f,f<h.length→h'[f]?=h[f]?) ∧
  ((l=[]∧aU 3 aY [] d')∨∃a,h.length≤a∧d' = .S 3 a 0 l.length∧h'[a]?=some (Ob.row bF 3 (l.map aY))):=by
 rw[He];rcases p with⟨rfl,rfl⟩|⟨b,rfl⟩
 ·exact⟨.J,h,by
    have e:U tab .eql bB .J .J=some (.bool true):=id rfl;simp[-Qd,ug,e],aS _,λ_ _=>rfl,.inl ⟨rfl,.J _ _⟩⟩
 ·obtain⟨g,h',k,q,s,r⟩:=AB (T:=tab) (t:=bB) (i:=nT) (j:=mJ) (h:=h) (id rfl) (id rfl) (id rfl) (by decide) (y :=.sl 3 b (l.map aY)) (lf _ _ _ _) (k4 (by have:mJ.gA=32:=rfl;rw[this,gi];omega) (by rw[gi];omega));have m:dM tab h bB bB (.sl 3 true []) (.sl 3 b (l.map aY))=some (g,h'):=k;have e:U tab .eql bB (.sl 3 b (l.map aY)) .J=some (.bool false):=id rfl;refine⟨g,h',?_,q,s,?_⟩
  ·simp only[ug,O,e,aQ,bA,aR,FZ,m,cS]
  ·rcases r with⟨rfl,c⟩|⟨rfl,c⟩|⟨a,n,rfl,o⟩
   ·have:l=[]:=by simpa using c
    exact .inl ⟨this,.inr ⟨true,rfl⟩⟩
   ·have:l=[]:=by simpa using c
    exact .inl ⟨this,.J _ _⟩
   ·exact .inr ⟨a,n,by rw[gi];rfl,o⟩
theorem xu{i:Type}(a:i→Bool):∀(l:List i) (n:Nat),(idx a n l = -1∧∀x∈l,a x=false)∨∃k,idx a n l=((n+k:Nat):Int)∧k<l.length∧(l.take (k+1)).filter (λx => !a x)=l.take k∧∃x∈l,a x=true
 |[],n =>.inl ⟨rfl,by simp⟩
 | x::r,n=>by
  by_cases b:a x=true
  ·exact .inr ⟨0,by simp[-Qd,idx,b],by simp,by simp[-Qd,b],x,by simp,b⟩
  ·have h:a x=false:=by simpa using b
   have g:idx a n (x::r)=idx a (n+1) r:=by simp[-Qd,idx,b]
   rcases xu a r (n+1)with⟨d,e⟩|⟨k,d,e,j,f,c,m⟩
   ·left;refine⟨by rw[g];exact d,λf c=>?_⟩;rcases eI.1 c with rfl|c
    ·exact h
    ·exact e f c
   ·right;refine⟨k+1,by rw[g,d];omega,by simpa using e,?_,f,by simp[-Qd,c],m⟩;rw[uM,ju,bE (by simp[-Qd,h]),j,uM]
theorem O8 (l:List cL) (w:D) (c:cL→Bool) (h:Z) (a:Nat) (B:h[a]?=some (Ob.row bF 3 (l.map aY))) (aw:l.length≤1000000) (P:∀x g,fA R w [.agg (aY x)] g=some (.bool (c x),g)) :
  ∃h' z,R sA [.S 3 a 0 l.length,w] h=some (.S 3 a 0 (l.filter λx => !c x).length,h')∧bW a h h'∧h'[a]?=some (Ob.row bF 3 ((l.filter λx => !c x).map aY++z)):=by
 suffices Wp (R sA [.S 3 a 0 l.length,w] h) (λM=>M.1 = .S 3 a 0 (l.filter λx => !c x).length∧bW a h M.2∧∃z,M.2[a]?=some (Ob.row bF 3 ((l.filter λx => !c x).map aY++z))) by
  obtain⟨⟨x,h'⟩,o,rfl,y,z,G⟩:=this;exact⟨h',z,o,y,G⟩
 have ax:=(aZ.1 B).1;have az:∀(g:Z) (C:D),bW a h g→True:=λ_ _ _=>trivial
 rw[Hl];simp only[yR,O,bH,M3 l _ w c h (.inr ⟨a,rfl,B⟩) (by omega) (λx=>P x h),fY,cS];rcases xu c l 0 with⟨o,y⟩|⟨v,o,y,G,_⟩
 ·have ae:l.filter (λx => !c x)=l:=by
    rw[pR];intro x ao;simp[-Qd,y x ao]
  simp only[o,dJ,aQ,aM,ae];exact .some ⟨rfl,.refl _ _,[],by simpa using B⟩
 ·rw [cT]at o;have ai:¬((v:Int) = -1):=by omega
  have am:=ig v (by omega);simp only[o,ai,cV,aQ,bA,aR,dV,am,O];refine Wp.loop (λn E g=>∃(i j:Nat) (q s u:D) (b:List cL),n+j=l.length∧E=[.int .i64 i,.int .i64 j,q,s,u]∧b.length=l.length∧i<j∧g[a]?=some (Ob.row bF 3 (b.map aY))∧bW a h g∧b.take i=(l.take j).filter (λx => !c x)∧∀d,j≤d→b[d]?=l[d]?)
   (λr=>r.1 = .ext 0∧∃(i:Nat) (q s u C:D) (b:List cL),r.2.1=[.int .i64 i,q,s,u,C]∧b.length=l.length∧i<l.length∧r.2.2[a]?=some (Ob.row bF 3 (b.map aY))∧bW a h r.2.2∧b.take i=l.filter (λx => !c x))
   (l.length - (v+1)) ⟨v,v+1,.any,.any,.any,l,by omega,rfl,rfl,by omega,B,.refl _ _,G.symm,λ_ _=>rfl⟩ ?_ ?_
  ·rintro n E g ⟨i,j,q,s,u,b,ay,rfl,A,av,f,sm,p,H⟩;simp only[yS,bY,dI,O,bH,CQ,dN];refine Wp.eN ?_ ?_
   ·intro k;have k:j<l.length:=by
     have:(j:Int)<(l.length:Int):=by simpa using k
     omega
    have F:l[j]?=some l[j]:=cA k;have N:b[j]?=some l[j]:=by rw[H j (aS _)];exact F
    have aa:=ig j (by omega);have an:=ig i (by omega);have ag:(0:Int)≤(j:Int)∧(j:Int)<(l.length:Int):=by omega
    have af:(0:Int)≤(i:Int)∧(i:Int)<(l.length:Int):=by omega
    have K:(l.take (j+1)).filter (λx => !c x)=(l.take j).filter (λx => !c x)++[l[j]].filter (λx => !c x):=by
     rw[jz,F,j6];rfl
    generalize l[j]=x at F N K;have aq:(b.map aY)[j]?=some (aY x):=by rw[dB,N];rfl
    have ad:im 3 (.agg (aY x))=some (.aD (aY x)):=qd 3 _ rfl;simp only[s4,ag,gz,aM,cT,eS,O,CL f aq,ad,nH,P,hd];cases X:c x
    ·have ah:i<b.length:=by omega
     have ap:(b.map aY)[i]?=some (aY b[i]):=by rw[dB,cA ah];rfl
     simp only[iA,aQ,aM,af,gz,O,bH];refine yA f ap (by rfl) (by simp[-Qd,aY]) (by rfl) λau ab ar=>?_
     rw[show dK (aY b[i]) 0 (cG (.agg (aY x)))=aY x from id rfl,yg]at ab;simp only[O,dV,an,aa,lj,dE,bY];refine .some (.inl ⟨rfl,n - 1,by omega,i+1,j+1,_,_,_,b.set i x,by omega,rfl,by simpa using A,by omega,ab,sm.trans ar,?_,λd I=>?_⟩)
     ·rw[K,← p,jz,jR (by omega),List.take_set_of_le (aS _)];simp[-Qd,X]
     ·rw[iD (by omega)];exact H d (by omega)
    ·simp only[fU,aQ,bA,aR,O,dV,aa,lj,dE,bY];refine .some (.inl ⟨rfl,n - 1,by omega,i,j+1,_,_,_,b,by omega,rfl,A,by omega,f,sm,?_,λd I=>H d (by omega)⟩);rw[K,← p];simp[-Qd,X]
   ·intro k;have k:¬j<l.length:=by
     have:¬(j:Int)<(l.length:Int):=by simpa using k
     omega
    refine .some (.inr ⟨by simp,rfl,i,_,_,_,_,b,rfl,A,by omega,f,sm,?_⟩);rw[p,gW (by omega)]
  ·rintro⟨x,E,g⟩ ⟨rfl,i,q,s,u,C,b,rfl,A,Q,f,sm,p⟩;have ac:(l.filter λx => !c x).length=i:=by rw[← p];simp[-Qd];omega
   have ak:fO tab bB true false false [.S 3 a 0 l.length,.int .i64 i]=some (.S 3 a i (l.length - i)):=
    (MG (T:=tab) (t:=bB) (e:=bF) (z:=3) (i:=nT) (j:=mJ) (id rfl) (id rfl) (id rfl) (id rfl) (by decide) (r:=0) (n:=l.length) (m:=i) Q (il _)).trans (by rw[cT])
   have al:fO tab bB false true false [.S 3 a 0 l.length,.int .i64 i]=some (.S 3 a 0 i):=Dj (T:=tab) (t:=bB) (e:=bF) (z:=3) (i:=nT) (j:=mJ) (id rfl) (id rfl) (id rfl) (id rfl) (by decide) (Nat.le_of_lt Q);obtain⟨z,L⟩:=Gk (T:=tab) (t:=bB) (i:=nT) (j:=mJ) (h:=g) (n:=l.length - i) (r:=i) (id rfl) (id rfl) (id rfl) (by decide) f (by omega);have L:nx tab g bB (.S 3 a i (l.length - i))=some (.bN [],g.set a (Ob.row bF 3 ((b.map aY).take i++z))):=L;have aj:a<g.length:=(aZ.1 f).1;simp only[eW,dE,bY,dI,O,ak,L,al,cS];refine .some ⟨by rw[ac],sm.trans ⟨by simp,λd I=>iD (Ne.symm I)⟩,z,?_⟩;rw[jR aj,← rV,p]
structure pL (i:It) (m:Int) (j:It):Prop where
 r:j.r=i.r
 a0:j.e.a0=i.e.a0
 a1:j.e.a1=i.e.a1
 a3:j.e.a3=i.e.a3
 a5:j.e.a5=i.e.a5
 a6:j.e.a6=i.e.a6
 s7:j.e.s7=i.e.s7
 s8:j.e.s8=i.e.s8
 ls:j.e.ls=i.e.ls.filter (λl=>decide (m≤l.off))
 fs:j.e.fs=i.e.fs
 a2:∃x,(i.e.ls.filter λl=>decide (m≤l.off)).head?=some x∧j.e.a2=x.off
def gK(i:It)(m:Int)(b:Bool)(j:It):Prop:=
 (m≤i.e.a2∧b=true∧j=i)∨(¬m≤i.e.a2∧(i.e.a3≤m∨∀a∈i.e.ls,a.off<m)∧b=false∧j=xw)∨(¬m≤i.e.a2∧m<i.e.a3∧(∃a∈i.e.ls,m≤a.off)∧b=true∧pL i m j)
theorem gK.same{i j n:It}{m:Int}{o p:Bool}(h:gK i m o j)(h':gK i m p n):o=p∧hP j n=true:=by
 rcases h with⟨d,rfl,rfl⟩|⟨d,e,rfl,rfl⟩|⟨d,e,⟨l,k,q⟩,rfl,a⟩
 ·rcases h' with⟨c,rfl,rfl⟩|⟨c,_⟩|⟨c,_⟩
  ·exact⟨rfl,Ea _⟩
  ·exact absurd d c
  ·exact absurd d c
 ·rcases h' with⟨c,_⟩|⟨_,_,rfl,rfl⟩|⟨_,f,⟨l,k,q⟩,_⟩
  ·exact absurd c d
  ·exact⟨rfl,Ea _⟩
  ·rcases e with e|e
   ·omega
   ·have:=e l k;omega
 ·rcases h' with⟨c,_⟩|⟨_,f,rfl,rfl⟩|⟨_,_,_,rfl,b⟩
  ·exact absurd c d
  ·rcases f with f|f
   ·omega
   ·have:=f l k;omega
  ·obtain⟨v,s,t⟩:=a.a2;obtain⟨w,g,u⟩:=b.a2;rw[s]at g;injection g with g;subst g;exact⟨rfl,by simp[-Qd,hP,iy,a.r,b.r,a.a0,b.a0,a.a1,b.a1,t,u,a.a3,b.a3,a.a5,b.a5,a.a6,b.a6,a.s7,b.s7,a.s8,b.s8,a.ls,b.ls,a.fs,b.fs]⟩
theorem NA(l:cL)(n:Int)(h:Z):R sy [.agg (aY l),.aD [.int .i64 n]] h=some (.bool (decide (n≤l.off)),h):=by
 rw[Hk];simp[-Qd,yQ,aY]
theorem NB(l:cL)(n:Int)(h:Z):R sB [.agg (aY l),.aD [.int .i64 n]] h=some (.bool (decide (l.off<n)),h):=by
 rw[Hm];simp[-Qd,yT,aY]
theorem mr{g:Z}{a T z:Nat}{i:It}(b:g[a]?=some (Ob.row T z [aH i])):aA tab g aI (.ptr a 0 0)=some (.agg (aH i)):=qS b rfl
theorem Bu{h g:Z}{j:It}{b:Bool}(f:h.length≤g.length)(e:∀c,c<h.length→g[c]?=h[c]?):scope h g (.bN [.agg (aH j),.bool b])=some (.bN [.agg (aH j),.bool b],h):=by
 refine jZ ?_ (.bN _ λd a=>?_) f e
 ·simp only[JS,vV,iS,uI,JO];rw[k5 λd a=>s0 h.length g 1 j d a]
 ·simp at a;rcases a with rfl|rfl
  ·exact qP _ _
  ·constructor
theorem Nv(i:It)(m:Int)(h:Z)(P:i.e.ls.length≤1000000):∃j l,R sw [.agg (aH i),.int .i64 m] h=some (.bN [.agg (aH j),.bool l],h)∧gK i m l j:=by
 suffices Wp (R sw [.agg (aH i),.int .i64 m] h) (λB=>B.2=h∧∃j l,B.1 = .bN [.agg (aH j),.bool l]∧gK i m l j) by
  obtain⟨⟨b,ac⟩,z,rfl,j,l,rfl,A⟩:=this;exact⟨j,l,z,A⟩
 rw[Hh];simp only[yN,O,bH,Dy];rw[tU aI 11 h (aH i) rfl (by omega)];generalize L:aL h aI 11 [aH i]=x;have af:x.length=h.length+1:=by rw[← L];exact iN _ _ _ _
 have r:∀a,a<h.length→x[a]?=h[a]?:=λa f=>by rw[← L];exact k9 _ _ _ _ f
 have s:x[h.length]?=some (Ob.row aI 11 [aH i]):=by rw[← L];exact k8 _ _ _ _
 clear L;simp only[O,af];generalize M:aL x aI 11 [[.str [],.int .i64 0,.int .i64 0,.int .i64 0,.int .i64 0,.J,.int .i64 0,.int .i64 0,.str [],.str [],.J]]=o;have bm:o.length=h.length+2:=by rw[← M,iN];omega
 have ad:∀a,a<h.length+1→o[a]?=x[a]?:=λa f=>by rw[← M];exact k9 _ _ _ _ (by omega)
 have p:o[h.length+1]?=some (Ob.row aI 11 [[.str [],.int .i64 0,.int .i64 0,.int .i64 0,.int .i64 0,.J,.int .i64 0,.int .i64 0,.str [],.str [],.J]]):=by
  rw[← M,← af];exact k8 _ _ _ _
 replace s:=(ad h.length (by omega)).trans s;replace r:∀a,a<h.length→o[a]?=h[a]?:=λa f=>(ad a (by omega)).trans (r a f)
 clear M ad af;have t:o.row h.length 0=some [.str i.r,.int .i64 i.e.a0,.int .i64 i.e.a1,.int .i64 i.e.a2,.int .i64 i.e.a3,i.e.ld,.int .i64 i.e.a5,.int .i64 i.e.a6,.str i.e.s7,.str i.e.s8,i.e.fd]:=dW s;simp only[fD,lC,me,oL,qp,O,fh,oZ,t,hV,gN,iE,cT,qg];refine Wp.eN ?_ ?_
 ·intro q;have q:m≤i.e.a2:=by simpa using q
  simp only[mr s,O];refine ll p (by rfl) (by rfl) (by simp) (by rfl) λy g C=>?_
  replace g:y[h.length+1]?=some (Ob.row aI 11 [aH i]):=g;simp only[mr g,O,lN];rw[Bu (by have:=C.1;omega) (λa f=>(C.2 a (by omega)).trans (r a f))];exact .some ⟨rfl,i,true,rfl,.inl ⟨q,rfl,rfl⟩⟩
 ·intro q;have q:¬m≤i.e.a2:=by simpa using q
  rw[D4 i.e.ls i.e.ld (.fn (.func sy) [] [.aD [.int .i64 m]]) (λd=>decide (m≤d.off)) o i.e.iK i.e.qL (λb=>by rw[qe];exact NA b m o)];have ae:=xu (λd:cL=>decide (m≤d.off)) i.e.ls 0;generalize idx (λd:cL=>decide (m≤d.off)) 0 i.e.ls=av at ae;simp only[O,fh,t,hV,gN,iE,lA,dN];have ak:(i.e.a3≤m∨∀d∈i.e.ls,d.off<m)→Wp ((dZ tab aI [] []).bind λbj=>(bZ tab o aI (.ptr (h.length+1) 0 0) bj).bind λac=>(aA tab ac aI (.ptr (h.length+1) 0 0)).bind λF=>scope h ac (aE [F,.bool false])) (λB:D × Z=>B.2=h∧∃j l,B.1 = .bN [.agg (aH j),.bool l]∧gK i m l j):=λa4=>by
   simp only[FR,O];refine ll p (by rfl) (by rfl) (by simp) (by rfl) λy g C=>?_
   replace g:y[h.length+1]?=some (Ob.row aI 11 [aH xw]):=g;simp only[mr g,O,lN];rw[Bu (by have:=C.1;omega) (λa f=>(C.2 a (by omega)).trans (r a f))];exact .some ⟨rfl,xw,false,rfl,.inr (.inl ⟨q,a4,rfl,rfl⟩)⟩
  by_cases Q:i.e.a3≤m
  ·simp only[Q,dJ,dC,reduceCtorEq,aR,aM,jn,O,cX,aQ];exact ak (.inl Q)
  by_cases ao:av<0
  ·simp only[Q,ao,dJ,cV,dC,aM,bA,aR,dN,O,cX,aQ];refine ak (.inr λd P=>?_);rcases ae with⟨_,A⟩|⟨u,z,_⟩
   ·have:=A d P;simp at this;omega
   ·omega
  obtain⟨u,bo,ap,am⟩:∃u,av=((0+u:Nat):Int)∧u<i.e.ls.length∧∃d∈i.e.ls,m≤d.off:=by
   rcases ae with⟨z,_⟩|⟨u,z,A,_,bk,bh,bi⟩
   ·omega
   ·exact⟨u,z,A,bk,bh,by simpa using bi⟩
  simp only[Q,ao,cV,dC,aM,bA,aR,dN,O,cX,aQ,oZ,t,hV,gN,iE];obtain⟨bl,y,aj,ag,I,a7⟩:=O6 i.e.ls i.e.ld o i.e.iK P;rcases a7 with⟨az,_⟩|⟨k,bq,rfl,aq⟩
  ·rw[az]at ap;simp at ap
  obtain⟨al,bt,G,E,n⟩:=O8 i.e.ls (.fn (.func sB) [] [.aD [.int .i64 m]]) (λd=>decide (d.off<m)) y k aq P (λb ax=>by rw[qe];exact NB b m ax);have a8:(i.e.ls.filter λb => !decide (b.off<m))=i.e.ls.filter λb=>decide (m≤b.off):=by
   congr 1;funext b;by_cases au:b.off<m
   ·have:¬m≤b.off:=by omega
    simp[-Qd,au,this]
   ·have:m≤b.off:=by omega
    simp[-Qd,au,this]
  simp only[a8]at G n;generalize N:i.e.ls.filter (λb=>decide (m≤b.off))=c at G n;have bd:∃b T,c=b::T:=by
   obtain⟨d,be,ag⟩:=am;have:d∈c:=by rw[← N];exact fo.2 ⟨be,by simpa using ag⟩
   cases c with
   |nil=>simp at this
   |cons b T=>exact⟨b,T,rfl⟩
  have bp:c.length≤i.e.ls.length:=by rw[← N];exact uG _ _
  simp only[aj,G,O];replace s:=((E.2 h.length (by omega)).trans (I h.length (by omega))).trans s;replace p:=((E.2 (h.length+1) (by omega)).trans (I (h.length+1) (by omega))).trans p;replace r:∀a,a<h.length→al[a]?=h[a]?:=λa f=>((E.2 a (by omega)).trans (I a (by omega))).trans (r a f)
  have bn:h.length+2≤al.length:=by have:=E.1;omega
  clear t aj G E I aq ag;refine tY s (by rfl) (by rfl) (by simp[-Qd,aH,cD]) (by rfl) λab v w=>?_
  replace v:ab[h.length]?=some (Ob.row aI 11 [[.str i.r,.int .i64 i.e.a0,.int .i64 i.e.a1,.int .i64 i.e.a2,.int .i64 i.e.a3,.S 3 k 0 c.length,.int .i64 i.e.a5,.int .i64 i.e.a6,.str i.e.s7,.str i.e.s8,i.e.fd]]):=v;replace p:=(w.2 (h.length+1) (by omega)).trans p;replace n:=(w.2 k (by omega)).trans n;have t:ab.row h.length 0=some [.str i.r,.int .i64 i.e.a0,.int .i64 i.e.a1,.int .i64 i.e.a2,.int .i64 i.e.a3,.S 3 k 0 c.length,.int .i64 i.e.a5,.int .i64 i.e.a6,.str i.e.s7,.str i.e.s8,i.e.fd]:=dW v;obtain⟨b,T,ah⟩:=bd;have bc:(0:Int)≤0∧(0:Int)<(c.length:Int):=by rw[ah];simp[-Qd]
  have ar:ab.row k 0=some [.int .i64 b.off,.int .i64 b.len,.str b.fT]:=by rw[dW n,ah];rfl
  simp only[O,oZ,t,hV,gN,iE,s4,bc,gz,aM,cT,Int.toNat_zero,kj,fh,ar];refine kB v (by rfl) (by rfl) (by simp) (by rfl) λay aw X=>?_
  replace v:ay[h.length]?=some (Ob.row aI 11 [[.str i.r,.int .i64 i.e.a0,.int .i64 i.e.a1,.int .i64 b.off,.int .i64 i.e.a3,.S 3 k 0 c.length,.int .i64 i.e.a5,.int .i64 i.e.a6,.str i.e.s7,.str i.e.s8,i.e.fd]]):=aw;replace w:=w.trans X;replace p:=(X.2 (h.length+1) (by omega)).trans p;replace n:=(X.2 k (by omega)).trans n;clear aw X t ar;simp only[qS v rfl,O];refine ll p (by rfl) (by rfl) (by simp) (by rfl) λH g ai=>?_
  replace g:H[h.length+1]?=some (Ob.row aI 11 [[.str i.r,.int .i64 i.e.a0,.int .i64 i.e.a1,.int .i64 b.off,.int .i64 i.e.a3,.S 3 k 0 c.length,.int .i64 i.e.a5,.int .i64 i.e.a6,.str i.e.s7,.str i.e.s8,i.e.fd]]):=g;replace n:=(ai.2 k (by omega)).trans n;simp only[qS g rfl,O,lN];have bg:aU 3 aY c (.sl 3 false (c.map aY)) :=.mk _ _ _ _;have bb:bP h.length H 2 (.S 3 k 0 c.length) = .sl 3 false (c.map aY):=by
   rw[B9 (by omega) n,gN,rX (by simp),k5 λbr bf=>by
    obtain⟨aa,_,rfl⟩:=eJ.1 bf;exact k5 λF K=>qU _ _ _ aa F K]
  have ba:bP h.length H 2 i.e.fd=i.e.fd:=tI i.e.hN (λaa _=>vu _ H _ aa);generalize an:(⟨i.r,⟨i.e.a0,i.e.a1,b.off,i.e.a3,c,.sl 3 false (c.map aY),i.e.a5,i.e.a6,i.e.s7,i.e.s8,i.e.fs,i.e.fd,i.e.hN,i.e.hl,bg,by omega⟩⟩:It)=j;have a9:pL i m j:=by subst an;exact⟨rfl,rfl,rfl,rfl,rfl,rfl,rfl,rfl,N.symm,rfl,b,by rw[N,ah];rfl,rfl⟩
  rw[jZ (d' :=.bN [.agg (aH j),.bool true]) (by subst an;simp[-Qd,aH,cD,ba,bb]) (.bN _ λF K=>by
   simp at K;rcases K with rfl|rfl
   ·exact qP _ _
   ·constructor) (by have:=w.1;have:=ai.1;omega) (λa f=>((ai.2 a (by omega)).trans (w.2 a (by omega))).trans (r a f))]
  exact .some ⟨rfl,j,true,rfl,.inr (.inr ⟨q,by omega,am,rfl,a9⟩)⟩
theorem A1:∀(a b:aG),Lib.compareBytes a b = - Lib.compareBytes b a
 |[],[]=>rfl
 |[],_::_=>rfl
 |_::_,[]=>rfl
 | x::a,y::b=>by
  have f:=A1 a b;simp only[Lib.compareBytes];by_cases c:x<y
  ·have d:¬y<x:=by
     have:=uY.1 c;intro e;have:=uY.1 e;omega
   simp[-Qd,c,d]
  ·by_cases d:y<x
   ·simp[-Qd,c,d]
   ·simp[-Qd,c,d,f]
theorem FF{l:List (aG × aG)}(h:rG l):nS l=l:=by
 have j:∀a,dn cF 0 a l=l:=λa=>by
  cases a with
  |zero=>rfl
  | succ a =>
   unfold dn;split
   ·rename_i d e m n;split
    ·rename_i i;exfalso;have f:=(h a e d n m).1;have p:=(A0 e.1 d.1).2 f;have q:=A1 d.1 e.1;have g:=i.2;unfold cF at g;omega
    ·rfl
   ·rfl
 have k:∀b c,iu cF 0 c b l=l:=λb=>by
  induction b with
  |zero=>intro c;rfl
  |succ b o=>intro c;unfold iu;rw[j];exact o _
 exact k _ _
theorem AD:∀{l:List (aG × aG)},rG l→ly l=false
 |[],_=>rfl
 |[_],_=>rfl
 | x::y::r,h=>by
  unfold ly;have a:=(h 0 x y rfl rfl).2;have b:(y.1==x.1)=false:=by simp;exact λc=>a c.symm
  rw[b,rH];exact AD λf g i d e=>h (f+1) g i d e
theorem FE{l:List (aG × aG)}(h:rG l)(d:l.length≤32)(c:∀p∈l,jj p.1=true):fE l=(0,l):=by
 have a:¬32<l.length:=by omega
 have b:l.all (λp=>jj p.1)=true:=ff.2 c;simp only[fE,a,aR,b,aM,FF h,AD h,bA]
end Go.Proofs.YtinlnkhheafjaaaDoor
namespace Go.Eng
abbrev uK:=@List.not_mem_nil
abbrev Ah:=@List.pairwise_iff_getElem
end Go.Eng
namespace Go.Proofs.YtinlnkhheafjaaaDoor
open Go.Eng Go.Pi
open Option renaming bind_some → Qd
theorem C1(b m:Int)(g:200≤m)(j:b≤60000):∀(d:List cL) (a:Int),0≤a→fj a d b→mw b m a d=0
 |[],a,_,_=>rfl
 | l::r,a,q,h=>by
  obtain⟨e,h2,o,p,c⟩:=h;have s:=k6 r _ _ c;have k:IntKind.wrap .i64 (b - a)=b - a:=dF (by omega) (by omega);have n:IntKind.wrap .i64 (a+l.len)=a+l.len:=dF (by omega) (by omega);unfold mw;rw[bE,bV (by omega),n]
  ·exact C1 b m g j r _ (by omega) c
  ·rw[k];refine⟨e,by omega,by omega,λf=>?_⟩;obtain⟨i,t⟩:=f;subst i;have c:a+l.len=b:=c;omega
theorem Lo{e:Ev}(m:Int)(f:200≤m)(c:0≤e.a2)(g:e.a3≤60000)(h:1≤e.ls.length)(i:e.ls.length≤40)(d:fj e.a2 e.ls e.a3):iL e m=0:=by
 have a:¬e.ls.length=0:=by omega
 have b:¬40<e.ls.length:=by omega
 simp only[iL,a,b,aR];exact C1 _ _ f g _ _ c d
theorem Mz{l:List (aG × aG)}(h:MF l):rG l:=by
 have i:jY.Pairwise λc d=>Op.bytesLess c d=true∧c≠d:=by decide
 have:=i.sublist h.1;rw[Ah]at this;intro e j k a b;obtain⟨f,a⟩:=aZ.1 a;obtain⟨g,b⟩:=aZ.1 b;have:=this e (e+1) (by simpa using f) (by simpa using g) (by omega);simpa[-Qd,a,b]using this
theorem MC{l:List (aG × aG)}(h:MF l):fE l=(0,l):=by
 have e:l.length≤4:=by
  have:=h.1.length_le;simpa using this
 refine FE (Mz h) (by omega) λa c=>?_
 have b:a.1∈jY:=h.1.subset (eJ.2 ⟨a,c,rfl⟩);exact(show ∀d∈jY,jj d=true by decide) _ b
theorem MA{l:List (aG × aG)}(h:MF l):l.length≤4:=by
 have:=h.1.length_le;simpa using this
structure yH (e:Ev):Prop where
 h0:0≤e.a0
 h2:e.a0≤2
 f0:0≤e.a1
 f2:e.a1≤2
 a0:0≤e.a2
 b9:e.a3≤1000
 ch:fj e.a2 e.ls e.a3
 l1:1≤e.ls.length
 l3:e.ls.length≤3
 t0:0≤e.a5
 t9:e.a5≤255000
 wt:e.a6∈pa
 tr:e.s7∈pc
 st:e.s8∈pd
 fs:MF e.fs
theorem pH.k{e:Ev}(h:pH e):yH e:=⟨h.h0,h.h2,h.f0,h.f2,h.a0,by have:=k6 _ _ _ h.ch;have:=h.a9;have:=h.l3;omega,h.ch,h.l1,h.l3,h.t0,h.t9,h.wt,h.tr,h.st,h.fs⟩
theorem Md(zs:List Int)(d:D)(n:Int)(h:Z)(f:jr .u8 zs d)(q:0≤n)(v:n≤400)(m:∀z∈zs,0≤z∧z<256)(w:zs.length≤9223372036854775807):∃h',R qs [d,.int .i64 n] h=some (.ptr h.length 0 0,h')∧CM h' h.length∧h'.length=h.length+1∧∀b,b<h.length→h'[b]?=h[b]?:=by
 rw[sj];simp only[yK,O,bH,Cc f,eM];have l:∀a c,jr .u8 c a→c.length≤400→(∀z∈c,0≤z∧z<256)→∃h',((dZ tab iz [0] [a]).bind λu=>(pD iz 2 h u).bind λo=>some (aE [o.1],o.2))=some (.ptr h.length 0 0,h')∧CM h' h.length∧h'.length=h.length+1∧∀b,b<h.length→h'[b]?=h[b]?:=λa c e p k=>by
  rw[FU a (J1 e)];simp only[O];rw[tU iz 2 h [a,.int .i64 0] rfl (by omega)];exact⟨_,rfl,⟨a,c,0,k8 _ _ _ _,e,p,by omega,k⟩,iN _ _ _ _,λb r=>k9 _ _ _ _ r⟩
 by_cases g:n<(zs.length:Int)
 ·obtain⟨a,s,e⟩:=JY (T:=tab) (t:=iQ) (i:=yu) (j:=tO) (id rfl) (id rfl) (id rfl) (id rfl) f (k2 :=.i64) q (Int.le_of_lt g);simp only[g,dJ,aQ,aM,s,O,dE,bY];exact l a _ e (by simp;omega) λz k=>m z (gV k)
 ·simp only[g,cV,aQ,bA,aR,O,dE,bY];exact l d zs f (by omega) m
theorem C8:∀(c:List cL) (a b:Int),fj a c b→fj a (c.map blank) b
 |[],a,b,h=>h
 |x::r,a,b,h=>⟨h.1,h.2.1,h.2.2.1,by simp[-Qd,blank],C8 r _ b h.2.2.2.2⟩
structure Au (i:It):Prop where
 r:i.r∈qW
 h0:0≤i.e.a0
 h2:i.e.a0≤2
 f0:0≤i.e.a1
 f2:i.e.a1≤2
 a0:0≤i.e.a2
 b9:i.e.a3≤1000
 ch:fj i.e.a2 i.e.ls i.e.a3
 l1:1≤i.e.ls.length
 l3:i.e.ls.length≤3
 tx:∀l∈i.e.ls,l.fT=[]
 t0:i.e.a5=0
 w0:i.e.a6=0
 tr:i.e.s7=[]
 st:i.e.s8=[]
 fs:i.e.fs=[]
def iR(i:It):Prop:=(i.r=[]∧yH i.e)∨Au i
theorem iR.l3{i:It}(h:iR i):i.e.ls.length≤3:=by
 rcases h with⟨_,h⟩|h
 ·exact h.l3
 ·exact h.l3
theorem iR.fs{i:It}(h:iR i):i.e.fs.length≤4:=by
 rcases h with⟨_,h⟩|h
 ·exact MA h.fs
 ·rw[h.fs];simp[-Qd]
theorem iR.ch{i:It}(h:iR i):fj i.e.a2 i.e.ls i.e.a3∧0≤i.e.a2∧i.e.a3≤1000∧1≤i.e.ls.length:=by
 rcases h with⟨_,h⟩|h
 ·exact⟨h.ch,h.a0,h.b9,h.l1⟩
 ·exact⟨h.ch,h.a0,h.b9,h.l1⟩
theorem C9 (m:Int):∀(e:List cL) (a b:Int),fj a e b→(e.filter λl=>decide (m≤l.off))=[]∨∃x r,(e.filter λl=>decide (m≤l.off))=x::r∧fj x.off (x::r) b∧m≤x.off∧a≤x.off∧(∀l∈e,m≤l.off→x.off≤l.off)
 |[],a,b,h =>.inl rfl
 | l :: r, a,b,h=>by
  obtain⟨q,h2,s,t,g⟩:=h;have i:∀d∈r,a≤d.off:=by
   have y:∀(e:List cL) (a b:Int),fj a e b→∀d∈e,a≤d.off:=by
    intro e
    induction e with
    |nil=>intro a b _ d c;simp at c
    | cons B r w =>
     intro a b h d c;rcases eI.1 c with rfl|c
     ·exact Int.le_of_eq h.1.symm
     ·have:=w _ b h.2.2.2.2 d c;have:=h.2.1;omega
   intro d c;have:=y r _ b g d c;omega
  by_cases f:m≤l.off
  ·right;have u:(r.filter λl=>decide (m≤l.off))=r:=by
    rw[pR];intro d c;have:=i d c;simp[-Qd];omega
   refine⟨l,r,?_,⟨rfl,h2,s,t,by rw[q];exact g⟩,f,by omega,λd c _=>?_⟩
   ·rw[ju,bE (by simpa using f),u]
   ·rcases eI.1 c with rfl|c
    ·omega
    ·have:=i d c;omega
  ·have v:((l::r).filter λl=>decide (m≤l.off))=r.filter λl=>decide (m≤l.off):=by
     rw[ju,bV (by simpa using f)]
   rw[v];rcases C9 m r _ b g with h|⟨x,z,k,n,o,A,p⟩
   ·exact .inl h
   ·refine .inr ⟨x,z,k,n,o,by omega,λd c j=>?_⟩;rcases eI.1 c with rfl|c
    ·exact absurd j f
    ·exact p d c j
theorem pL.k{i j:It}{m:Int}(hi:iR i)(h:pL i m j):iR j:=by
 obtain⟨p,lG,sW,gm⟩:=hi.ch;obtain⟨y,b,g⟩:=h.a2;have q:=uG (λa:cL=>decide (m≤a.off)) i.e.ls;have x:=hi.l3;rcases C9 m _ _ _ p with c|⟨v,r,c,s,_,w,_⟩
 ·rw[c]at b;cases b
 rw[c]at b q;injection b with b;subst b;have f:j.e.ls=v::r:=h.ls.trans c;have t:∀a∈j.e.ls,a∈i.e.ls:=λa d=>by rw[h.ls]at d;exact(fo.1 d).1
 have l:fj j.e.a2 j.e.ls j.e.a3:=by rw[g,f,h.a3];exact s
 have n:1≤j.e.ls.length:=by rw[f];simp[-Qd]
 have o:j.e.ls.length≤3:=by rw[f];omega
 rcases hi with⟨u,hi⟩|hi
 ·exact .inl ⟨h.r.trans u,⟨by rw[h.a0];exact hi.h0,by rw[h.a0];exact hi.h2,by rw[h.a1];exact hi.f0,by rw[h.a1];exact hi.f2,by rw[g];omega,by rw[h.a3];exact sW,l,n,o,by rw[h.a5];exact hi.t0,by rw[h.a5];exact hi.t9,by rw[h.a6];exact hi.wt,by rw[h.s7];exact hi.tr,by rw[h.s8];exact hi.st,by rw[h.fs];exact hi.fs⟩⟩
 ·exact .inr ⟨by rw[h.r];exact hi.r,by rw[h.a0];exact hi.h0,by rw[h.a0];exact hi.h2,by rw[h.a1];exact hi.f0,by rw[h.a1];exact hi.f2,by rw[g];omega,by rw[h.a3];exact sW,l,n,o,λa d=>hi.tx a (t a d),by rw[h.a5];exact hi.t0,by rw[h.a6];exact hi.w0,by rw[h.s7];exact hi.tr,by rw[h.s8];exact hi.st,by rw[h.fs];exact hi.fs⟩
theorem gK.later{i a d:It}{p e:Int}{f:Bool}(m:p≤e)(g:gK i p false a)(h:gK i e f d):f=false:=by
 rcases g with⟨_,c,_⟩|⟨l,b,_,_⟩|⟨_,_,_,c,_⟩
 ·cases c
 ·rcases h with⟨c,_⟩|⟨_,_,rfl,_⟩|⟨_,o,⟨k,j,n⟩,_⟩
  ·omega
  ·rfl
  ·rcases b with b|b
   ·omega
   ·have:=b k j;omega
 ·cases c
theorem Mf{h:Z}{o:Nat}(am:CM h o):∃i h',R sv [.ptr o 0 0] h=some (.agg (aH i),h')∧CM h' o∧bW o h h'∧iR i:=by
 suffices Wp (R sv [.ptr o 0 0] h) (λv=>∃i,v.1 = .agg (aH i)∧CM v.2 o∧bW o h v.2∧iR i) by
  obtain⟨⟨f,h'⟩,a4,i,rfl,a7⟩:=this;exact⟨i,h',a4,a7⟩
 have bu:=am.lt;rw[Hg];simp only[yL,O,bH];generalize B:aL h aI 11 [[.str [],.int .i64 0,.int .i64 0,.int .i64 0,.int .i64 0,.J,.int .i64 0,.int .i64 0,.str [],.str [],.J]]=X;have e:X[h.length]?=some (Ob.row aI 11 [[.str [],.int .i64 0,.int .i64 0,.int .i64 0,.int .i64 0,.J,.int .i64 0,.int .i64 0,.str [],.str [],.J]]):=by rw[← B];exact k8 _ _ _ _
 have N:Sm h o X:=(Sm.refl am).app (by rw[← B,iN];omega) λb p=>by rw[← B];exact k9 _ _ _ _ p
 have bc:X.length=h.length+1:=by rw[← B];exact iN _ _ _ _
 clear B;obtain⟨a,br,ak,S,M,k⟩:=Mg N.cd;refine Wp.step ak ?_;clear ak;have ba:im 10 (.agg (cD a))=some (.aD (cD a)):=qd 10 _ rfl;simp only[O,ba];obtain⟨bv,s,al,G,q,bw,bx⟩:=gR S 4 (by omega) (by omega);refine Wp.step al ?_;clear al;have z:=(N.next S M).next G q;have ap:s.length=h.length+1:=by have:=M.1;have:=q.1;omega
 replace e:=(q.2 h.length (by omega)).trans ((M.2 h.length (by omega)).trans e);clear N M q S bc;have a9:dZ tab aI [1] [.agg (cD a)]=some (.agg (aH ⟨[],a⟩)):=id rfl;have az:∀(c:Z) (l:It),Sm h o c→c[h.length]?=some (Ob.row aI 11 [aH l])→iR l→Wp ((aA tab c aI (.ptr h.length 0 0)).bind λd=>scope h c (aE [d])) (λv:D × Z=>∃i,v.1 = .agg (aH i)∧CM v.2 o∧bW o h v.2∧iR i):=λc l r b K=>by
  simp only[mr b,O,cS];obtain⟨h',ae,ac,af⟩:=r.scope (d :=.agg (aH l)) (d' :=.agg (aH l)) (by
   rw[vV,k5 λd bb=>s0 h.length c 2 l d bb]) (qP _ _)
  rw[ae];exact .some ⟨l,rfl,ac,af,K⟩
 simp only[dN,O];refine Wp.eN ?_ ?_
 ·intro _;simp only[sk,O,a9];refine ll e (by rfl) (by rfl) (by simp) (by rfl) λj m g=>?_
  replace m:j[h.length]?=some (Ob.row aI 11 [aH ⟨[],a⟩]):=m;exact az j _ (z.app (kK g.1.symm) λb p=>g.2 b (by omega)) m (.inl ⟨rfl,k.k⟩)
 ·intro _;have bl:aC tab aF 0 (.aD (cD a))=some (.aD (cD a)):=id rfl;have bm:aC tab aF 1 (.aD (cD a))=some (.aD [.int .i64 a.a1,.int .i64 a.a2,.int .i64 a.a3,a.ld,.int .i64 a.a5,.int .i64 a.a6,.str a.s7,.str a.s8,a.fd]):=id rfl;have bn:aC tab aF 2 (.aD (cD a))=some (.aD [.int .i64 a.a2,.int .i64 a.a3,a.ld,.int .i64 a.a5,.int .i64 a.a6,.str a.s7,.str a.s8,a.fd]):=id rfl;have bo:aC tab aF 3 (.aD (cD a))=some (.aD [.int .i64 a.a3,a.ld,.int .i64 a.a5,.int .i64 a.a6,.str a.s7,.str a.s8,a.fd]):=id rfl;have ax:aC tab aF 4 (.aD (cD a))=some (.aD [a.ld,.int .i64 a.a5,.int .i64 a.a6,.str a.s7,.str a.s8,a.fd]):=id rfl;have av:∀c,aA tab c W (.aD (cD a))=some (.int .i64 a.a0):=λc=>id rfl
  simp only[bl,bm,bn,bo,ax,av,fD,O,FP];generalize H:aL s aF 10 [[.int .i64 0,.int .i64 0,.int .i64 0,.int .i64 0,.J,.int .i64 0,.int .i64 0,.str [],.str [],.J]]=j;have m:j[s.length]?=some (Ob.row aF 10 [[.int .i64 0,.int .i64 0,.int .i64 0,.int .i64 0,.J,.int .i64 0,.int .i64 0,.str [],.str [],.J]]):=by rw[← H];exact k8 _ _ _ _
  have ab:∀b,b<h.length+1→j[b]?=s[b]?:=λb p=>by rw[← H];exact k9 _ _ _ _ (by omega)
  have aq:j.length=h.length+2:=by rw[← H,iN];omega
  clear H;rw[ap]at m ⊢;have F:=z.app (by omega) λb p=>ab b (by omega)
  replace e:=(ab h.length (by omega)).trans e;refine rD m (by rfl) (by rfl) (by simp) (by rfl) λaa C g=>?_
  replace C:aa[h.length+1]?=some (Ob.row aF 10 [[.int .i64 a.a0,.int .i64 a.a1,.int .i64 a.a2,.int .i64 a.a3,.J,.int .i64 0,.int .i64 0,.str [],.str [],.J]]):=C;have P:=F.app (kK g.1.symm) λb p=>g.2 b (by omega)
  replace e:=(g.2 h.length (by omega)).trans e;have ar:aa.length=h.length+2:=g.1.trans aq;clear m ab F z g aq G ap;simp only[O,ko,lK a.iK];refine Wp.loop (λag T c=>∃t A f,∃n:Nat,T=[t,.int .i64 n,A]∧ag+n=a.ls.length∧Sm h o c∧h.length+2≤c.length∧c[h.length]?=some (Ob.row aI 11 [[.str [],.int .i64 0,.int .i64 0,.int .i64 0,.int .i64 0,.J,.int .i64 0,.int .i64 0,.str [],.str [],.J]])
    ∧ c[h.length+1]?=some (Ob.row aF 10 [[.int .i64 a.a0,.int .i64 a.a1,.int .i64 a.a2,.int .i64 a.a3,f,.int .i64 0,.int .i64 0,.str [],.str [],.J]])∧Own c (h.length+2) bF 3 (((a.ls.take n).map blank).map aY) f)
   (λx=>x.1 = .ext 0∧∃t A aj f,x.2.1=[t,A,aj]∧Sm h o x.2.2∧h.length+2≤x.2.2.length∧x.2.2[h.length]?=some (Ob.row aI 11 [[.str [],.int .i64 0,.int .i64 0,.int .i64 0,.int .i64 0,.J,.int .i64 0,.int .i64 0,.str [],.str [],.J]])
    ∧ x.2.2[h.length+1]?=some (Ob.row aF 10 [[.int .i64 a.a0,.int .i64 a.a1,.int .i64 a.a2,.int .i64 a.a3,f,.int .i64 0,.int .i64 0,.str [],.str [],.J]])∧Own x.2.2 (h.length+2) bF 3 ((a.ls.map blank).map aY) f) a.ls.length
   ⟨_,_,.J,0,rfl,rfl,P,by omega,e,C,Own.J _ _ _ _⟩ ?_ ?_
  ·clear e C P ar;rintro ag T c ⟨t,A,f,n,rfl,bt,r,I,e,w,y⟩;have an:=k.l3;simp only[yM,bY,dI,O,bH,dN];refine Wp.eN ?_ ?_
   ·intro u;have u:n<a.ls.length:=ji u;have ad:a.ls[n]?=some a.ls[n]:=cA u;have bf:=ig n (by omega);have au:(a.ls.take (n+1)).map blank=(a.ls.take n).map blank++[blank a.ls[n]]:=by
     rw[jz,ad,iF];rfl
    generalize a.ls[n]=bg at ad au;have r1:c.row (h.length+1) 0=some [.int .i64 a.a0,.int .i64 a.a1,.int .i64 a.a2,.int .i64 a.a3,f,.int .i64 0,.int .i64 0,.str [],.str [],.J]:=dW w;simp only[qp,oZ,r1,cT,hV,gN,iE,ax,ko,O,mm a.iK,pP,aM,eS,ad,gH];simp only[aY,BK,BL,fD,O,AG,AK];refine yy I y (lf _ _ _ _) (by simp;omega) λay bq aw bh Q _ _=>?_
    have ah:=po (Dx aw);simp only[O];refine tY ((Q (h.length+1) (by omega)).trans w) (by rfl) (by rw[ah.1];rfl) (by simp) ah.2 λs L E=>?_
    rw[ah.1]at L;replace L:s[h.length+1]?=some (Ob.row aF 10 [[.int .i64 a.a0,.int .i64 a.a1,.int .i64 a.a2,.int .i64 a.a3,ay,.int .i64 0,.int .i64 0,.str [],.str [],.J]]):=L;simp only[O,dV,bf];refine .some (.inl ⟨rfl,ag - 1,by omega,_,_,ay,n+1,rfl,by omega,(r.app bh λb p=>Q b (by omega)).app (kK E.1.symm) λb p=>E.2 b (by omega),by show h.length+2≤s.length;have:=E.1;omega,(E.2 h.length (by omega)).trans ((Q h.length (by omega)).trans e),L,?_⟩);rw[au,iF];exact aw.aX λb p _=>E.2 b (by omega)
   ·intro u;have u:a.ls.length≤n:=by
     have:¬(n:Int)<a.ls.length:=by simpa using u
     omega
    rw[gW u]at y;exact .some (.inr ⟨by simp,rfl,_,_,_,f,rfl,r,I,e,w,y⟩)
  ·clear e C P ar aa;rintro⟨bp,T,c⟩ ⟨rfl,t,A,aj,f,rfl,r,I,e,w,y⟩;simp only at r I e w y;simp only[eW,dE,O,Mc];refine kx r.cd qW 8 (by decide) (by decide) (by decide) λai s G q be _=>?_
   have z:=r.next G q;have bk:=(q.2 (h.length+1) (by omega)).trans w;replace e:=(q.2 h.length (by omega)).trans e;have bi:=y.same q (by omega);simp only[O,s9 bk rfl,s9 w rfl,FT,nu];refine ll e (by rfl) (by rfl) (by simp) (by rfl) λj m g=>?_
   replace m:j[h.length]?=some (Ob.row aI 11 [[.str ai,.int .i64 a.a0,.int .i64 a.a1,.int .i64 a.a2,.int .i64 a.a3,f,.int .i64 0,.int .i64 0,.str [],.str [],.J]]):=m;have F:=z.app (kK g.1.symm) λb p=>g.2 b (by omega)
   have bj:=bi.aX (h':=j) λb p _=>g.2 b (by omega)
   have bd:=nL (n0:=h.length) (n:=2) bj (by omega) (λt _=>qU _ j _ t);have an:=k.l3;simp only[qS m rfl,O,cS];generalize K:(⟨ai,⟨a.a0,a.a1,a.a2,a.a3,a.ls.map blank,bP h.length j 3 f,0,0,[],[],[],.J,aU.J _ _,by simp,bd,by simp;omega⟩⟩:It)=l;have a8:Au l:=by
    subst K;exact⟨be,k.h0,k.h2,k.f0,k.f2,k.a0,k.k.b9,C8 _ _ _ k.ch,by simpa using k.l1,by simpa using an,λbg ao=>by
     simp at ao;obtain⟨av,_,rfl⟩:=ao;rfl,rfl,rfl,rfl,rfl,rfl⟩
   obtain⟨h',ae,ac,af⟩:=F.scope (d :=.agg [.str ai,.int .i64 a.a0,.int .i64 a.a1,.int .i64 a.a2,.int .i64 a.a3,f,.int .i64 0,.int .i64 0,.str [],.str [],.J]) (d' :=.agg (aH l)) (by subst K;simp[-Qd,aH,cD]) (qP _ _);rw[ae];exact .some ⟨l,rfl,ac,af,.inr a8⟩
structure Aw where
 h:Int
 r:aG
 n:Int
def Gs(a b:aG):Int:=if Op.bytesLess a b=true then -1 else if a=b then 0 else 1
def gr:List Ev→List Ev→Bool
 |[],_=>true
 |_::_,[]=>false
 |x::a,y::b=>if iy x y=true then gr a b else gr (x::a) b
def sm(f:Aw→Int):List Aw→Int
 |[]=>0
 |t::r=>f t+sm f r
theorem s3(i:It):(D.agg (aH i)).fk=true:=by
 have a:=tJ i.e.iK;have b:=tJ i.e.hN;have f:(D.agg (aH i)) = .agg [.str i.r,.int .i64 i.e.a0,.int .i64 i.e.a1,.int .i64 i.e.a2,.int .i64 i.e.a3,i.e.ld,.int .i64 i.e.a5,.int .i64 i.e.a6,.str i.e.s7,.str i.e.s8,i.e.fd]:=rfl;rw[f];generalize i.e.ld=c at a;generalize i.e.fd=d at b;cases c<;>first|(cases d<;>first|rfl|(simp[-Qd,D.one]at b))|(simp[-Qd,D.one]at a)
def num(l:List Int):Int:=l.foldl (λb a=>b*256+a) 0
def xV:Nat→List Int→List (List Int) × Nat
 |0,_=>([],0)
 | k+1,r=>if r.length<8∨(num (r.take 4)).toNat<1∨8388608<(num (r.take 4)).toNat∨r.length - 8<(num (r.take 4)).toNat∨num ((r.drop 4).take 4)≠Gv (r.take 4++(r.drop 8).take (num (r.take 4)).toNat)then([],0)
  else((r.drop 8).take (num (r.take 4)).toNat::(xV k (r.drop (8+(num (r.take 4)).toNat))).1,8+(num (r.take 4)).toNat+(xV k (r.drop (8+(num (r.take 4)).toNat))).2)
def rd(r:List Int):List (List Int) × Nat:=xV r.length r
def nN:Nat→Int→List Int
 |0,_=>[]
 |n+1,v=>IntKind.wrap .u8 (v.fdiv (2 ^ (8*n)))::nN n v
theorem xU:∀(n:Nat) (v:Int),(nN n v).length=n
 |0,v=>rfl
 |n+1,v=>by simp[-Qd,nN,xU n v]
def ye(s:aG):List Int:=s.map λa=>(a.toNat:Int)
theorem Oc(s:aG):(ye s).length=s.length:=by simp[-Qd,ye]
def pI(n:Int):List Int:=nN 8 (IntKind.wrap .u64 n)
def pN(n:Nat):List Int:=nN 4 (IntKind.wrap .u64 n)
def pS(s:aG):List Int:=pN s.length++ye s
theorem Dz(n:Int):(pI n).length=8:=xU _ _
theorem DA(n:Nat):(pN n).length=4:=xU _ _
theorem xQ(s:aG):(pS s).length=4+s.length:=by simp[-Qd,pS,DA,Oc]
def xE(l:cL):List Int:=pI l.off++pI l.len++pS l.fT
def so(f:aG × aG):List Int:=pS f.1++pS f.2
def AH(i:It):List Int:=pS i.r++pI i.e.a0++pI i.e.a1++pI i.e.a2++pI i.e.a3++pN i.e.ls.length
def AJ(i:It):List Int:=AH i++(i.e.ls.map xE).flatten++pI i.e.a5++pI i.e.a6++pS i.e.s7++pS i.e.s8++pN i.e.fs.length
def qc(i:It):List Int:=AJ i++(i.e.fs.map so).flatten
def Gj(l:List Int):Int:=l.foldl (λa b=>(a*31+b) % 4294967291) 1
def Br(i:It):List Int:=nN 4 (IntKind.wrap .u64 (((qc i).length:Int)+4))++qc i
def encI(i:It):List Int:=Br i++nN 4 (Gj (Br i))
theorem vq{b:Type}(f:b→List Int)(m:Nat):∀(l:List b),(∀a∈l,(f a).length≤m)→(l.map f).flatten.length≤l.length*m
 |[],_=>by simp
 | a::l,h=>by
  have e:=h a (by simp);have g:=vq f m l λc d=>h c (by simp[-Qd,d])
  simp only[iS,jv,gh,eF,Nat.succ_mul];omega
theorem kv{h:Z}{n0 e z:Nat}{rows:List (List D)}{d:D}(i:Own h n0 e z rows d){b:Nat}(g:d.eH b):h[b]?=some (.row e z rows):=by
 obtain⟨m,k,rfl⟩:=g;rcases i with⟨a,_⟩|⟨l,j,a,f⟩
 ·cases a
 ·injection a with _ c;subst c;exact f
def jk(r:aG)(a b c d:Int)(h:D)(e f:Int)(i j:aG)(g:D):List D:=[.str r,.int .i64 a,.int .i64 b,.int .i64 c,.int .i64 d,h,.int .i64 e,.int .i64 f,.str i,.str j,g]
structure RI where
 r:aG
 a0:Int
 a1:Int
 a2:Int
 a3:Int
 ls:List cL
 a5:Int
 a6:Int
 t7:aG
 t8:aG
 fs:List (aG × aG)
def RI.row(x:RI)(b a:D):List D:=jk x.r x.a0 x.a1 x.a2 x.a3 b x.a5 x.a6 x.t7 x.t8 a
def fW(n:Int):Prop := -9223372036854775808≤n∧n<9223372036854775808
structure Ai (l:cL):Prop where
 o:fW l.off
 n:fW l.len
 t:l.fT.length<4294967296
structure zX (i:It):Prop where
 r:i.r.length<4294967296
 a0:fW i.e.a0
 a1:fW i.e.a1
 a2:fW i.e.a2
 a3:fW i.e.a3
 nl:i.e.ls.length<4294967296
 ls:∀l∈i.e.ls,Ai l
 a5:fW i.e.a5
 a6:fW i.e.a6
 t7:i.e.s7.length<4294967296
 t8:i.e.s8.length<4294967296
 nf:i.e.fs.length<4294967296
 fs:∀p∈i.e.fs,p.1.length<4294967296∧p.2.length<4294967296
def bQ(i:It):RI:=⟨i.r,i.e.a0,i.e.a1,i.e.a2,i.e.a3,i.e.ls,i.e.a5,i.e.a6,i.e.s7,i.e.s8,i.e.fs⟩
def Dh(x:RI)(b a:D)(c:aU 3 aY x.ls b)(h2:aU 2 bC x.fs a)(d:x.ls.length≤9223372036854775807)(e:x.fs.length≤9223372036854775807):It:=⟨x.r,⟨x.a0,x.a1,x.a2,x.a3,x.ls,b,x.a5,x.a6,x.t7,x.t8,x.fs,a,h2,e,c,d⟩⟩
theorem ME(x:RI)(b a:D)(c:aU 3 aY x.ls b)(h2:aU 2 bC x.fs a)(d:x.ls.length≤9223372036854775807)(e:x.fs.length≤9223372036854775807):bQ (Dh x b a c h2 d e)=x:=rfl
def n3:It:=⟨[],⟨0,0,0,0,[],.J,0,0,[],[],[],.J,aU.J _ _,by simp,aU.J _ _,by simp⟩⟩
structure RG (hs:Int) (i:It):Prop where
 fs:i.e.fs.length≤20
 ok:lI i=0
 host:i.e.a0=hs
 r:(i.r==([42]:aG))=false
 bl:(qc i).length≤20000
 rd:zX i
theorem Nl{i j:It}(h:bQ i=bQ j):encI i=encI j∧lI i=lI j∧(∀b,RG b i→RG b j)∧hP i j=true:=by
 obtain⟨H,⟨c,e,g,l,x,v,n,p,K,M,t,r,z,B,D,F⟩⟩:=i;obtain⟨I,⟨d,f,k,m,y,w,o,q,L,N,u,s,A,C,E,G⟩⟩:=j;simp only[bQ,RI.mk.injEq]at h;obtain⟨rfl,rfl,rfl,rfl,rfl,rfl,rfl,rfl,rfl,rfl,rfl⟩:=h;refine⟨rfl,rfl,λb a=>⟨a.fs,a.ok,a.host,a.r,a.bl,⟨a.rd.r,a.rd.a0,a.rd.a1,a.rd.a2,a.rd.a3,a.rd.nl,a.rd.ls,a.rd.a5,a.rd.a6,a.rd.t7,a.rd.t8,a.rd.nf,a.rd.fs⟩⟩,?_⟩;simp[-Qd,hP,iy]
theorem Dc:∀(e:List cL) (a b:Int),fj a e b→0≤a→b≤1000000→∀l∈e,Ai l∧l.fT.length≤200
 |[],a,b,_,_,_,l,c=>by cases c
 | x::r,a,b,h,j,k,l,c=>by
  obtain⟨g1,g,i,f,d⟩:=h;have m:=k6 r _ _ d;rcases eI.1 c with rfl|c
  ·exact⟨⟨by unfold fW;omega,by unfold fW;omega,by omega⟩,f⟩
  ·exact Dc r _ _ d (by omega) (by omega) l c
theorem Oh{c:Type}(a b:List c)(x y:c)(n:Nat)(d:a.length=n):(a++x::b).set n y=a++y::b:=by
 subst d;rw[List.set_append_right _ _ (aS _)];simp[-Qd]
structure Rw where
 k:List aG
 kd:D
 hk:aU 1 (λs=>[D.str s]) k kd
 v8:k.length≤1000000
 n:List Int
 nd:D
 hn:aU 1 dH n nd
 PW:n.length≤1000000
 er:Int
def rwa:Rw:=⟨[],.J,.J _ _,by simp,[1],.sl 1 true [[.int .i64 1]],.inr ⟨true,rfl⟩,by simp,0⟩
def E1(e:Ev):Prop:=∀a∈e.fs,a.1.length≤9223372036854775807
structure lu (i:It):Prop where
 r:zX i
 b:(qc i).length≤20000
 e:lI i=0
theorem D7(l m:List It)(e f:D)(h:Z)(j:aU 11 aH l e)(q:aU 11 aH m f)(r:l.map bQ=m.map bQ)(K:l.length≤9000000000000000000):R oP [e,f] h=some (.bool true,h):=by
 apply Wp.val;have B:m.length=l.length:=by have:=fB List.length r;simpa using this.symm
 rw[HG];simp only[zg,O,eC,fw,gq,cV,bA,aR,k3 j,k3 q,B,aQ,bH];refine Wp.loop (λp g c=>c=h∧∃x y z,∃a:Nat,g=[x,.int .i64 a,y,z]∧p+a=l.length)
  (λv=>v.1 = .ext 0∧v.2.2=h) l.length ⟨rfl,_,_,_,0,rfl,rfl⟩ ?_ ?_
 ·rintro p g c ⟨rfl,x,y,z,a,rfl,I⟩;simp only[zh,bY,dI,O,bH,k3 j,dN];refine Wp.eN ?_ ?_
  ·intro i;have i:a<l.length:=ji i;have k:l[a]?=some l[a]:=cA i;have n:m[a]?=some m[a]:=cA (by omega);have o:bQ l[a]=bQ m[a]:=by
    have d:(l.map bQ)[a]?=some (bQ l[a]):=by rw[dB,k];rfl
    have A:(m.map bQ)[a]?=some (bQ m[a]):=by rw[dB,n];rfl
    rw[r,A]at d;injection d with d;exact d.symm
   generalize l[a]=b at k o;generalize m[a]=w at n o;have E:aN tab cN e (.int .i64 a)=some (.aD (aH b)):=by rw[oY j];simp[-Qd,k]
   have F:aN tab cN f (.int .i64 a)=some (.aD (aH w)):=by rw[oY q];simp[-Qd,n]
   have G:∀b:It,aA tab c aI (.aD (aH b))=some (.agg (aH b)):=λb=>id rfl
   have C:=ig a (by omega);have s:=N4 b w c;rw[(Nl o).2.2.2]at s;simp only[E,F,G,s,O,hd,fU,aQ,bA,aR,dV,C];exact .some (.inl ⟨rfl,p - 1,by omega,rfl,_,_,_,a+1,rfl,by omega⟩)
  ·intro _;exact .some (.inr ⟨by simp,rfl,rfl⟩)
 ·rintro⟨H,g,c⟩ ⟨t,u⟩;simp only at t u;subst t;subst u;simp only[eW,dE,O,cS];exact .some rfl
theorem Da(k:Int):∀(c:List cL) (a b:Int),fj a c b→fj (a+k) (c.map λl=>⟨l.off+k,l.len,l.fT⟩) (b+k)
 |[],a,b,h=>by show a+k=b+k;rw[show a=b from h]
 | l::r,a,b,h=>by
  obtain⟨d,h2,e,f,g⟩:=h;refine⟨by show l.off+k=a+k;rw[d],h2,e,f,?_⟩;have:=Da k r _ b g;show fj (a+k+l.len) _ _;rw[show a+k+l.len=a+l.len+k by omega];exact this
def ks(x:RI)(f k:Int):RI:=⟨x.r,x.a0,f,x.a2+k,x.a3+k,x.ls.map λa=>⟨a.off+k,a.len,a.fT⟩,x.a5,x.a6,x.t7,x.t8,x.fs⟩
theorem Dm{i j:It}(hi:iR i){f k:Int}(bb:0≤f)(bc:f≤2)(a9:0≤i.e.a2+k)(X:i.e.a3+k≤50000)(aa:bQ j=ks (bQ i) f k):lu j:=by
 obtain⟨F,⟨u,v,n,o,l,E,p,w,s,t,g,D,P,Q,R,T⟩⟩:=j;simp only[bQ,ks,RI.mk.injEq]at aa;obtain⟨H,aw,ax,ay,az,I,af,K,L,M,C⟩:=aa;have bf:=hi.l3;have aj:=hi.fs;obtain⟨ai,a6,a7,be⟩:=hi.ch;have x:=Da k _ _ _ ai;rw[← ay,← az,← I]at x;have a8:l.length=i.e.ls.length:=by rw[I];simp[-Qd]
 have bd:=k6 _ _ _ x;have ag:=Dc _ _ _ x (by omega) (by omega);have an:F.length≤32∧s.length≤32∧t.length≤32∧fW u∧fW v∧fW p∧fW w∧∀b∈g,b.1.length≤1000∧b.2.length≤1000:=by
  rw[H,aw,ax,af,K,L,M,C];rcases hi with⟨m,d⟩|d
  ·have y:=d.h0;have z:=d.h2;have ak:=d.t0;have al:=d.t9;have A:=(show ∀a∈pa,(-10000:Int)≤a∧a≤10000 by decide) _ d.wt;refine⟨by rw[m];simp[-Qd],(show ∀a∈pc,a.length≤32 by decide) _ d.tr,(show ∀a∈pd,a.length≤32 by decide) _ d.st,by unfold fW;omega,by unfold fW;omega,by unfold fW;omega,by unfold fW;omega,λb c=>⟨?_,(show ∀a∈pe,a.length≤1000 by decide) _ (d.fs.2 b c)⟩⟩;exact(show ∀a∈jY,a.length≤1000 by decide) _ (d.fs.1.subset (eJ.2 ⟨b,c,rfl⟩))
  ·have y:=d.h0;have z:=d.h2;have ak:=d.t0;have al:=d.w0;exact⟨(show ∀a∈qW,a.length≤32 by decide) _ d.r,by rw[d.tr];simp[-Qd],by rw[d.st];simp[-Qd],by unfold fW;omega,by unfold fW;omega,by unfold fW;omega,by unfold fW;omega,λb c=>by rw[d.fs]at c;cases c⟩
 obtain⟨r1,bg,bh,a0,a1,a4,a5,N⟩:=an;have ah:g.length≤4:=by rw[C];exact aj
 refine⟨⟨by show F.length<_;omega,a0,a1,by unfold fW;show _≤n∧n<_;omega,by unfold fW;show _≤o∧o<_;omega,by show l.length<_;omega,λG q=>(ag G q).1,a4,a5,by show s.length<_;omega,by show t.length<_;omega,by show g.length<_;omega,λb c=>by have:=N b c;omega⟩,?_,?_⟩
 ·have y:=vq xE 220 l (λG q=>by
    have:=(ag G q).2;simp only[xE,gh,Dz,xQ];omega)
  have z:(g.map so).flatten.length≤g.length*2008:=vq so 2008 g (λb c=>by
   have:=N b c;simp only[so,gh,xQ];omega)
  have am:(g.length*2008:Nat)≤4*2008:=iV _ ah;have X:(l.length*220:Nat)≤3*220:=iV _ (by omega);simp only[qc,AJ,AH,gh,Dz,xQ,DA];omega
 ·have q:∀B:Int,200≤B→iL (⟨u,v,n,o,l,E,p,w,s,t,g,D,P,Q,R,T⟩:Ev) B=0:=λB ap=>Lo B ap (by show 0≤n;omega) (by show o≤60000;omega) (by show 1≤l.length;omega) (by show l.length≤40;omega) x
  rcases hi with⟨m,h⟩|h
  ·have y:=h.h0;have z:=h.h2;have am:=h.t0;have X:=h.t9;have A:=(show ∀a∈pa,¬a<1∧Int.tmod 5040 a=0 by decide) _ h.wt;have ad:=(show ∀a∈pc,¬32<a.length by decide) _ h.tr;have ac:=(show ∀a∈pd,¬32<a.length by decide) _ h.st;have ab:=MC h.fs;have au:(g.any λb=>decide (2000<b.2.length))=false:=by
    rw[List.any_eq_false];intro b c;have:=(N b c).2;simp[-Qd];omega
   rw[← K]at A;rw[← L]at ad;rw[← M]at ac;rw[← C]at ab;have aq:F=[]:=by rw[H];exact m
   have ar:(decide (0≤p)&&decide (p≤253402300799999))=true:=by simp;omega
   have c:la (⟨u,v,n,o,l,E,p,w,s,t,g,D,P,Q,R,T⟩:Ev)=true:=by
    simp[-Qd,la];omega
   simp[-Qd,lI,aq,oH,c,ar,A.1,A.2,q 2000 (by omega),ad,ac,ab,au]
  ·have m:=(show ∀a∈qW,a≠[]∧¬32<a.length by decide) _ h.r;rw[← H]at m;have y:=h.h0;have z:=h.h2;obtain rfl:p=0:=af.trans h.t0;obtain rfl:w=0:=K.trans h.w0;obtain rfl:s=[]:=L.trans h.tr;obtain rfl:t=[]:=M.trans h.st;obtain rfl:g=[]:=C.trans h.fs;have c:la (⟨u,v,n,o,l,E,0,0,[],[],[],D,P,Q,R,T⟩:Ev)=true:=by
    simp[-Qd,la];omega
   have ae:∀b∈l,b.fT=[]:=λb c=>by
    rw[I]at c;obtain⟨av,ao,rfl⟩:=eJ.1 c;exact h.tx av ao
   have ba:(l.any λb => !(b.fT==[]))=false:=by
    rw[List.any_eq_false];intro b c;simp[-Qd,ae b c]
   simp[-Qd,lI,m.1,m.2,c,q 60000 (by omega)];exact ae
def kt(k:Int)(l:cL):cL:=⟨l.off+k,l.len,l.fT⟩
theorem Oi(s:Int)(a:List cL)(i:Nat)(hi:i<a.length):(((a.take i).map (kt s)++a.drop i).map aY).set i (aY (kt s a[i]))=((a.take (i+1)).map (kt s)++a.drop (i+1)).map aY:=by
 have b:a[i]?=some a[i]:=cA hi;rw[j5 hi,jz,b];generalize a[i]=c;rw[iF,iS,Oh _ _ _ _ i (by simp;omega)];simp[-Qd]
theorem MZ{s:Int}{c:List cL}{x:D}{n0:Nat}{g:Z}(aa:Own g n0 bF 3 (c.map aY) x)(af:c.length≤1000)(P:∀l∈c, -9223372036854775808≤l.off+s∧l.off+s<9223372036854775808)(a b:D){E:Type}{t:bT→Option E}{Q:E→Prop}
  (k:∀g' i j m,g'.length=g.length→(∀e,¬x.eH e→g'[e]?=g[e]?)→Own g' n0 bF 3 ((c.map (kt s)).map aY) x→Wp (t (.ext 2,[i,j,m],g')) Q) :
  Wp ((cH (ux (.int .i64 s) x (.int .i64 c.length)) [a,.int .i64 0,b] g).bind t) Q:=by
 refine Wp.loop (λh r g'=>∃B C,∃d:Nat,r=[B,.int .i64 d,C]∧h+d=c.length∧g'.length=g.length∧(∀e,¬x.eH e→g'[e]?=g[e]?)∧Own g' n0 bF 3 (((c.take d).map (kt s)++c.drop d).map aY) x)
  (λh=>h.1 = .ext 2∧∃i j m,h.2.1=[i,j,m]∧h.2.2.length=g.length∧(∀e,¬x.eH e→h.2.2[e]?=g[e]?)∧Own h.2.2 n0 bF 3 ((c.map (kt s)).map aY) x) c.length ⟨_,_,0,rfl,by omega,rfl,λ_ _=>rfl,by simpa using aa⟩ ?_ ?_
 ·rintro h r g' ⟨B,C,d,rfl,ae,q,o,n⟩;simp only[ux,bY,dI,O,bH,dN];refine Wp.eN ?_ ?_
  ·intro f;have f:d<c.length:=ji f;have F:c[d]?=some c[d]:=cA f;have M:=Oi s c d f;have I:c[d]∈c:=na f;have p:(((c.take d).map (kt s)++c.drop d).map aY)[d]?=some (aY c[d]):=by
    rw[dB,iC (by simp;omega)];have:d - ((c.take d).map (kt s)).length=0:=by simp;omega
    rw[this,jw];simp[-Qd,F]
   have u:(((c.take d).map (kt s)++c.drop d).map aY).length=c.length:=by simp;omega
   obtain⟨ab,ag⟩:=P _ I;generalize c[d]=l at *;have T:IntKind.wrap .i64 (l.off+s)=l.off+s:=dF ab (by omega);have R:=ig d (by omega);rcases n with⟨_,K⟩|⟨y,L,rfl,v⟩
   ·rw[K]at p;cases p
   rw[u];have H:(0:Int)≤d∧(d:Int)<c.length:=⟨by omega,by omega⟩
   have X:aA tab g' W (.ptr y d 0)=some (.int .i64 l.off):=by rw[fh,dW v,p];rfl
   rw[u]at o;simp only[s4,H,gz,aM,O,cT,eS,kj,ni,X,dV,T];refine kB (kk:=d) (off:=0) (row:=aY l) v p (by rfl) (by simp[-Qd,aY]) (by rfl) λad z A=>?_
   have N:dK (aY l) 0 (cG (.int .i64 (l.off+s)))=aY (kt s l):=id rfl;rw[N,M]at z;simp only[O,R];refine .some (.inl ⟨rfl,h - 1,by omega,_,_,d+1,rfl,by omega,A.1.trans q,λe w=>?_,?_⟩)
   ·rw[A.2 e λG=>w ⟨3,c.length,by rw[G]⟩];exact o e w
   ·refine .inr ⟨y,L,?_,z⟩;have:(((c.take (d+1)).map (kt s)++c.drop (d+1)).map aY).length=c.length:=by simp;omega
    rw[this]
  ·intro f;have f:d=c.length:=by
    have:¬(d:Int)<c.length:=by simpa using f
    omega
   subst f;rw[pX,List.drop_length,uE]at n;exact .some (.inr ⟨by simp,rfl,_,_,_,rfl,q,o,n⟩)
 ·rintro⟨ac,r,g'⟩ ⟨rfl,i,j,m,rfl,q,o,n⟩;exact k g' i j m q o n
def lZ(g:Z)(n0:Nat)(x:RI)(row:List D):Prop:=∃b a,row=x.row b a∧Own g n0 bF 3 (x.ls.map aY) b∧aU 2 bC x.fs a∧x.ls.length≤1000∧x.fs.length≤1000
inductive jf (g:Z) (n0:Nat):List RI→List (List D)→Prop
 |nil:jf g n0 [] []
 |cons {x row xs rows}:lZ g n0 x row→jf g n0 xs rows→jf g n0 (x::xs) (row::rows)
theorem jf.snoc{g:Z}{n0:Nat}{x:RI}{row:List D}:∀{xs:List RI} {rows:List (List D)},jf g n0 xs rows→lZ g n0 x row→jf g n0 (xs++[x]) (rows++[row])
 |_,_,.nil,h =>.cons h .nil
 |_,_,.cons a b,h =>.cons a (b.snoc h)
theorem jf.len{g:Z}{n0:Nat}:∀{xs:List RI} {rows:List (List D)},jf g n0 xs rows→rows.length=xs.length
 |_,_,.nil=>rfl
 |_,_,.cons a b=>by simp[-Qd,b.len]
theorem lZ.aX{g g':Z}{n0:Nat}{x:RI}{row:List D}(h:lZ g n0 x row)(i:∀a l,n0≤a→a<g.length→g[a]?=some (.row bF 3 l)→g'[a]?=g[a]?):lZ g' n0 x row:=by
 obtain⟨k,d,e,b,f⟩:=h;exact⟨k,d,e,b.aX λa j c=>i a _ j (b.lt c).2 (kv b c),f⟩
theorem jf.aX{g g':Z}{n0:Nat}(d:∀c e,n0≤c→c<g.length→g[c]?=some (.row bF 3 e)→g'[c]?=g[c]?):∀{xs:List RI} {rows:List (List D)},jf g n0 xs rows→jf g' n0 xs rows
 |_,_,.nil =>.nil
 |_,_,.cons a b =>.cons (a.aX d) (b.aX d)
theorem lZ.fz{g:Z}{n0 m:Nat}(k:m≤n0){x:RI}{row:List D}(h:lZ g n0 x row):∃j:It,bQ j=x∧row.map (Pi.bP m g 2)=aH j:=by
 obtain⟨d,a,rfl,f,b,p,q⟩:=h;have l:=nL (n0:=m) (n:=1) f k (λe _=>qU _ g _ e);have i:Pi.bP m g 2 a=a:=tI (n:=1) b λr _ o c=>by
  simp only[bC,eI,uK,lP]at c;rcases c with rfl|rfl<;>rfl
 refine⟨Dh x (Pi.bP m g 2 d) a l b (by omega) (by omega),ME _ _ _ _ _ _ _,?_⟩;show[_,_,_,_,_,Pi.bP m g 2 d,_,_,_,_,Pi.bP m g 2 a]=_;rw[i];rfl
theorem jf.fz{g:Z}{n0 m:Nat}(d:m≤n0):∀{xs:List RI} {rows:List (List D)},jf g n0 xs rows→∃c:List It,c.map bQ=xs∧rows.map (λrow=>row.map (Pi.bP m g 2))=c.map aH
 |_,_,.nil=>⟨[],rfl,rfl⟩
 | _,_,.cons a b=>by
  obtain⟨j,e,h2⟩:=a.fz d;obtain⟨c,f,h⟩:=b.fz d;exact⟨j::c,by simp[-Qd,e,f],by simp[-Qd,h2,h]⟩
theorem MW{g:Z}{a m e z n:Nat}{rows:List (List D)}{d:D}(b:Own g a e z rows d)(i:m≤a):(rows=[]∧bP m g (n+1) d = .J)∨bP m g (n+1) d = .sl z false (rows.map λrow=>row.map (bP m g n)):=by
 rcases b with⟨rfl,f⟩|⟨h,j,rfl,c⟩
 ·exact .inl ⟨f,rfl⟩
 ·right;have:Nat.ble m h=true:=by rw[Nat.ble_eq];omega
  simp only[Pi.bP,this,c,gN,pX]
theorem Cn(o k:Nat)(f:Int)(a:0≤f)(d:f<3):aN tab gT (.ptr o k 0) (.int .i64 f)=some (.ptr o k f.toNat):=by
 have b:ma tab gT=some (fb,some 3):=id rfl;have c:fb.V=1:=id rfl;have e:f<((3:Nat):Int):=d;simp only[aN,b,c,a,e,gz,aM,Nat.zero_lt_one];simp[-Qd]
def jH(a:List Int):List D:=a.map (.int .i64 ·)
structure QA (h g k:Z) (o:Nat) (es:List Int) (row:List D):Prop where
 s:Sm h o k
 e:k[h.length]?=some (.row gT 3 [jH es])
 i:k[g.length]?=some (.row aI 11 [row])
 a:∀q,q<g.length→q≠o→q≠h.length→k[q]?=g[q]?
 hg:h.length<g.length
theorem QA.l{h g k:Z}{o:Nat}{b:List Int}{row:List D}(a:QA h g k o b row):g.length<k.length:=(aZ.1 a.i).1
theorem QA.next{h g k d:Z}{o:Nat}{f:List Int}{row:List D}(b:QA h g k o f row)(c:CM d o)(s:bW o k d):QA h g d o f row:=
 have p:=b.s.lt;have hg:=b.hg
 ⟨b.s.next c s,by rw[s.2 _ (by omega)];exact b.e,by rw[s.2 _ (by omega)];exact b.i,λl m j n=>by rw[s.2 l j];exact b.a l m j n,b.hg⟩
theorem QA.put{h g k d:Z}{o:Nat}{f:List Int}{row i:List D}(b:QA h g k o f row)(p:d[g.length]?=some (.row aI 11 [i]))(s:bW g.length k d):QA h g d o f i:=
 have n:=b.s.lt;have hg:=b.hg
 ⟨b.s.app (kK s.1.symm) λc q=>s.2 c (by omega),by rw[s.2 _ (by omega)];exact b.e,p,λc j l m=>by rw[s.2 c (by omega)];exact b.a c j l m,b.hg⟩
theorem QA.ends{h g k d:Z}{o:Nat}{j e:List Int}{row:List D}(b:QA h g k o j row)(p:d[h.length]?=some (.row gT 3 [jH e]))(s:bW h.length k d):QA h g d o e row:=
 have n:=b.s.lt;have hg:=b.hg
 ⟨b.s.app (kK s.1.symm) λc q=>s.2 c (by omega),p,by rw[s.2 _ (by omega)];exact b.i,λc l m f=>by rw[s.2 c f];exact b.a c l m f,b.hg⟩
theorem QA.grow{h g k d:Z}{o:Nat}{f:List Int}{row:List D}(c:QA h g k o f row)(l:k.length≤d.length)(s:∀b,b<g.length+1→d[b]?=k[b]?):QA h g d o f row:=
 have p:=c.s.lt;have hg:=c.hg
 ⟨c.s.app l λb q=>s b (by omega),by rw[s _ (by omega)];exact c.e,by rw[s _ (by omega)];exact c.i,λb j m n=>by rw[s b (by omega)];exact c.a b j m n,c.hg⟩
theorem Ig(a:List Int)(f v:Int)(b:a.length=3)(g:0≤f)(h:f<3):dK (jH a) f.toNat (cG (.int .i64 v))=jH (a.set f.toNat v):=by
 match a,b with
 | [c,d,e],_ =>
  have:f=0∨f=1∨f=2:=by omega
  rcases this with rfl|rfl|rfl<;>rfl
theorem Ie(a:List Int)(f:Int)(g:a.length=3)(h:0≤f)(i:f<3):∃e,a[f.toNat]?=some e∧((jH a).drop f.toNat).head?=some (.int .i64 e)∧e∈a:=by
 match a,g with
 | [b,c,d],_ =>
  have:f=0∨f=1∨f=2:=by omega
  rcases this with rfl|rfl|rfl
  ·exact⟨b,rfl,rfl,by simp⟩
  ·exact⟨c,rfl,rfl,by simp⟩
  ·exact⟨d,rfl,rfl,by simp⟩
def fm(r:Int):List D:=[.int .i64 r]
def eU(f:Int)(xs:List RI):Option Int:=xs.foldl (λb a=>if a.a1=f then some a.a3 else b) none
theorem CE(f:Int)(xs:List RI)(z:RI):eU f (xs++[z])=if z.a1=f then some z.a3 else eU f xs:=by simp[-Qd,eU]
def ij(z:RI):Prop:=∃(a:It) (b c:Int),iR a∧0≤b∧b≤2∧0≤a.e.a2+c∧a.e.a3+c≤50000∧z=ks (bQ a) b c
def gM(xs:List RI):Prop:=∀(c:Nat) (a:RI),xs[c]?=some a→∀b,eU a.a1 (xs.take c)=some b→b=a.a2
theorem gM.snoc{xs:List RI}{z:RI}(h:gM xs)(i:∀e,eU z.a1 xs=some e→e=z.a2):gM (xs++[z]):=λb j a e c=>by
 rcases e9 b xs.length with d|d
 ·rw[dY d]at a;rw[List.take_append_of_le_length (by omega)]at c;exact h b j a e c
 ·rw[iC d]at a;have f:b - xs.length=0:=by
   cases g:b - xs.length with
   |zero=>rfl
   |succ k=>rw[g]at a;cases a
  rw[f]at a;injection a with a;subst a;have:b=xs.length:=by omega
  rw[this,rX]at c
  ·exact i e c
  ·rfl
structure QP (h g:Z) (o:Nat) (es:List Int) (xs:List RI) (rows:List (List D)) (rs:List Int) (x y:D):Prop where
 s:Sm h o g
 e:g[h.length]?=some (.row gT 3 [jH es])
 e3:es.length=3
 eb:∀e∈es,0≤e∧e≤40+1000*xs.length
 q:jf g (h.length+1) xs rows
 x:Own g (h.length+1) aI 11 rows x
 y:Own g (h.length+1) W 1 (rs.map fm) y
 ok:∀z∈xs,∀j:It,bQ j=z→lu j
 rl:rs.length=xs.length
 lk:∀f e:Int,eU f xs=some e→0≤f→f<3→es[f.toNat]?=some e
 ct:gM xs
 fq:∀z∈xs,z.fs.length≤20
 dr:∀z∈xs,ij z
theorem QP.hg{h g:Z}{o:Nat}{a:List Int}{xs:List RI}{rows:List (List D)}{b:List Int}{x y:D}(P:QP h g o a xs rows b x y):h.length<g.length:=(aZ.1 P.e).1
theorem M1{h g:Z}{o:Nat}{m:List Int}{xs:List RI}{rows:List (List D)}{H:List Int}{x y:D}(P:QP h g o m xs rows H x y)(q:xs.length≤40){n:Int}(c9:0<n)(el:n≤1000){b5:D × Z}(bm:b5.1 = .ptr h.length 0 0)(cg ci cj ck cl cm cn ce cf:D){Q:bT→Prop}
  (k:∀g' cz z rows' r al am cp ac cq cr cs cu cw sj co,QP h g' o cz (xs++[z]) rows' (H++[r]) al am→Q (.aO,[al,am,.int .i64 (n - 1),cp,ac,cq,cr,cs,cu,cw,sj,co],g')) :
  Wp (rL (.ptr o 0 0) b5 [x,y,.int .i64 n,cg,ci,cj,ck,cl,cm,cn,ce,cf] g) Q:=by
 have c7:decide (n>0)=true:=ki c9;have en:=P.s.lt;have bk:=P.hg;simp only[rL,bY,dI,O,bH,eM,c7,aQ,aM];obtain⟨a,E,bg,cc,ak,l⟩:=Mf P.s.cd;obtain⟨bj,d8,d9,ep⟩:=l.ch;have ej:=k6 _ _ _ bj;have eq:=l.l3;have ed:=l.fs;simp only[bg,O];have ax:E.length=g.length:=ak.1;have n0:(aL E aI 11 [[.str [],.int .i64 0,.int .i64 0,.int .i64 0,.int .i64 0,.J,.int .i64 0,.int .i64 0,.str [],.str [],.J]])[g.length]?=some (.row aI 11 [aH n3]):=by rw[← ax];exact jG _ _ _ _
 have ai:∀b,b<g.length→(aL E aI 11 [[.str [],.int .i64 0,.int .i64 0,.int .i64 0,.int .i64 0,.J,.int .i64 0,.int .i64 0,.str [],.str [],.J]])[b]?=E[b]?:=λb j=>iW _ _ _ _ (by omega)
 have du:(aL E aI 11 [[.str [],.int .i64 0,.int .i64 0,.int .i64 0,.int .i64 0,.J,.int .i64 0,.int .i64 0,.str [],.str [],.J]]).length=g.length+1:=by rw[← ax];exact iN _ _ _ _
 rw[ax];generalize aL E aI 11 [[.str [],.int .i64 0,.int .i64 0,.int .i64 0,.int .i64 0,.J,.int .i64 0,.int .i64 0,.str [],.str [],.J]]=c1 at *;have an:QA h g c1 o m (aH n3):=⟨(P.s.next cc ak).app (by omega) λb j=>ai b (by omega),by rw[ai _ bk,ak.2 _ (by omega)];exact P.e,n0,λb d c4 eg=>by rw[ai b d,ak.2 b c4],bk⟩
 clear n0 ai du;refine ll (kk:=0) (off:=0) (row:=aH n3) (v :=.agg (aH a)) an.i (by rfl) (by rfl) (by exact aS _) (s3 _) λau b3 b8=>?_
 have ao:QA h g au o m (jk a.r a.e.a0 a.e.a1 a.e.a2 a.e.a3 a.e.ld a.e.a5 a.e.a6 a.e.s7 a.e.s8 a.e.fd):=an.put b3 b8;clear b3 b8 an bg;obtain⟨e,ee,ac,bf,b9,A,ad⟩:=gR ao.s.cd 3 (by omega) (by omega);have ap:=ao.next bf b9;clear ao b9 bf;simp only[ac,O,lC,vo];refine kB (kk:=0) (off:=0+1+1) (v :=.int .i64 e) ap.i (by rfl) (by rfl) (by simp[-Qd,jk]) (by rfl) λM b4 ca=>?_
 have I:QA h g M o m (jk a.r a.e.a0 e a.e.a2 a.e.a3 a.e.ld a.e.a5 a.e.a6 a.e.s7 a.e.s8 a.e.fd):=ap.put b4 ca;clear b4 ca ap ac;obtain⟨c,R,c5,c6⟩:=Ie m e P.e3 A ad;obtain⟨ea,ec⟩:=P.eb c c6;have dm:aA tab M W (.ptr h.length 0 e.toNat)=some (.int .i64 c):=by rw[fh,dW I.e];exact c5
 have dp:aA tab M W (.ptr g.length 0 (0+1+2))=some (.int .i64 a.e.a2):=by rw[fh,dW I.i];rfl
 have ds:aA tab M bB (.ptr g.length 0 (0+1+4))=some a.e.ld:=by rw[oZ,dW I.i];rfl
 have dg:IntKind.wrap .i64 (c - a.e.a2)=c - a.e.a2:=dF (by omega) (by omega);simp only[O,bm,Cn _ _ e A ad,dm,lC,me,qp,dp,ds,fM,dg];refine yy (n0:=M.length) (rows:=[]) (aS _) (.J _ _ _ _) (Oo _ a.e.iK) (by simp;omega) λu ef aj dk bn _ _=>?_
 rw[jx]at aj;have es:=I.l;have bd:=I.grow dk λb j=>bn b (by omega)
 have dt:aV tab bB u=some (.int .i64 a.e.ls.length):=by rw[Lj aj];simp[-Qd]
 have db:∀G∈a.e.ls,0≤G.off∧G.off≤1000:=by
  have dj:∀(ah:List cL) (ab L:Int),fj ab ah L→∀y∈ah,ab≤y.off∧y.off≤L:=by
   intro ah
   induction ah with
   |nil=>intro ab L _ y T;simp at T
   | cons z r dh =>
    intro ab L h y T;have eh:=k6 _ _ _ h.2.2.2.2;rcases eI.1 T with rfl|T
    ·have:=h.1;have:=h.2.1;omega
    ·have:=dh _ L h.2.2.2.2 y T;have:=h.2.1;omega
  intro G p;have:=dj _ _ _ bj G p;omega
 simp only[O,dt,bH];refine MZ (s:=c - a.e.a2) aj (by omega) (λG p=>by have:=db G p;omega) _ _ λav e0 ey ez et bo bz=>?_
 have K:QA h g av o m _:=bd.grow (by omega) λb j=>bo b λag=>by have:=(aj.lt ag).1;omega
 clear bo bd bn;have bt:aA tab av W (.ptr g.length 0 (0+1+2))=some (.int .i64 a.e.a2):=by rw[fh,dW K.i];rfl
 have bu:aA tab av W (.ptr g.length 0 (0+1+3))=some (.int .i64 a.e.a3):=by rw[fh,dW K.i];rfl
 have de:IntKind.wrap .i64 (a.e.a2+(c - a.e.a2))=a.e.a2+(c - a.e.a2):=dF (by omega) (by omega);have df:IntKind.wrap .i64 (a.e.a3+(c - a.e.a2))=a.e.a3+(c - a.e.a2):=dF (by omega) (by omega);simp only[O,eW,dE,bY,dI,lC,me,oL,qp,bt,bu,dV,de,df,bH];have ay:=po (Dx bz);refine tY (kk:=0) (off:=0+1+4) K.i (by rfl) (by rw[ay.1];rfl) (by simp[-Qd,jk]) ay.2 λc2 az a7=>?_
 rw[ay.1]at az;have aq:QA h g c2 o m (jk a.r a.e.a0 e a.e.a2 a.e.a3 u a.e.a5 a.e.a6 a.e.s7 a.e.s8 a.e.fd):=K.put az a7;have b0:=bz.same a7 (by omega);clear az a7 K bt bu
 try simp only[O,lC,me,oL]
 refine kB (kk:=0) (off:=0+1+2) (v :=.int .i64 (a.e.a2+(c - a.e.a2))) aq.i (by rfl) (by rfl) (by simp[-Qd,jk]) (by rfl) λc3 b6 a8=>?_
 have ar:QA h g c3 o m (jk a.r a.e.a0 e (a.e.a2+(c - a.e.a2)) a.e.a3 u a.e.a5 a.e.a6 a.e.s7 a.e.s8 a.e.fd):=aq.put b6 a8;have b1:=b0.same a8 (by omega);clear b6 a8 aq b0
 try simp only[O,lC,me,oL]
 refine kB (kk:=0) (off:=0+1+3) (v :=.int .i64 (a.e.a3+(c - a.e.a2))) ar.i (by rfl) (by rfl) (by simp[-Qd,jk]) (by rfl) λbi b7 a9=>?_
 have aa:QA h g bi o m (jk a.r a.e.a0 e (a.e.a2+(c - a.e.a2)) (a.e.a3+(c - a.e.a2)) u a.e.a5 a.e.a6 a.e.s7 a.e.s8 a.e.fd):=ar.put b7 a9;have b2:=b1.same a9 (by omega);clear b7 a9 ar b1;have bv:aA tab bi W (.ptr g.length 0 (0+1+3))=some (.int .i64 (a.e.a3+(c - a.e.a2))):=by rw[fh,dW aa.i];rfl
 simp only[O,lC,oL,bv,bm,Cn _ _ e A ad];refine kB (kk:=0) (off:=e.toNat) (v :=.int .i64 (a.e.a3+(c - a.e.a2))) aa.e (by rfl) (by rfl) (by simp only[jH,gi,P.e3];omega) (by rfl) λN a4 ba=>?_
 rw[Ig m e _ P.e3 A ad]at a4;have C:QA h g N o (m.set e.toNat (a.e.a3+(c - a.e.a2))) _:=aa.ends a4 ba;have dw:=b2.same ba (by omega);clear a4 ba aa b2 bv;have dq:aA tab N aI (.ptr g.length 0 0)=some (.agg (jk a.r a.e.a0 e (a.e.a2+(c - a.e.a2)) (a.e.a3+(c - a.e.a2)) u a.e.a5 a.e.a6 a.e.s7 a.e.s8 a.e.fd)):=qS C.i rfl;have c8:bI tab cN 1 [0] [.agg (jk a.r a.e.a0 e (a.e.a2+(c - a.e.a2)) (a.e.a3+(c - a.e.a2)) u a.e.a5 a.e.a6 a.e.s7 a.e.s8 a.e.fd)]=some (.sl 11 true [jk a.r a.e.a0 e (a.e.a2+(c - a.e.a2)) (a.e.a3+(c - a.e.a2)) u a.e.a5 a.e.a6 a.e.s7 a.e.s8 a.e.fd]):=id rfl;simp only[O,dq,c8];have ag:∀{i z:Nat} {rw:List (List D)} {w:D},Own g (h.length+1) i z rw w→Own N (h.length+1) i z rw w:=λt=>t.aX λb j l=>C.a b (t.lt l).2 (by omega) (by omega)
 have bb:=ag P.x;have d6:=ag P.y;have d1:=P.q.aX (g':=N) λb _ j dc _=>C.a b dc (by omega) (by omega)
 have ek:rows.length≤40:=by rw[P.q.len];exact q
 have eu:=C.l;refine yx (n0:=h.length+1) (by omega) bb (lf _ _ _ _) (by simp;omega) λal ae dx dl kc bp _=>?_
 have be:=C.s.app dl λb j=>kc b (by omega)
 have bw:∀{i z:Nat} {rw:List (List D)} {w:D} {X:Nat},Own N X i z rw w→i≠aI→Own ae X i z rw w:=λt aw=>t.aX λb j l=>bp b (t.lt l).2 λq=>by
  have d:=kv t l;rw[kv bb q]at d;injection d with d;injection d with d;exact aw d.symm
 have d7:=bw d6 (by decide);have dz:=bw dw (by decide);have d2:=d1.aX (g':=ae) λb H _ j d=>bp b j λq=>by
  rw[kv bb q]at d;injection d with d;injection d with d;exact absurd d (by decide)
 have cx:ae[h.length]?=some (.row gT 3 [jH (m.set e.toNat (a.e.a3+(c - a.e.a2)))]):=by rw[kc _ (by omega)];exact C.e
 obtain⟨r,gd,cy,cd,B,ew,ex⟩:=gR be.cd 4 (by omega) (by omega);have cb:=be.next cd B;simp only[O,cy,AM];have d5:=dx.same B (by omega);have bc:=d7.same B (by omega);have d0:=dz.same B (by omega);have d3:=d2.aX (g':=gd) λb H j _ _=>B.2 b (by omega)
 have ei:gd.length=ae.length:=B.1;have eo:H.length≤40:=by rw[P.rl];exact q
 refine EC (ys:=[fm r]) (n0:=h.length+1) (by omega) bc (lf _ _ _ _) (by simp;omega) λam af dy le bq br _=>?_
 have bx:∀{i z:Nat} {rw:List (List D)} {w:D} {X:Nat},Own gd X i z rw w→i≠W→Own af X i z rw w:=λt aw=>t.aX λb j l=>br b (t.lt l).2 λq=>by
  have d:=kv t l;rw[kv bc q]at d;injection d with d;injection d with d;exact aw d.symm
 have da:IntKind.wrap .i64 (n - 1)=n - 1:=dF (by omega) (by omega);simp only[O,fM,da];have d4:=d3.aX (g':=af) λb H _ j d=>br b j λq=>by
  rw[kv bc q]at d;injection d with d;injection d with d;exact absurd d (by decide)
 have dd:lZ af (h.length+1) (ks (bQ a) e (c - a.e.a2)) (jk a.r a.e.a0 e (a.e.a2+(c - a.e.a2)) (a.e.a3+(c - a.e.a2)) u a.e.a5 a.e.a6 a.e.s7 a.e.s8 a.e.fd):=
  ⟨u,a.e.fd,rfl,(bx d0 (by decide)).from (by omega),a.e.hN,by simp only[ks,bQ,gi];omega,by show a.e.fs.length≤1000;omega⟩
 refine .some (k af _ (ks (bQ a) e (c - a.e.a2)) _ r al am _ _ _ _ _ _ _ _ _ ⟨cb.app le λb j=>bq b (by omega),by rw[bq _ (by omega),B.2 _ (by omega)];exact cx,by simpa using P.e3,λi R=>?_,d4.snoc dd,bx d5 (by decide),by rw[iF];exact dy,λz f di bl=>?_,by simp[-Qd,P.rl],λbh i p c0 au=>?_,P.ct.snoc λi p=>?_,λz f=>?_,λz f=>?_⟩)
 ·rcases Ad R with R|rfl
  ·have:=P.eb i R;simp only[gh,eF,e8];omega
  ·simp only[gh,eF,e8];omega
 ·rcases eA.1 f with f|f
  ·exact P.ok z f di bl
  ·simp only[gx]at f;subst f;exact Dm l A (by omega) (by omega) (by omega) bl
 ·rw[CE]at p;split at p
  ·rename_i F;have F:e=bh:=F;subst F;injection p with p;rw[jR (by rw[P.e3];omega),← p];rfl
  ·rename_i F;have F:¬e=bh:=F;rw[iD (by omega)];exact P.lk _ _ p c0 au
 ·have:=P.lk e i p A (by omega);rw[R]at this;injection this with this;show i=a.e.a2+(c - a.e.a2)
  omega
 ·rcases eA.1 f with f|f
  ·exact P.fq z f
  ·simp only[gx]at f;subst f;show a.e.fs.length≤20;omega
 ·rcases eA.1 f with f|f
  ·exact P.dr z f
  ·simp only[gx]at f;subst f;exact⟨a,e,c - a.e.a2,l,A,by omega,by omega,by omega,rfl⟩
theorem DS(n0:Nat)(h:Z)(n:Nat)(r:Int):∀d∈fm r,bP n0 h n d=d:=by
 intro d a;simp only[fm,gx]at a;subst a;exact JP _ _ _ _ _
theorem Mh{h:Z}{o:Nat}(I:CM h o)(m:Nat)(cb:m≤40):∃(a:List It) (b:List Int) (p q:D) (h':Z),R mh [.ptr o 0 0,.int .i64 m] h=some (.bN [p,q],h')∧aU 11 aH a p∧aU 1 fm b q∧(∀i∈a,lu i)∧a.length≤m∧b.length=a.length∧(gM (a.map bQ)∧(∀i∈a,i.e.fs.length≤20)∧∀i∈a,ij (bQ i))∧CM h' o∧bW o h h':=by
 suffices Wp (R mh [.ptr o 0 0,.int .i64 m] h) (λP=>∃(a:List It) (b:List Int) (p q:D),P.1 = .bN [p,q]∧aU 11 aH a p∧aU 1 fm b q∧(∀i∈a,lu i)∧a.length≤m∧b.length=a.length∧(gM (a.map bQ)∧(∀i∈a,i.e.fs.length≤20)∧∀i∈a,ij (bQ i))∧CM P.2 o∧bW o h P.2) by
  obtain⟨⟨f,h'⟩,aq,a,b,p,q,rfl,bk⟩:=this;exact⟨a,b,p,q,h',aq,bk⟩
 have cc:=I.lt;have L:∀v:Int,0≤v→v<4→IntKind.wrap .i64 (10*v)=10*v:=λv ap aq=>dF (by omega) (by omega)
 rw[HF];simp only[zf,O,bH];obtain⟨y,b7,bg,ac,ay,a7,ba⟩:=gR I 4 (by omega) (by omega);simp only[bg,O,nv,L y a7 ba];obtain⟨z,b8,bh,ad,az,a8,bb⟩:=gR ac 4 (by omega) (by omega);simp only[bh,O,nv,L z a8 bb];obtain⟨A,u,an,be,a0,a9,bc⟩:=gR ad 4 (by omega) (by omega);have bl:dZ tab gT [0,1,2] [.int .i64 (10*y),.int .i64 (10*z),.int .i64 (10*A)]=some (.agg (jH [10*y,10*z,10*A])):=id rfl;simp only[an,O,nv,L A a9 bc,bl,bH];have N:u.length=h.length:=by have:=ay.1;have:=az.1;have:=a0.1;omega
 have a4:=(((Sm.refl I).next ac ay).next ad az).next be a0;have n0:(aL u gT 3 [[.int .i64 0,.int .i64 0,.int .i64 0]])[h.length]?=some (.row gT 3 [jH [0,0,0]]):=by rw[← N];exact jG _ _ _ _
 have bq:∀e,e<h.length→(aL u gT 3 [[.int .i64 0,.int .i64 0,.int .i64 0]])[e]?=u[e]?:=λe M=>iW _ _ _ _ (by omega)
 have cf:(aL u gT 3 [[.int .i64 0,.int .i64 0,.int .i64 0]]).length=h.length+1:=by rw[← N];exact iN _ _ _ _
 rw[N];generalize aL u gT 3 [[.int .i64 0,.int .i64 0,.int .i64 0]]=bi at *;have a5:=a4.app (g':=bi) (by omega) λe M=>bq e M
 refine Pk (kk:=0) (off:=0) (row:=jH [0,0,0]) (v :=.agg (jH [10*y,10*z,10*A])) n0 (by rfl) (by rfl) (by exact aS _) (by rfl) λbj Q a1=>?_
 have Q:bj[h.length]?=some (.row gT 3 [jH [10*y,10*z,10*A]]):=Q;have ab:=a5.app (kK a1.1.symm) λe M=>a1.2 e (by omega)
 have bo:IntKind.wrap .i64 ((m:Int)+1)=(m:Int)+1:=dF (by omega) (by omega);simp only[O,dV,bo];obtain⟨n,b9,ao,bf,a2,bv,bw⟩:=gR ab.cd ((m:Int)+1) (by omega) (by omega);have a6:=ab.next bf a2;simp only[O,ao];obtain⟨l,rfl⟩:∃l:Nat,n=l:=⟨n.toNat,by omega⟩
 have ca:l≤m:=by omega
 refine Wp.loop (λj G r=>∃f g ag ah ai aj ak al am ae af,∃t k x b,G=[f,g,.int .i64 (j:Nat),ag,ah,ai,aj,ak,al,am,ae,af]∧j+k.length=l∧QP h r o t k x b f g)
  (λe=>e.1 = .ext 0∧∃f g t k x b,Y 0 e.2.1=f∧Y 1 e.2.1=g∧k.length=l∧QP h e.2.2 o t k x b f g) l ⟨.J,.J,_,_,_,_,_,_,_,_,_,[10*y,10*z,10*A],[],[],[],rfl,by simp,⟨a6,by rw[a2.2 _ (by omega)];exact Q,rfl,λH ar=>?_,.nil,.J _ _ _ _,.J _ _ _ _,λaa C=>by simp at C,rfl,λb6 H bn=>(by simp[-Qd,eU]at bn),λn f F=>(by simp at F),λaa C=>(by simp at C),λaa C=>(by simp at C)⟩⟩ ?_ ?_
 ·simp only[eI,uK,lP]at ar;simp only[e8];rcases ar with rfl|rfl|rfl<;>omega
 ·rintro j G r ⟨f,g,ag,ah,ai,aj,ak,al,am,ae,af,t,k,x,b,rfl,ce,c⟩;by_cases ap:j=0
  ·subst ap;simp only[rL,bY,dI,O,bH,eM,show decide (((0:Nat):Int)>0)=false by decide,aQ,bA,aR];exact .some (.inr ⟨by simp,rfl,f,g,t,k,x,b,rfl,rfl,by omega,c⟩)
  ·refine M1 c (by omega) (n:=(j:Int)) (by omega) (by omega) rfl _ _ _ _ _ _ _ _ _ λg' b4 aa ch cg ci cj an bz b0 ao b1 b2 b3 sj bx a3=>?_
   have bp:(j:Int) - 1=((j - 1:Nat):Int):=by omega
   rw[bp];exact .inl ⟨rfl,j - 1,by omega,_,_,_,_,_,_,_,_,_,_,_,_,_,_,_,rfl,by simp only[gh,eF,e8];omega,a3⟩
 ·rintro⟨b5,G,r⟩ ⟨rfl,f,g,t,k,x,b,F,ax,aw,c⟩;simp only at F ax c;simp only[eW,dE,O,bY,dI,F,ax,lN];obtain⟨a,T,X⟩:=c.q.fz (m:=h.length) (by omega);have au:aU 11 aH a (bP h.length r 3 f):=by
   rcases MW (m:=h.length) (n:=2) c.x (by omega)with⟨bt,bu⟩|w
   ·rw[bu];have:a=[]:=by rw[bt]at X;simpa using X.symm
    rw[this];exact .J _ _
   ·rw[w,X];exact .mk _ _ _ _
  have av:=nL (n0:=h.length) (n:=2) c.y (by omega) (λE _=>DS _ r 2 E);have bm:a.length=l:=by rw[← aw,← T];simp[-Qd]
  obtain⟨h',H,bd,br⟩:=c.s.scope (d :=.bN [f,g]) (d' :=.bN [bP h.length r 3 f,bP h.length r 3 g]) (by rfl) (.bN _ λd B=>by
   simp at B;rcases B with rfl|rfl
   ·exact lh au λE _=>xx _ E
   ·exact lh av λE _ d B=>by
      simp only[fm,gx]at B;subst B;exact .int _ _)
  rw[H];refine .some ⟨a,b,_,_,rfl,au,av,λi K=>c.ok (bQ i) ?_ i rfl,by omega,by rw[c.rl,aw,bm],⟨by rw[T];exact c.ct,λi K=>c.fq (bQ i) ?_,λi K=>c.dr (bQ i) ?_⟩,bd,br⟩
  all_goals (rw[← T];exact eJ.2 ⟨i,K,rfl⟩)
theorem Np(n:Int)(h:Z):aA tab h W (.aD (fm n))=some (.int .i64 n):=id rfl
def lx(g:Z)(e z:Nat){b:Type}(f:b→List D)(l:List b)(d:D):Prop:=aU z f l d∨∃a,d = .S z a 0 l.length∧g[a]?=some (.row e z (l.map f))
theorem DN{g:Z}{n0 e z:Nat}{a:Type}{f:a→List D}{l:List a}{d:D}(h:Own g n0 e z (l.map f) d):lx g e z f l d:=by
 rcases h with⟨rfl,c⟩|⟨i,_,rfl,b⟩
 ·have:l=[]:=by simpa using c
  subst this;exact .inl (.J _ _)
 ·exact .inr ⟨i,by simp,b⟩
theorem D8(l:List Int)(b c:D)(h:Z)(g:aU 1 fm l b)(k:aU 1 fm l c)(y:l.length≤9000000000000000000):R oQ [b,c] h=some (.bool true,h):=by
 apply Wp.val;rw[HH];simp only[zi,O,eC,fw,gq,cV,bA,aR,mu g,mu k,aQ,bH];refine Wp.loop (λj d e=>e=h∧∃q r s,∃a:Nat,d=[q,.int .i64 a,r,s]∧j+a=l.length)
  (λo=>o.1 = .ext 0∧o.2.2=h) l.length ⟨rfl,_,_,_,0,rfl,rfl⟩ ?_ ?_
 ·rintro j d e ⟨rfl,q,r,s,a,rfl,x⟩;simp only[zj,bY,dI,O,bH,mu g,dN];refine Wp.eN ?_ ?_
  ·intro f;have f:a<l.length:=ji f;have i:l[a]?=some l[a]:=cA f;generalize l[a]=p at i;have u:aN tab aP b (.int .i64 a)=some (.aD (fm p)):=by rw[qQ g];simp[-Qd,i]
   have v:aN tab aP c (.int .i64 a)=some (.aD (fm p)):=by rw[qQ k];simp[-Qd,i]
   have t:=ig a (by omega);simp only[u,v,Np,eC,fw,gq,cV,O,aQ,bA,aR,dV,t];exact .some (.inl ⟨rfl,j - 1,by omega,rfl,_,_,_,a+1,rfl,by omega⟩)
  ·intro _;exact .some (.inr ⟨by simp,rfl,rfl⟩)
 ·rintro⟨w,d,e⟩ ⟨m,n⟩;simp only at m n;subst m;subst n;simp only[eW,dE,O,cS];exact .some rfl
theorem lu.nm{i:It}(h:lu i):E1 i.e:=λb a=>by
 have:=(h.r.fs b a).1;omega
theorem qI{d:Type}{l:List d}{a b:Nat}{x:d}(h:x∈(l.take b).drop a):∃j,a≤j∧j<b∧l[j]?=some x:=by
 obtain⟨e,c⟩:=List.mem_iff_getElem?.1 h;rw[jw,eY]at c;split at c
 ·exact⟨a+e,by omega,by assumption,c⟩
 ·cases c
structure Kd where
 e:Ev
 v:aG
 ix:Int
def kc(x y:Kd):Int:=jO [Gs x.v y.v,jE x.e.a5 y.e.a5,jE x.ix y.ix]
theorem O9{n:Int}(h:(decide (IntKind.u8.min≤n)&&decide (n≤IntKind.u8.max))=true):0≤n∧n<256:=by
 have a:IntKind.u8.min=0:=rfl;have b:IntKind.u8.max=255:=rfl;rw[a,b]at h;simp at h;omega
def eD(k:Nat):List D:=[.int .i64 (k:Nat)]
structure dX (g:Z) (o r:Nat) (rks:List Int) (pl:List Nat) (dp:D):Prop where
 ob:g[o]?=some (.row dR 2 [[dp,.S 1 r 0 rks.length]])
 rr:r≠o
 rk:∃ex,g[r]?=some (.row W 1 (rks.map dH++ex))
 pp:(dp = .J∧pl=[])∨∃op ex,op≠o∧op≠r∧dp = .S 1 op 0 pl.length∧g[op]?=some (.row W 1 (pl.map eD++ex))
 pb:∀k∈pl,k<rks.length
def bR(rks:List Int)(k:Nat):Int:=rks[k]?.getD 0
theorem oV{g:Z}{o:Nat}{a b:D}(h:g[o]?=some (.row dR 2 [[a,b]])):aA tab g aP (.ptr o 0 (0+0))=some a∧aA tab g aP (.ptr o 0 (0+1))=some b:=by
 constructor
 ·rw[xC,dW h];rfl
 ·rw[xC,dW h];rfl
theorem nE(o:Nat):aC tab dR 0 (.ptr o 0 0)=some (.ptr o 0 (0+0))∧aC tab dR 1 (.ptr o 0 0)=some (.ptr o 0 (0+1)):=⟨id rfl,id rfl⟩
theorem yd{g:Z}{o r:Nat}{rks:List Int}{a:List Nat}{b:D}(H:dX g o r rks a b):R qC [.ptr o 0 0] g=some (.int .i64 (a.length:Nat),g):=by
 have c:aV tab aP b=some (.int .i64 (a.length:Nat)):=by
  rcases H.pp with⟨rfl,rfl⟩|⟨e,d,_,_,rfl,_⟩
  ·rfl
  ·exact CS _ _ _ _
 rw[Bo];simp only[uy,pj,(nE o).1,(oV H.ob).1,c,O,cS]
theorem qa{l:List Nat}{i:Nat}(hi:i<l.length):l[i]?=some (aJ l i):=by
 have:=cA hi;unfold aJ;rw[this];rfl
theorem DR{l:List Int}{i:Nat}(hi:i<l.length):l[i]?=some (bR l i):=by
 have:=cA hi;unfold bR;rw[this];rfl
theorem Gn(rks:List Int)(a b:Nat):decide (jO [jE (bR rks b) (bR rks a),jE (a:Int) (b:Int)]<0)=decide (cY (bR rks) a b):=by
 unfold cY jE;rcases Int.lt_trichotomy (bR rks b) (bR rks a)with h|h|h
 ·have c:¬bR rks a<bR rks b:=by omega
  simp[-Qd,jO,h,c]
 ·have c:¬bR rks a<bR rks b:=by omega
  have d:¬bR rks b<bR rks a:=by omega
  rcases ka a b with k|k|k
  ·simp[-Qd,jO,h,k]
  ·subst k;simp[-Qd,jO,h]
  ·have e:¬a<b:=by omega
   simp[-Qd,jO,h,k,e]
 ·have c:¬bR rks b<bR rks a:=by omega
  have d:¬bR rks a=bR rks b:=by omega
  simp[-Qd,jO,h,c,d]
theorem rn{g:Z}{o r:Nat}{rks:List Int}{a:List Nat}{u:D}(H:dX g o r rks a u)(C:rks.length≤1000000000){i j:Nat}(hi:i<a.length)(n:j<a.length):R vK [.ptr o 0 0,.int .i64 (i:Nat),.int .i64 (j:Nat)] g=some (.bool (decide (cY (bR rks) (aJ a i) (aJ a j))),g):=by
 rcases H.pp with⟨rfl,rfl⟩|⟨f,z,A,B,rfl,w⟩
 ·simp at hi
 obtain⟨er,x⟩:=H.rk;have l:=qa hi;have m:=qa n;have h:=H.pb _ (eB l);have k:=H.pb _ (eB m);have p:∀b:Nat,b<a.length→aN tab aP (.S 1 f 0 a.length) (.int .i64 (b:Int))=some (.ptr f b 0):=λb d=>by rw[mj,bE (by omega),eS,cT]
 have q:∀b:Nat,b<rks.length→aN tab aP (.S 1 r 0 rks.length) (.int .i64 (b:Int))=some (.ptr r b 0):=λb d=>by rw[mj,bE (by omega),eS,cT]
 have s:∀(b c:Nat),a[b]?=some c→aA tab g W (.ptr f b 0)=some (.int .i64 (c:Nat)):=λb c d=>by
  have e:=(aZ.1 d).1;rw[fh,dW w,dY (by simpa using e),dB,d];rfl
 have t:∀(b:Nat) (c:Int),rks[b]?=some c→aA tab g W (.ptr r b 0)=some (.int .i64 c):=λb c d=>by
  have e:=(aZ.1 d).1;rw[fh,dW x,dY (by simpa using e),dB,d];rfl
 have y:bI tab aP 2 [0,1] [.int .i64 (jE (bR rks (aJ a j)) (bR rks (aJ a i))),.int .i64 (jE (aJ a i:Int) (aJ a j:Int))]=some (.sl 1 true ([jE (bR rks (aJ a j)) (bR rks (aJ a i)),jE (aJ a i:Int) (aJ a j:Int)].map dH)):=id rfl;have v:=N5 [jE (bR rks (aJ a j)) (bR rks (aJ a i)),jE (aJ a i:Int) (aJ a j:Int)] _ g (aU.mk 1 dH _ true) (by simp);rw[HP];simp only[zq,pj,(nE o).1,(nE o).2,(oV H.ob).1,(oV H.ob).2,p i hi,p j n,s _ _ l,s _ _ m,q _ h,q _ k,t _ _ (DR h),t _ _ (DR k),N6,y,v,dN,O,cS,Gn]
def Fr(b:D)(g g':Z):Prop:=g'.length=g.length∧∀a,(∀c,b ≠ .S 1 a 0 c)→g'[a]?=g[a]?
theorem Fr.refl(a:D)(g:Z):Fr a g g:=⟨rfl,λ_ _=>rfl⟩
theorem Fr.trans{a:D}{g g' b:Z}(h:Fr a g g')(k:Fr a g' b):Fr a g b:=⟨k.1.trans h.1,λd c=>(k.2 d c).trans (h.2 d c)⟩
theorem DD(l:List Nat)(a:List (List D)){i:Nat}(hi:i<l.length)(x:Nat):(l.map eD++a).set i (eD x)=(l.set i x).map eD++a:=by
 rw[List.set_append_left _ _ (by simpa using hi),← List.map_set]
theorem rp{g:Z}{o r:Nat}{rks:List Int}{a:List Nat}{f:D}(H:dX g o r rks a f){i j:Nat}(hi:i<a.length)(e:j<a.length):∃g',R qD [.ptr o 0 0,.int .i64 (i:Nat),.int .i64 (j:Nat)] g=some (aE [],g')∧dX g' o r rks (je a i j) f∧Fr f g g':=by
 suffices Wp (R qD [.ptr o 0 0,.int .i64 (i:Nat),.int .i64 (j:Nat)] g) (λu=>u.1=aE []∧dX u.2 o r rks (je a i j) f∧Fr f g u.2) by
  obtain⟨⟨T,g'⟩,n,rfl,p⟩:=this;exact⟨g',n,p⟩
 rcases H.pp with⟨rfl,rfl⟩|⟨c,h,n,p,rfl,A⟩
 ·simp at hi
 have z:=qa hi;have G:=qa e;have B:∀b:Nat,b<a.length→aN tab aP (.S 1 c 0 a.length) (.int .i64 (b:Int))=some (.ptr c b 0):=λb l=>by rw[mj,bE (by omega),eS,cT]
 have C:∀(b q:Nat),a[b]?=some q→aA tab g W (.ptr c b 0)=some (.int .i64 (q:Nat)):=λb q l=>by
  have I:=(aZ.1 l).1;rw[fh,dW A,dY (by simpa using I),dB,l];rfl
 rw[HS];simp only[zu,pj,(nE o).1,(oV H.ob).1,B i hi,B j e,C _ _ z,C _ _ G,O,bH];have M:(a.map eD++h)[i]?=some (eD (aJ a i)):=by rw[dY (by simpa using hi),dB,z];rfl
 refine kB (off:=0) (row:=eD (aJ a i)) (v :=.int .i64 (aJ a j:Nat)) A M (by rfl) (by simp[-Qd,eD]) (by rfl) λF w P=>?_
 have w:F[c]?=some (.row W 1 ((a.set i (aJ a j)).map eD++h)):=by
  rw[w,show dK (eD (aJ a i)) 0 (cG (.int .i64 (aJ a j:Nat)))=eD (aJ a j)from rfl,DD _ _ hi]
 try simp only[O]
 obtain⟨m,L⟩:∃m,(a.set i (aJ a j))[j]?=some m:=⟨_,cA (by simpa using e)⟩
 have N:((a.set i (aJ a j)).map eD++h)[j]?=some (eD m):=by rw[dY (by simpa using e),dB,L];rfl
 refine kB (off:=0) (row:=eD m) (v :=.int .i64 (aJ a i:Nat)) w N (by rfl) (by simp[-Qd,eD]) (by rfl) λy x Q=>?_
 have x:y[c]?=some (.row W 1 ((je a i j).map eD++h)):=by
  rw[x,show dK (eD m) 0 (cG (.int .i64 (aJ a i:Nat)))=eD (aJ a i)from rfl,DD _ _ (by simpa using e)];rfl
 try simp only[O]
 have E:=P.trans Q;have s:∀d,d≠c→y[d]?=g[d]?:=λd t=>E.2 d t
 refine .some ⟨rfl,⟨by rw[s _ (λk=>n k.symm)];exact H.ob,H.rr,?_,.inr ⟨c,h,n,p,by rw[r4],x⟩,λb l=>H.pb b ((r5 hi e).mem_iff.1 l)⟩,E.1,λd t=>s d λk=>t a.length (by rw[k])⟩;obtain⟨er,K⟩:=H.rk;exact⟨er,by rw[s _ (λk=>p k.symm)];exact K⟩
abbrev jK(o:Nat):D :=.iface iZ (.ptr o 0 0)
theorem NU{g:Z}{o r:Nat}{rks:List Int}{f l:List Nat}{c:D}(G:rks.length≤1000000000)(N:f.length≤1000000000){j:Nat}(H:dX g o r rks l c)(U:oo (cY (bR rks)) f l j):
  ∃g' a,R sJ [.iface iZ (.ptr o 0 0),.int .i64 (j:Nat)] g=some (aE [],g')∧dX g' o r rks a c∧Fr c g g'∧a.Perm f∧gj (cY (bR rks)) (aJ a) a.length:=by
 suffices Wp (R sJ [.iface iZ (.ptr o 0 0),.int .i64 (j:Nat)] g) (λq=>q.1=aE []∧∃a,dX q.2 o r rks a c∧Fr c g q.2∧a.Perm f∧gj (cY (bR rks)) (aJ a) a.length) by
  obtain⟨⟨Q,g'⟩,m,rfl,a,n⟩:=this;exact⟨g',a,m,n⟩
 rw[HN];simp only[zo,O,bH];refine Wp.loop (λz k g'=>∃b:Nat,Y 0 k = .int .i64 (b:Nat)∧z=b∧∃a,dX g' o r rks a c∧Fr c g g'∧oo (cY (bR rks)) f a b)
  (λs=>s.1 = .ext 0∧∃a,dX s.2.2 o r rks a c∧Fr c g s.2.2∧a.Perm f∧gj (cY (bR rks)) (aJ a) a.length) j ⟨j,rfl,rfl,l,H,Fr.refl _ _,U⟩ ?_ ?_
 ·rintro z k g' ⟨b,x,M,a,d,e,h⟩;have y:b<a.length:=h.u.xH;have P:=h.p.length_eq;by_cases F:b=0
  ·subst F;have t:IntKind.wrap .i64 (((0:Nat):Int) - 1) = -1:=by rw[dF (by omega) (by omega)];omega
   have v:IntKind.wrap .i64 ((-1:Int).tdiv 2)=0:=by decide
   simp only[uz,x,O,bH,fM,t,A6,show ¬((2:Int)=0) by decide,aR,v,fY,show decide ((0:Int)=((0:Nat):Int))=true by decide,dC,fQ,jn,ia,lF,cX,aM,aQ];exact .some (.inr ⟨by simp,rfl,a,d,e,Ar h (.inl rfl)⟩)
  ·have t:IntKind.wrap .i64 ((b:Int) - 1)=((b - 1:Nat):Int):=by rw[dF (by omega) (by omega)];omega
   have v:IntKind.wrap .i64 (((b - 1:Nat):Int).tdiv 2)=(((b - 1) / 2:Nat):Int):=by
    have:((b - 1:Nat):Int).tdiv 2=(((b - 1) / 2:Nat):Int):=by rw[Int.tdiv_eq_ediv_of_nonneg (by omega)];omega
    rw[this,dF (by omega) (by omega)]
   have I:decide ((((b - 1) / 2:Nat):Int)=(b:Int))=false:=kR (by omega);have w:(b - 1) / 2<a.length:=by omega
   have E:=rn d G y w;simp only[uz,x,O,bH,fM,t,A6,show ¬((2:Int)=0) by decide,aR,v,fY,I,dC,fQ,aM,qN,E,hd,cX,bA,aQ];by_cases i:cY (bR rks) (aJ a b) (aJ a ((b - 1) / 2))
   ·obtain⟨L,C,B,A⟩:=rp d w y;have p:decide (cY (bR rks) (aJ a b) (aJ a ((b - 1) / 2)))=true:=ki i;simp only[p,fU,bA,aR,qO,C,O];exact .some (.inl ⟨rfl,(b - 1) / 2,by omega,_,rfl,rfl,_,B,e.trans A,Fq (iI _) h (by omega) i⟩)
   ·have p:decide (cY (bR rks) (aJ a b) (aJ a ((b - 1) / 2)))=false:=kR i;rw[p];exact .some (.inr ⟨by simp,rfl,a,d,e,Ar h (.inr i)⟩)
 ·rintro⟨K,k,g'⟩ ⟨r1,a,d,e,m,n⟩;simp only at r1 d e;subst r1;simp only[eW,sn,O];exact .some ⟨rfl,a,d,e,m,n⟩
theorem NV {g:Z} {o r:Nat} {rks:List Int} {f l:List Nat} {p:D} (P:rks.length≤1000000000) (av:f.length≤1000000000) {N:Nat} (H:dX g o r rks l p) (ak:gj (cY (bR rks)) (aJ f) f.length) (U:lV (cY (bR rks)) f l N 0) :
  ∃g' a v,R sK [.iface iZ (.ptr o 0 0),.int .i64 0,.int .i64 (N:Nat)] g=some (v,g')∧dX g' o r rks a p∧Fr p g g'∧a.length=N+1∧aJ a N=aJ f 0∧f.Perm (aJ f 0::a.take N)∧gj (cY (bR rks)) (aJ (a.take N)) (a.take N).length∧∀y∈f,¬cY (bR rks) y (aJ f 0):=by
 suffices Wp (R sK [.iface iZ (.ptr o 0 0),.int .i64 0,.int .i64 (N:Nat)] g) (λah=>∃a i,dX ah.2 o r rks a p∧Fr p g ah.2∧lV (cY (bR rks)) f a N i∧∀c,0<c→c<N→(c - 1) / 2=i→¬cY (bR rks) (aJ a c) (aJ a i)) by
  obtain⟨⟨ar,g'⟩,M,a,i,z,al,ab,am⟩:=this;obtain⟨an,ao,ap⟩:=E9 (iI _) ak ab am;exact⟨g',a,ar,M,z,al,ab.n,ab.x,an,ao,ap⟩
 rw[HO];simp only[zp,O,bH];refine Wp.loop (λc aa g'=>∃b:Nat,Y 0 aa = .int .i64 (b:Nat)∧c=N - b∧b≤N∧∃a,dX g' o r rks a p∧Fr p g g'∧lV (cY (bR rks)) f a N b)
  (λQ=>Q.1 = .ext 0∧(∃ag:Int,Y 0 Q.2.1 = .int .i64 ag)∧∃a i,dX Q.2.2 o r rks a p∧Fr p g Q.2.2∧lV (cY (bR rks)) f a N i∧∀c,0<c→c<N→(c - 1) / 2=i→¬cY (bR rks) (aJ a c) (aJ a i)) (N - 0) ⟨0,rfl,rfl,il _,l,H,Fr.refl _ _,U⟩ ?_ ?_
 ·rintro c aa g' ⟨b,af,w,ax,a,d,m,n⟩;have ay:=n.p.length_eq;have aw:=n.n;by_cases M:2*b+1<N
  ·have A:b<a.length:=by omega
   have ac:IntKind.wrap .i64 (2*(b:Int))=((2*b:Nat):Int):=by rw[dF (by omega) (by omega)];omega
   have ad:IntKind.wrap .i64 (((2*b:Nat):Int)+1)=((2*b+1:Nat):Int):=by rw[dF (by omega) (by omega)];omega
   have aq:IntKind.wrap .i64 (((2*b+1:Nat):Int)+1)=((2*b+2:Nat):Int):=by rw[dF (by omega) (by omega)];omega
   have T:decide ((N:Int)≤((2*b+1:Nat):Int))=false:=kR (by omega);have ai:decide (((2*b+1:Nat):Int)<0)=false:=kR (by omega);simp only[uA,af,O,bH,nv,ac,dV,ad,lA,T,dC,aM,dN,ai,cX,bA,aR,aQ,aq];by_cases z:2*b+2<N
   ·have X:decide (((2*b+2:Nat):Int)<(N:Int))=true:=ki (by omega);have aj:=rn d P (i:=2*b+2) (j:=2*b+1) (by omega) (by omega);simp only[X,aM,fQ,qN,aj,O,cX];by_cases x:cY (bR rks) (aJ a (2*b+2)) (aJ a (2*b+1))
    ·rw [ki x];simp only[aM,aQ,O,dE,bY];obtain⟨j,s⟩:∃j:Nat,j=2*b+2:=⟨_,rfl⟩
     have L:j<N:=by omega
     have t:j<a.length:=by omega
     have u:=uU (iI (bR rks)) (l:=a) (N:=N) (i:=b) j (.inl ⟨z,x,s⟩);have I:=rn d P t A;have K:(((2*b+2:Nat)):Int)=((j:Nat):Int):=by rw[s]
     simp only[K,qN,I,hd,aQ,O,dE,bY];by_cases e:cY (bR rks) (aJ a j) (aJ a b)
     ·obtain⟨ae,G,F,E⟩:=rp d A t;have k:decide (cY (bR rks) (aJ a j) (aJ a b))=true:=ki e;simp only[k,fU,bA,aR,qO,G,O];exact .some (.inl ⟨rfl,N - j,by omega,j,rfl,rfl,by omega,_,F,m.trans E,uV (iI _) n (by omega) L (by omega) u e⟩)
     ·have k:decide (cY (bR rks) (aJ a j) (aJ a b))=false:=kR e;rw[k];exact .some (.inr ⟨by simp,rfl,⟨_,rfl⟩,a,b,d,m,n,λc C w B q=>u c C w B (by
       rcases(iI (bR rks)).nV (aJ a j) (aJ a b)with h|h|h
       ·exact absurd h e
       ·rw[h];exact q
       ·exact(iI (bR rks)).tr _ _ _ q h)⟩)
    ·rw [kR x];simp only[bA,aR,aQ,O,dE,bY];obtain⟨j,s⟩:∃j:Nat,j=2*b+1:=⟨_,rfl⟩
     have L:j<N:=by omega
     have t:j<a.length:=by omega
     have u:=uU (iI (bR rks)) (l:=a) (N:=N) (i:=b) j (.inr ⟨.inr x,s⟩);have I:=rn d P t A;have K:(((2*b+1:Nat)):Int)=((j:Nat):Int):=by rw[s]
     simp only[K,qN,I,hd,aQ,O,dE,bY];by_cases e:cY (bR rks) (aJ a j) (aJ a b)
     ·obtain⟨ae,G,F,E⟩:=rp d A t;have k:decide (cY (bR rks) (aJ a j) (aJ a b))=true:=ki e;simp only[k,fU,bA,aR,qO,G,O];exact .some (.inl ⟨rfl,N - j,by omega,j,rfl,rfl,by omega,_,F,m.trans E,uV (iI _) n (by omega) L (by omega) u e⟩)
     ·have k:decide (cY (bR rks) (aJ a j) (aJ a b))=false:=kR e;rw[k];exact .some (.inr ⟨by simp,rfl,⟨_,rfl⟩,a,b,d,m,n,λc C w B q=>u c C w B (by
       rcases(iI (bR rks)).nV (aJ a j) (aJ a b)with h|h|h
       ·exact absurd h e
       ·rw[h];exact q
       ·exact(iI (bR rks)).tr _ _ _ q h)⟩)
   ·have X:decide (((2*b+2:Nat):Int)<(N:Int))=false:=kR (by omega);simp only[X,bA,aR,fQ,lF,ia,O,cX,aQ,dE,bY];obtain⟨j,s⟩:∃j:Nat,j=2*b+1:=⟨_,rfl⟩
    have L:j<N:=by omega
    have t:j<a.length:=by omega
    have u:=uU (iI (bR rks)) (l:=a) (N:=N) (i:=b) j (.inr ⟨.inl z,s⟩);have I:=rn d P t A;have K:(((2*b+1:Nat)):Int)=((j:Nat):Int):=by rw[s]
    simp only[K,qN,I,hd,aQ,O,dE,bY];by_cases e:cY (bR rks) (aJ a j) (aJ a b)
    ·obtain⟨ae,G,F,E⟩:=rp d A t;have k:decide (cY (bR rks) (aJ a j) (aJ a b))=true:=ki e;simp only[k,fU,bA,aR,qO,G,O];exact .some (.inl ⟨rfl,N - j,by omega,j,rfl,rfl,by omega,_,F,m.trans E,uV (iI _) n (by omega) L (by omega) u e⟩)
    ·have k:decide (cY (bR rks) (aJ a j) (aJ a b))=false:=kR e;rw[k];exact .some (.inr ⟨by simp,rfl,⟨_,rfl⟩,a,b,d,m,n,λc C w B q=>u c C w B (by
      rcases(iI (bR rks)).nV (aJ a j) (aJ a b)with h|h|h
      ·exact absurd h e
      ·rw[h];exact q
      ·exact(iI (bR rks)).tr _ _ _ q h)⟩)
  ·have ac:IntKind.wrap .i64 (2*(b:Int))=((2*b:Nat):Int):=by rw[dF (by omega) (by omega)];omega
   have ad:IntKind.wrap .i64 (((2*b:Nat):Int)+1)=((2*b+1:Nat):Int):=by rw[dF (by omega) (by omega)];omega
   have T:decide ((N:Int)≤((2*b+1:Nat):Int))=true:=ki (by omega);simp only[uA,af,O,bH,nv,ac,dV,ad,lA,T,dC,jn,aR,ia,cX,aM,aQ];exact .some (.inr ⟨by simp,rfl,⟨_,rfl⟩,a,b,d,m,n,λc C w B=>by omega⟩)
 ·rintro⟨au,aa,g'⟩ ⟨r1,⟨ag,x⟩,a,i,d,m,M,z⟩;simp only at r1 d m x;subst r1;simp only[eW,dE,bY,x,eM,O];exact .some ⟨a,i,d,m,M,z⟩
theorem NW{g:Z}{o r:Nat}{rks:List Int}{l:List Nat}{h:D}(H:dX g o r rks l h){N:Nat}(m:l.length=N+1)(G:l.length≤1000000000):
  ∃g' c,R sL [.ptr o 0 0] g=some (aE [.iface W (.int .i64 (aJ l N:Nat))],g')∧dX g' o r rks (l.take N) c∧g'.length=g.length∧(∀b,b≠o→g'[b]?=g[b]?)∧∃a,h = .S 1 a 0 (N+1)∧c = .S 1 a 0 N:=by
 suffices Wp (R sL [.ptr o 0 0] g) (λe=>e.1=aE [.iface W (.int .i64 (aJ l N:Nat))]∧∃c,dX e.2 o r rks (l.take N) c∧e.2.length=g.length∧(∀b,b≠o→e.2[b]?=g[b]?)∧∃a,h = .S 1 a 0 (N+1)∧c = .S 1 a 0 N) by
  obtain⟨⟨I,g'⟩,d,rfl,c,k⟩:=this;exact⟨g',c,d,k⟩
 rcases H.pp with⟨rfl,rfl⟩|⟨a,s,d,k,rfl,q⟩
 ·simp at m
 rw[m]at H ⊢;have p:l[N]?=some (aJ l N):=qa (by omega);have F:IntKind.wrap .i64 (((N+1:Nat):Int) - 1)=((N:Nat):Int):=by rw[dF (by omega) (by omega)];omega
 have A:aN tab aP (.S 1 a 0 (N+1)) (.int .i64 (N:Int))=some (.ptr a N 0):=by rw[mj,bE (by omega),eS,cT]
 have C:aA tab g W (.ptr a N 0)=some (.int .i64 (aJ l N:Nat)):=by
  rw[fh,dW q,dY (by simp;omega),dB,p];rfl
 have E:fO tab aP false true false [.S 1 a 0 (N+1),.int .i64 (N:Int)]=some (.S 1 a 0 N):=Dj (T:=tab) (t:=aP) (i:=lR) (j:=fb) (id rfl) (id rfl) (id rfl) (id rfl) (by decide) (by omega);rw[HQ];simp only[zr,pj,(nE o).1,(oV H.ob).1,CS,fM,F,A,C,E,O,bH];refine EF (kk:=0) (off:=0) (row:=[.S 1 a 0 (N+1),.S 1 r 0 rks.length]) (v :=.S 1 a 0 N) H.ob (by rfl) (by rfl) (by simp) (by rfl) λu n f=>?_
 have n:u[o]?=some (.row dR 2 [[.S 1 a 0 N,.S 1 r 0 rks.length]]):=n
 try simp only[O]
 have w:l=l.take N++[aJ l N]:=by
  have d:l.take (N+1)=l.take N++l[N]?.toList:=jz;rw[gW (by omega),p]at d;exact d
 obtain⟨er,z⟩:=H.rk;refine .some ⟨rfl,_,⟨n,H.rr,⟨er,by rw[f.2 _ H.rr];exact z⟩,.inr ⟨a,eD (aJ l N)::s,d,k,by rw[oi,m];congr 1;omega,?_⟩,λB x=>H.pb B (gV x)⟩,f.1,λb y=>f.2 b y,a,rfl,rfl⟩;rw[f.2 _ d,q];congr 2
 conv=>lhs;rw[w]
 simp[-Qd]
theorem NT{g:Z}{o r:Nat}{rks:List Int}{l:List Nat}{d:D}(I:rks.length≤1000000000){N:Nat}(q:l.length=N+1)(C:l.length≤1000000000)(H:dX g o r rks l d)(p:gj (cY (bR rks)) (aJ l) l.length):
  ∃g' k b,R vJ [.iface iZ (.ptr o 0 0)] g=some (.iface W (.int .i64 (aJ l 0:Nat)),g')∧dX g' o r rks b k∧l.Perm (aJ l 0::b)∧gj (cY (bR rks)) (aJ b) b.length∧(∀y∈l,¬cY (bR rks) y (aJ l 0))∧g'.length=g.length∧(∀a,a≠o→(∀n,d ≠ .S 1 a 0 n)→g'[a]?=g[a]?)∧∃c,d = .S 1 c 0 (N+1)∧k = .S 1 c 0 N:=by
 have aa:IntKind.wrap .i64 (((N+1:Nat):Int) - 1)=((N:Nat):Int):=by rw[dF (by omega) (by omega)];omega
 have m:=yd H;obtain⟨A,e,t,f⟩:=rp H (i:=0) (j:=N) (by omega) (by omega);obtain⟨ac,L,ad,x,u,h,M,ab,Q,T,X⟩:=NV I C t p (E8 q p);obtain⟨B,w,z,v,P,K,c,E,F⟩:=NW u M (by omega);rw[q]at m;have e:R qD [.ptr o 0 0,.int .i64 0,.int .i64 (N:Nat)] g=some (aE [],A):=e;refine⟨B,w,L.take N,?_,v,Q,T,X,by rw[P,h.1,f.1],λa G s=>by rw[K a G,h.2 a s,f.2 a s],c,E,F⟩;rw[HM];simp only[zn,Ci,m,fM,aa,qO,e,x,KH,z,O,cS,ab]
theorem Fz{g:Z}{o r:Nat}{rks:List Int}{a:List Nat}{h:D}(H:dX g o r rks a h)(I:a.length≤1000000000)(k:Nat):
  ∃c g1 b,dM tab g aP aP h (.sl 1 true [eD k])=some (.S 1 c 0 (a.length+1),g1)∧g1[c]?=some (.row W 1 ((a++[k]).map eD++b))∧c≠o∧c≠r∧g.length≤g1.length∧((∃n,h = .S 1 c 0 n)∨g.length≤c)∧∀e,(∀n,h ≠ .S 1 e 0 n)→e<g.length→g1[e]?=g[e]?:=by
 have s:tab aP=some lR:=id rfl;have t:lR.td = .sl W:=id rfl;have u:tab W=some fb:=id rfl;have v:fb.V=1:=id rfl;have w:fb.gA=8:=id rfl;have q:jW g lR fb (.sl 1 true [eD k])=some [eD k]:=id rfl;have j:Nat.blt 0 1=true:=rfl;have K:=(aZ.1 H.ob).1;obtain⟨er,C⟩:=H.rk;have L:=(aZ.1 C).1;have f:lim (a.length+1) 8=true:=k4 (by omega) (by omega);rcases H.pp with⟨rfl,rfl⟩|⟨c,b,z,A,rfl,p⟩
 ·refine⟨g.length,aL g W 1 [eD k],[],?_,by rw[jG];rfl,by omega,by omega,by simp[-Qd,aL],.inr (aS _),λe _ i=>iW _ _ _ _ i⟩;unfold dM;have f:lim 1 8=true:=f;simp only[s,t,u,v,w,q,j,eF,e8,cT,f,aM]
 ·have B:=(aZ.1 p).1;cases b with
  | nil =>
   refine⟨g.length,aL (g.set c .dead) W 1 ((a++[k]).map eD),[],?_,?_,by omega,by omega,by simp[-Qd,aL],.inr (aS _),λe m i=>?_⟩
   ·unfold dM;simp only[s,t,u,v,w,q,j,p,uE,gi,eF,e8,cT,f,aS,gz,aM,iF,iS,uI]
   ·have:=jG (g.set c .dead) W 1 ((a++[k]).map eD);rw[List.length_set]at this;rw[this,uE]
   ·rw[iW _ _ _ _ (by rw[List.length_set];exact i),iD (λl=>m a.length (by rw[l]))]
  | cons d b =>
   refine⟨c,g.set c (.row W 1 ((a++[k]).map eD++b)),b,?_,jR B,z,A,by simp,.inl ⟨_,rfl⟩,λe m i=>iD (λl=>m a.length (by rw[l]))⟩;unfold dM;have E:¬a.length=(a.map eD++d::b).length:=by simp
   have F:a.length+1≤(a.map eD++d::b).length:=by simp
   have G:a.length≤(a.map eD++d::b).length:=by simp
   have x:(a.map eD++d::b).take a.length=a.map eD:=rX (by simp);have y:(a.map eD++d::b).drop (a.length+1)=b:=by
    have:a.map eD++d::b=(a.map eD++[d])++b:=by simp
    rw[this];exact List.drop_left' (by simp)
   simp only[s,t,u,v,w,q,j,p,eF,e8,cT,f,E,F,G,gz,aM,aR,x,y,iF,iS,uI]
theorem NX{g:Z}{o r:Nat}{rks:List Int}{f:List Nat}{e:D}(H:dX g o r rks f e)(I:f.length≤1000000000){k:Nat}(G:k<rks.length):
  ∃g' h,R sM [.ptr o 0 0,.iface W (.int .i64 (k:Nat))] g=some (aE [],g')∧dX g' o r rks (f++[k]) h∧g.length≤g'.length∧(∃b,h = .S 1 b 0 (f.length+1)∧((∃n,e = .S 1 b 0 n)∨g.length≤b))∧∀a,a≠o→(∀n,e ≠ .S 1 a 0 n)→a<g.length→g'[a]?=g[a]?:=by
 suffices Wp (R sM [.ptr o 0 0,.iface W (.int .i64 (k:Nat))] g) (λl=>l.1=aE []∧∃h,dX l.2 o r rks (f++[k]) h∧g.length≤l.2.length∧(∃b,h = .S 1 b 0 (f.length+1)∧((∃n,e = .S 1 b 0 n)∨g.length≤b))∧∀a,a≠o→(∀n,e ≠ .S 1 a 0 n)→a<g.length→l.2[a]?=g[a]?) by
  obtain⟨⟨u,g'⟩,A,rfl,h,B⟩:=this;exact⟨g',h,A,B⟩
 obtain⟨b,ab,y,x,aa,t,T,Q,w,p⟩:=Fz H I k;have M:=(aZ.1 H.ob).1;obtain⟨er,s⟩:=H.rk;have P:=(aZ.1 s).1;have E:∀n,e ≠ .S 1 o 0 n:=λn i=>by
  rcases H.pp with⟨c,_⟩|⟨X,_,c,_,d,_⟩
  ·rw[i]at c;cases c
  ·rw[i]at d;injection d with _ d;exact c d.symm
 have F:∀n,e ≠ .S 1 r 0 n:=λn i=>by
  rcases H.pp with⟨c,_⟩|⟨X,_,_,c,d,_⟩
  ·rw[i]at c;cases c
  ·rw[i]at d;injection d with _ d;exact c d.symm
 have C:l8 W (.iface W (.int .i64 (k:Nat)))=some (.int .i64 (k:Nat)):=by simp[-Qd,l8]
 have lt:bI tab aP 1 [0] [.int .i64 (k:Nat)]=some (.sl 1 true [eD k]):=id rfl;rw[HR];simp only[zt,pj,(nE o).1,(oV H.ob).1,C,lt,x,O,bH];refine EF (kk:=0) (off:=0) (row:=[e,.S 1 r 0 rks.length]) (v :=.S 1 b 0 (f.length+1)) (by rw[p o E M];exact H.ob) (by rfl) (by rfl) (by simp) (by rfl) λz q m=>?_
 have q:z[o]?=some (.row dR 2 [[.S 1 b 0 (f.length+1),.S 1 r 0 rks.length]]):=q
 try simp only[O]
 refine .some ⟨rfl,_,⟨q,H.rr,⟨er,by rw[m.2 _ H.rr,p r F P];exact s⟩,.inr ⟨b,y,t,T,by simp,by rw[m.2 _ t];exact aa⟩,λu j=>?_⟩,by rw[m.1];exact Q,⟨b,rfl,w⟩,λa N L K=>by rw[m.2 a N];exact p a L K⟩;rcases eA.1 j with j|j
 ·exact H.pb u j
 ·rw[gx.1 j];exact G
theorem D9{g:Z}{o r:Nat}{rks:List Int}{a:List Nat}{f:D}(G:rks.length≤1000000000)(T:a.length≤999999999){k:Nat}(B:k<rks.length)(H:dX g o r rks a f)(A:gj (cY (bR rks)) (aJ a) a.length):
  ∃g' l e,R sI [.iface iZ (.ptr o 0 0),.iface W (.int .i64 (k:Nat))] g=some (aE [],g')∧dX g' o r rks e l∧e.Perm (a++[k])∧gj (cY (bR rks)) (aJ e) e.length∧g.length≤g'.length∧(∃c m,l = .S 1 c 0 m∧((∃n,f = .S 1 c 0 n)∨g.length≤c))∧∀b,b≠o→(∀n,f ≠ .S 1 b 0 n)→b<g.length→g'[b]?=g[b]?:=by
 obtain⟨Q,w,x,j,L,⟨c,u,q⟩,I⟩:=NX H (by omega) B;have p:=yd j;have s:(a++[k]).length=a.length+1:=by simp
 have P:IntKind.wrap .i64 (((a.length+1:Nat):Int) - 1)=((a.length:Nat):Int):=by rw[dF (by omega) (by omega)];omega
 rw[s]at p;obtain⟨z,K,y,v,i,M,N⟩:=NU G (by rw[s];omega) j (Fp k A);refine⟨z,w,K,?_,v,M,N,by rw[i.1];exact L,⟨c,_,u,q⟩,λb F t C=>?_⟩
 ·rw[HL];simp only[zm,KI,Ci,x,p,fM,P,y,O]
 ·rw[i.2 b (λn d=>by
    rw[u]at d;injection d with _ d;subst d;rcases q with⟨m,E⟩|h
    ·exact t m E
    ·omega),I b F t C]
theorem Pe(h:Z)(x y:D):dM tab h aP aP x y=tT W fb lR h x y:=id rfl
theorem Pf(h:Z)(x y:D):dM tab h aP W x y=tT W fb fb h x y:=id rfl
theorem ta{n:Nat}(h:n≤2000000000):lim n fb.gA=true:=k4 (show n*8≤140737488355328 by omega) (by omega)
theorem NS{rks:List Int}{d:D}(m:aU 1 dH rks d)(h:Z)(o:rks.length≤900000000)(f:0<rks.length):R sH [d] h=some (.S 1 h.length 0 rks.length,aL h W 1 (rks.map dH)):=by
 rcases m with⟨rfl,rfl⟩|⟨a,rfl⟩
 ·simp at f
 rw[vn];have j:U tab .eql aP (.sl 1 a (rks.map dH)) .J=some (.bool false):=id rfl;have k:dM tab h aP aP (.sl 1 true []) (.sl 1 a (rks.map dH))=some (.S 1 h.length 0 rks.length,aL h W 1 (rks.map dH)):=by
  rw[Pe];have l:jW h lR fb (.sl 1 a (rks.map dH))=some (rks.map dH):=by
   show(if 1=fb.V then some (rks.map dH)else none)=_;exact bE rfl
  unfold tT;rw[l];obtain⟨b,c,rfl⟩:∃b c,rks=b::c:=by
   cases rks with
   |nil=>simp at f
   |cons g i=>exact⟨g,i,rfl⟩
  have e:lim ((b::c).length) fb.gA=true:=ta (by omega);have n:fb.V=1:=id rfl;simp only[n,show Nat.blt 0 1=true from rfl,iS,eF,e8,cT,jx,gi]at e ⊢;simp only[e,gz,aM]
 simp only[rM,j,aQ,AL,k,O,cS,bA,aR]
theorem wq{x:Option Unit}(h:Wp x λ_=>True):x=some ():=by
 obtain⟨a,h,_⟩:=h;cases a;exact h
theorem qw{x:Option Unit}(h:x=some ()):Wp x λ_=>True:=⟨(),h,trivial⟩
theorem Mt{a:Mp}{b m:Nat}{f:Int→Option Int}(d:a b=some (.mp m f)){i:Int}(hi:cW i)(c:MK):qY a (.raw (.map (some b))) (.int .i64 i) true c=c (.bN [.int .i64 ((f i).getD 0),.bool (f i).isSome]) a:=by
 unfold qY;simp only[d,eL,hi,aM]
theorem Mv{a:Mp}{b m:Nat}{f:Int→Option Int}(e:a b=some (.mp m f)){i c:Int}(hi:cW i)(g:cW c)(h:m<1000000000)(d:MK):pf a (.raw (.map (some b))) (.int .i64 i) (.int .i64 c) d=d .bG (a.nY b (.mp (m+1) λx=>if x=i then some c else f x)):=by
 unfold pf;simp only[e,eL,hi,g,h,gz,aM]
theorem Pa(a:Mp)(b:Nat)(o:MO):a.nY b o b=some o:=by
 unfold Mp.nY;exact bE rfl
theorem pz(a:Mp)(b:Nat)(o:MO):a.set b o b=some o:=by
 unfold Mp.set;exact bE rfl
abbrev dO(l:List It):Nat→Int:=hZ (l.map λa=>a.e.a1)
def jU(l:List It)(k:Nat):Int:=match gY l.length (dO l) (k+1) (dO l k)with
 |some a=>a
 |none => -1
def jb(l:List It)(k:Nat)(f:Int→Option Int):Prop:=∀a,f a=(gY l.length (dO l) k a).map λb=>((b:Nat):Int)
theorem BW{l:List It}{k:Nat}{i:It}(h:l[k]?=some i):dO l k=i.e.a1:=by
 simp[-Qd,dO,hZ,h]
theorem jb.step{l:List It}{k:Nat}(c:k<l.length){f:Int→Option Int}(h:jb l (k+1) f):jb l k λx=>if x=dO l k then some ((k:Nat):Int)else f x:=λx=>by
 show(if x=dO l k then _ else _)=_;split
 ·rename_i a;rw[a,Fh c];rfl
 ·rename_i a;rw[h x,Fj (λb=>a b.symm)]
theorem jb.end_(l:List It):jb l l.length λ_=>none:=λa=>by rw[Fi];rfl
theorem jb.look{l:List It}{k:Nat}{f:Int→Option Int}(h:jb l (k+1) f):(if(f (dO l k)).isSome=true then(f (dO l k)).getD 0 else -1)=jU l k:=by
 rw[h];unfold jU;cases gY l.length (dO l) (k+1) (dO l k)<;>rfl
theorem BA(e:Ev):aC tab aF 1 (.aD (cD e))=some (.aD (.int .i64 e.a1::(cD e).drop 2)):=id rfl
theorem K8(e:Ev)(h:Z):aA tab h W (.aD (.int .i64 e.a1::(cD e).drop 2))=some (.int .i64 e.a1):=id rfl
theorem C4{l:List It}{P:D}(av:aU 11 aH l P)(a8:l.length≤900000000)(aw:∀i∈l,cW i.e.a1){a b:Nat}{g:Z}{H:Mp}{y:Ex→List D→Z→Mp→Option Unit}(au:g[a]?=some (.row W 1 (List.replicate l.length [.int .i64 0])))(ar:H b=some (.mp 0 λ_=>none))(K L M N:D)
  (a4:∀ds g' k rows m f,bW a g g'→g'[a]?=some (.row W 1 rows)→rows.length=l.length→(∀j,j<l.length→rows[j]?=some (dH (jU l j)))→k b=some (.mp m f)→jb l 0 f→y (.ext 0) ds g' k=some ()) :
  my (rO P (.S 1 a 0 l.length) (.raw (.map (some b)))) [.int .i64 ((l.length:Int) - 1),K,L,M,N] g H y=some ():=by
 refine xG (λc ds g' k=>∃q r s t rows,ds=[.int .i64 ((c:Int) - 1),q,r,s,t]∧bW a g g'∧g'[a]?=some (.row W 1 rows)∧rows.length=l.length∧(∀j,c≤j→j<l.length→rows[j]?=some (dH (jU l j)))∧(∀d∈rows,d.length=1)∧c≤l.length∧∃m f,k b=some (.mp m f)∧m+c=l.length∧jb l c f) l.length
  ⟨K,L,M,N,_,rfl,bW.refl _ _,au,by simp,(λj aq R=>by omega),(λd w=>by rw[z7 w];rfl),aS _,0,_,ar,by omega,jb.end_ l⟩ ?_
 rintro c ds Q I ⟨q,r,s,t,rows,rfl,ag,w,ae,ad,ac,a7,m,f,A,a9,B⟩;cases c with
 | zero =>
  have u:¬(0:Int)≤((0:Nat):Int) - 1:=by omega
  simp only[rO,bY,lA,O,u,cV,aQ,bA,aR,dI];exact a4 _ Q I rows m f ag w ae (λj ay=>ad j (il _) ay) A B
 | succ c =>
  have ab:c<l.length:=by omega
  have ao:(((c+1:Nat):Int) - 1)=(c:Int):=by omega
  have u:(0:Int)≤(c:Int):=by omega
  have a0:(c:Int)<(l.length:Int):=by omega
  obtain⟨o,E⟩:∃i,l[c]?=some i:=⟨_,cA ab⟩
  obtain⟨d,af⟩:∃G,rows[c]?=some G:=⟨_,cA (by omega)⟩
  have a2:=ac d (eB af);have T:=BW E;have aa:cW o.e.a1:=aw o (eB E);have ax:cW (c:Int):=by unfold cW;omega
  have a6:IntKind.wrap .i64 ((c:Int) - 1)=(c:Int) - 1:=dF (by omega) (by omega);rw[ao];refine wq ?_;simp only[rO,bY,lA,O,u,dJ,aQ,aM,mj,a0,gz,eS,cT,bH];refine kB w af rfl (by omega) rfl λap C ai=>?_
  have a3:∀z:Int,dK d 0 (cG (.int .i64 z))=dH z:=λz=>by
   obtain⟨ah,rfl⟩:∃ah,d=[ah]:=by
    match d,a2 with
    |[G],_=>exact⟨G,rfl⟩
   rfl
  rw[a3]at C;simp only[O,oY av,u,aM,eS,E,gH,sZ,BA,K8];rw[Mt A aa];simp only[kh,j7,mX,O];have h:=B.look;rw[T]at h
  suffices X:∀n,bW a Q n→n[a]?=some (.row W 1 (rows.set c (dH (jU l c))))→∀ak al aj am,Wp (pf I (.raw (.map (some b))) (.int .i64 o.e.a1) (.int .i64 c) λba an=>(U tab .sub W (.int .i64 c) (.int .i64 1)).bind λa5=>rv (λc ds g' k=>∃q r s t rows,ds=[.int .i64 ((c:Int) - 1),q,r,s,t]∧bW a g g'∧g'[a]?=some (.row W 1 rows)∧rows.length=l.length∧(∀j,c≤j→j<l.length→rows[j]?=some (dH (jU l j)))∧(∀d∈rows,d.length=1)∧c≤l.length∧∃m f,k b=some (.mp m f)∧m+c=l.length∧jb l c f) (c+1) y .aO [a5,ak,al,aj,am] n an) λ_=>True by
   cases x:(f o.e.a1).isSome with
   | false =>
    rw[x]at h;simp only[bA,aR]at h;simp only[aQ,x,bA,aR,O,dE,lj];exact X ap ai (by rw[C,h]) _ _ _ _
   | true =>
    rw[x]at h;simp only[aM]at h;have a1:(rows.set c (dH (-1)))[c]?=some (dH (-1)):=by rw[jR (by omega)]
    simp only[aQ,x,aM,bH];refine kB C a1 rfl (by simp[-Qd,dH]) rfl λn v F=>?_
    rw[show dK (dH (-1)) 0 (cG (.int .i64 ((f o.e.a1).getD 0)))=dH ((f o.e.a1).getD 0)from rfl,List.set_set,h]at v;simp only[O,dE,lj];exact X n (ai.trans F) v _ _ _ _
  intro n F v ak al aj am;rw[Mv A aa ax (by omega)];simp only[fM,a6,O];refine qw ?_;unfold rv;refine ow.2 ⟨⟨c,uN c,_,_,_,_,_,rfl,ag.trans F,v,by simpa using ae,λj aq R=>?_,λd p=>?_,by omega,m+1,_,Pa _ _ _,by omega,?_⟩,rfl⟩
  ·by_cases az:j=c
   ·subst az;rw[jR (by omega)]
   ·rw[iD (by omega)];exact ad j (by omega) R
  ·rcases Ad p with p|p
   ·exact ac d p
   ·rw[p];rfl
  ·rw[← T];exact B.step ab
theorem C6{a:Mp}{r b n:Nat}{f:Int→Option Int}{left:Int→Bool}{h:Option (Int × Int)}(j:a r=some (.it b n f left h)){e:MK}(i:(∀x,cW x→left x=false)→e (.bN [.bool false]) a=some ())
  (h2:∀x c,cW x→cW c→left x=true→f x=some c→e (.bN [.bool true,.int .i64 x,.int .i64 c]) (a.set r (.it b n f (λz=>left z && !(z==x)) (some (x,c))))=some ()):qZ a (.raw (.pointer (some ⟨r,0,none⟩))) e=some ():=by
 unfold qZ;simp only[j];rw[kY.2 i];simp only[O];exact l6.2 λg=>kY.2 λd=>h2 g.1 g.2 d.1 d.2.1 d.2.2.1 d.2.2.2
theorem Mq{a:Mp}{r b n:Nat}{f:Int→Option Int}{left:Int→Bool}{x c:Int}(e:a r=some (.it b n f left (some (x,c))))(d:MK):qX a (.raw (.pointer (some ⟨r,0,none⟩))) d=d (.bN [.int .i64 x,.int .i64 c]) a:=by
 unfold qX;simp only[e]
theorem jb.some{l:List It}{f:Int→Option Int}(h:jb l 0 f){x c:Int}(a:f x=Option.some c):∃k:Nat,c=(k:Int)∧k<l.length∧dO l k=x∧gY l.length (dO l) 0 x=Option.some k:=by
 rw[h x]at a;cases b:gY l.length (dO l) 0 x with
 |none=>rw[b]at a;cases a
 | some k =>
  rw[b]at a;injection a with a;obtain⟨_,d,e,_⟩:=lY.1 b;exact⟨k,a.symm,d,e,rfl⟩
theorem Ly{l:List It}(bm:l.length≤900000000)(az:∀i∈l,cW i.e.a1){o r I b n0:Nat}{g:Z}{P:Mp}{rks:List Int}(a8:rks.length≤1000000000)(bp:l.length≤rks.length){N:Ex→List D→Z→Mp→Option Unit}(H:dX g o r rks [] .J){f:Int→Option Int}(au:P I=some (.it b n0 f (λx=>(f x).isSome) none))(t:jb l 0 f)(X aa:D)
  (be:∀ds g' y a k,dX g' o r rks a k→gj (cY (bR rks)) (aJ a) a.length→lW l.length (dO l) [] a→g.length≤g'.length→(∀j,j≠o→j<g.length→g'[j]?=g[j]?)→(k = .J∨∃q m,k = .S 1 q 0 m∧g.length≤q)→N (.ext 2) ds g' y=some ()) :
  my (pO (.ptr o 0 0) (.raw (.pointer (some ⟨I,0,none⟩)))) [X,aa] g P N=some ():=by
 refine xG (λm ds g' y=>∃Q R a k left T,ds=[Q,R]∧dX g' o r rks a k∧gj (cY (bR rks)) (aJ a) a.length∧g.length≤g'.length∧(∀j,j≠o→j<g.length→g'[j]?=g[j]?)∧(k = .J∨∃q m,k = .S 1 q 0 m∧g.length≤q)∧y I=some (.it b n0 f left T)∧a.Nodup∧(∀h:Nat,h∈a↔∃x,cW x∧f x=some (h:Int)∧left x=false)∧m+a.length=l.length) l.length
  ⟨X,aa,[],_,_,_,rfl,H,(λh bi s=>by simp at s),aS _,λ_ _ _=>rfl,.inl rfl,au,List.nodup_nil,λh=>⟨λs=>(by cases s),λ⟨x,_,d,c⟩=>(by rw[d]at c;cases c)⟩,by simp⟩ ?_
 rintro m ds ap am ⟨Q,R,a,k,left,T,rfl,M,ab,a1,ad,B,av,F,v,bn⟩;simp only[pO];refine C6 av (λax=>?_) λx bg ai bj a5 z=>?_
 ·simp only[kh,j7,O,aQ,bA,aR];refine be _ ap am a k M ab ⟨F,λi=>?_⟩ a1 ad B;rw[v i,Fa];constructor
  ·rintro⟨x,ai,d,c⟩;obtain⟨h,s,n,u,aq⟩:=t.some d;have:i=h:=by omega
   subst this;rw[u];exact aq
  ·intro d;have c:=lY.1 d;obtain⟨ba,ae⟩:∃p,l[i]?=some p:=⟨_,cA c.2.1⟩
   have n:cW (dO l i):=by rw[BW ae];exact az ba (eB ae)
   exact⟨dO l i,n,by rw[t,d];rfl,ax _ n⟩
 ·obtain⟨h,rfl,s,ac,bo⟩:=t.some z;simp only[kh,j7,O,aQ,aM];rw[Mq (pz _ _ _)];have af:h∉a:=λA=>by
   obtain⟨p,a9,d,c⟩:=(v h).1 A;obtain⟨w,n,_,u,_⟩:=t.some d;have:h=w:=by omega
   subst this;rw[u]at ac;rw[ac,a5]at c;cases c
  have a7:∀L∈h::a,L∈List.range l.length:=λL G=>by
   rcases eI.1 G with rfl|G
   ·exact j9.2 s
   ·obtain⟨p,a9,d,_⟩:=(v L).1 G;obtain⟨w,n,u,_⟩:=t.some d;exact j9.2 (by omega)
  have a3:=np (uJ.2 ⟨af,F⟩) a7;simp only[eF,uH]at a3;obtain⟨bh,an,ak,ao,al,K,ar,bk,⟨q,bc,a6,ag⟩,a0⟩:=D9 a8 (by omega) (show h<rks.length by omega) M ab;simp only[kh,j7,mX,O,ao];unfold rv;have bl:ak.length=a.length+1:=by rw[K.length_eq];simp[-Qd]
  refine ow.2 ⟨⟨m - 1,by omega,_,_,ak,an,_,_,rfl,al,ar,by omega,λj ah a4=>?_,.inr ⟨q,bc,a6,?_⟩,pz _ _ _,?_,λw=>?_,by omega⟩,rfl⟩
  ·rw[a0 j ah (λbq C=>?_) (by omega),ad j ah a4];rcases B with rfl|⟨bd,bb,rfl,a2⟩
   ·cases C
   ·injection C with _ C;omega
  ·rcases ag with⟨br,E⟩|ag
   ·rcases B with rfl|⟨bd,bb,rfl,a2⟩
    ·cases E
    ·injection E with _ E;omega
   ·omega
  ·rw[K.nodup_iff,Af];refine⟨F,by simp,λbf aw b ay=>?_⟩;rw[gx.1 ay];exact λA=>af (A▸aw)
  ·rw [K.mem_iff,eA,gx,v w];constructor
   ·rintro(⟨p,d,c,n⟩|rfl)
    ·exact⟨p,d,c,by simp[-Qd,n]⟩
    ·exact⟨x,ai,z,by simp⟩
   ·rintro⟨p,d,c,n⟩;by_cases aj:p=x
    ·right;subst aj;rw[z]at c;injection c with c;omega
    ·left;exact⟨p,d,c,by simpa[-Qd,aj]using n⟩
theorem MY{a:Type}{l:List a}{ps:List Nat}{k:Nat}{x:a}(h:l[k]?=some x):pk l (ps++[k])=pk l ps++[x]:=by
 unfold pk;rw[List.filterMap_append];simp[-Qd,h]
theorem xS{c:Type}{l:List c}:∀{ps:List Nat},(∀k∈ps,k<l.length)→(pk l ps).length=ps.length
 |[],_=>rfl
 | k::ps,h=>by
  have a:=h k (gO ..);have b:l[k]?=some l[k]:=cA a;unfold pk;rw[mW,b];simp only[eF];exact fB (· + 1) (xS (ps:=ps) λk a=>h k (fG _ a))
theorem MX{a b:Type}(f:a→b)(l:List a)(ps:List Nat):pk (l.map f) ps=(pk l ps).map f:=by
 unfold pk;rw[List.map_filterMap];congr 1;funext c;simp[-Qd]
theorem dX.aX{g g':Z}{o r:Nat}{rks:List Int}{e:List Nat}{b:D}(H:dX g o r rks e b)(h:∀a,(a=o∨a=r∨∃n,b = .S 1 a 0 n)→g'[a]?=g[a]?):dX g' o r rks e b:=by
 obtain⟨er,m⟩:=H.rk;refine⟨by rw[h o (.inl rfl)];exact H.ob,H.rr,⟨er,by rw[h r (.inr (.inl rfl))];exact m⟩,?_,H.pb⟩;rcases H.pp with l|⟨d,f,i,j,c,k⟩
 ·exact .inl l
 ·exact .inr ⟨d,f,i,j,c,by rw[h d (.inr (.inr ⟨_,c⟩))];exact k⟩
theorem tq{g:Z}{N:Nat}{rows:List (List D)}{d:D}(h:Own g N aI 11 rows d){c T z:Nat}{i:List (List D)}(a:g[c]?=some (.row T z i))(f:T≠aI):¬d.eH c:=by
 rintro⟨l,j,rfl⟩;rcases h with⟨b,_⟩|⟨k,_,b,e⟩
 ·cases b
 ·injection b with _ b;subst b;rw[e]at a;injection a with a;injection a with a;exact f a.symm
theorem dX.q8{g:Z}{o r:Nat}{rks:List Int}{l:List Nat}{c:D}(H:dX g o r rks l c){N:Nat}{rows:List (List D)}{d:D}(h:Own g N aI 11 rows d){b:Nat}(j:b=o∨b=r∨∃n,c = .S 1 b 0 n):¬d.eH b:=by
 rcases j with rfl|rfl|⟨n,a⟩
 ·exact tq h H.ob (by decide)
 ·obtain⟨er,k⟩:=H.rk;exact tq h k (by decide)
 ·rcases H.pp with⟨e,_⟩|⟨q,m,e,p,f,i⟩
  ·rw[e]at a;cases a
  ·rw[f]at a;injection a with _ a;subst a;exact tq h i (by decide)
theorem Lz {l:List It} {K:D} (b5:aU 11 aH l K) (c1:l.length≤900000000) {o r a N:Nat} {g:Z} {rks:List Int} (bc:rks.length≤1000000000) (c5:l.length≤rks.length) {e:List Nat} {s:D} (H:dX g o r rks e s) (bq:gj (cY (bR rks)) (aJ e) e.length) (bu:lW l.length (dO l) [] e) {rows:List (List D)}
  (bw:g[a]?=some (.row W 1 rows)) (cd:∀j,j<l.length→rows[j]?=some (dH (jU l j))) (av:a≠o) (b6:s = .J∨∃q m,s = .S 1 q 0 m∧q≠a∧N≤q) (cq:N≤o) (cp:N≤g.length) (cr:a<g.length) (m:Int) (X aa ab:D) :
  Wp (cH (lU K (.int .i64 m) (.ptr o 0 0) (.S 1 a 0 l.length)) [.J,X,aa,ab] g) λx=>∃ps f,x.1 = .ext 4∧Y 0 x.2.1=f∧eE l.length (dO l) (bR rks) ps∧ps.length=min m.toNat l.length∧Own x.2.2 N aI 11 ((pk l ps).map aH) f∧(ps=[]→f = .J)∧g.length≤x.2.2.length∧∀b,b<N→x.2.2[b]?=g[b]?:=by
 have cg:Wp ((cH (lU K (.int .i64 m) (.ptr o 0 0) (.S 1 a 0 l.length)) [.J,X,aa,ab] g).bind Option.some) λx=>∃ps f,x.1 = .ext 4∧Y 0 x.2.1=f∧eE l.length (dO l) (bR rks) ps∧ps.length=min m.toNat l.length∧Own x.2.2 N aI 11 ((pk l ps).map aH) f∧(ps=[]→f = .J)∧g.length≤x.2.2.length∧∀b,b<N→x.2.2[b]?=g[b]?:=by
  refine Wp.loop (λR aq B=>∃f an ao ap ps e s,aq=[f,an,ao,ap]∧R+ps.length=l.length+1∧eE l.length (dO l) (bR rks) ps∧ps.length≤m.toNat∧dX B o r rks e s∧gj (cY (bR rks)) (aJ e) e.length∧lW l.length (dO l) ps e∧B[a]?=some (.row W 1 rows)∧(s = .J∨∃q m,s = .S 1 q 0 m∧q≠a∧N≤q)∧Own B N aI 11 ((pk l ps).map aH) f∧(ps=[]→f = .J)∧g.length≤B.length∧∀b,b<N→B[b]?=g[b]?) _ (l.length+1)
   ⟨_,_,_,_,[],e,s,rfl,by simp,.nil,by simp,H,bq,bu,bw,b6,Own.J _ _ _ _,λ_=>rfl,aS _,λ_ _=>rfl⟩ ?_ (λr ak =>.some ak)
  rintro R aq co ⟨f,an,ao,ap,ps,e,s,rfl,cz,v,c3,G,br,C,bx,ay,y,a7,a1,ag⟩;have a5:(pk l ps).length=ps.length:=xS v.mem;have b7:aV tab cN f=some (.int .i64 (ps.length:Nat)):=by rw[Li y];simp[-Qd,a5]
  have c4:=v.len;simp only[lU,bY,dI,b7,dN,O];by_cases a6:(ps.length:Int)<m
  ·have bv:=yd G;simp only[a6,dJ,dC,fQ,aM,bv,O,eM,cX,aQ];by_cases ba:(0:Int)<(e.length:Nat)
   ·simp only[ba,dJ,aM,O];obtain⟨n,d⟩:∃n,e.length=n+1:=⟨e.length - 1,by omega⟩
    have c2:=Fe C;obtain⟨ad,ac,am,bk,A,T,au,b2,c7,al,q,k,F⟩:=NT bc d (by omega) G br;generalize cs:aJ e 0=c at *;have b3:c∈e:=T.mem_iff.2 (gO ..);obtain⟨ar,bp⟩:=Fc C b3 b2;have ax:c<l.length:=ar.1;obtain⟨bf,a2⟩:∃cf,l[c]?=some cf:=⟨_,cA ax⟩
    have aw:(0:Int)≤(c:Int):=by omega
    have b4:(c:Int)<(l.length:Int):=by omega
    have b1:l8 W (.iface W (.int .i64 (c:Int)))=some (.int .i64 (c:Int)):=by simp[-Qd,l8]
    have ai:q≠a:=by
     rcases ay with h|⟨bh,ci,h,M,_⟩
     ·rw[h]at k;cases k
     ·rw[h]at k;injection k with _ k;omega
    have ca:N≤q:=by
     rcases ay with h|⟨bh,ci,h,_,M⟩
     ·rw[h]at k;cases k
     ·rw[h]at k;injection k with _ k;omega
    have ae:ad[a]?=some (.row W 1 rows):=by
     rw[al a av (λn d=>by rw[k]at d;injection d with _ d;exact ai d)];exact bx
    have aj:Own ad N aI 11 ((pk l ps).map aH) f:=y.aX λb p u=>al b (λw=>G.q8 y (.inl w) u) (λn d=>G.q8 y (.inr (.inr ⟨n,d⟩)) u)
    have a0:∀b,b<N→ad[b]?=g[b]?:=λb p=>by
     rw[al b (by omega) (λn d=>by rw[k]at d;injection d with _ d;omega)];exact ag b p
    simp only[bk,O,b1,oY b5,aw,aM,eS,a2,gH,xA,F2];refine yx (n0:=N) (by omega) aj (ys:=[aH bf]) rfl (by simp[-Qd,a5];omega) λcl L z ct az a3 cw=>?_
    have P:L[a]?=some (.row W 1 rows):=by
     rw[a3 a (aZ.1 ae).1 (tq aj ae (by decide))];exact ae
    have I:dX L o r rks am ac:=A.aX λb p=>a3 b (by
     rcases p with rfl|rfl|⟨bg,i⟩
     ·exact(aZ.1 A.ob).1
     ·obtain⟨er,ak⟩:=A.rk;exact(aZ.1 ak).1
     ·rcases A.pp with⟨t,_⟩|⟨bh,cn,t,M,bn,bo⟩
      ·rw[t]at i;cases i
      ·rw[bn]at i;injection i with _ i;subst i;exact(aZ.1 bo).1) (A.q8 aj p)
    have cb:(pk l ps).map aH++[aH bf]=(pk l (ps++[c])).map aH:=by rw[MY a2];simp[-Qd]
    rw[cb]at z;have bd:eE l.length (dO l) (bR rks) (ps++[c]) :=.snoc v ar bp;have b0:=cd c ax;have cx:mj a 0 l.length (c:Int)=mj a 0 l.length (c:Int):=rfl;have bb:aN tab aP (.S 1 a 0 l.length) (.int .i64 (c:Int))=some (.ptr a c 0):=by
     rw[mj,bE ⟨aw,b4⟩];simp[-Qd]
    have a4:aA tab L W (.ptr a c 0)=some (.int .i64 (jU l c)):=by
     rw[fh,dW P,b0];rfl
    simp only[bb,a4,O,lA,aQ];have Q:=E2 (n:=l.length) (fl:=dO l) c;cases E:gY l.length (dO l) (c+1) (dO l c)with
    | none =>
     have af:jU l c = -1:=by unfold jU;rw[E]
     have b8:¬(0:Int) ≤ -1:=by omega
     rw[E]at Q;simp only[af,b8,cV,bA,aR,O,lj];refine .some (.inl ⟨rfl,R - 1,by omega,_,_,_,_,ps++[c],am,ac,rfl,by simp;omega,bd,by simp;omega,I,au,An v C T Q (by simp),P,.inr ⟨q,_,F,ai,ca⟩,z,(λw=>by simp at w),(show g.length≤L.length by omega),λb p=>?_⟩);rw[az b p];exact a0 b p
    | some j =>
     have af:jU l c=(j:Int):=by unfold jU;rw[E]
     have ce:(0:Int)≤(j:Int):=by omega
     have cy:=lY.1 E;have c0:am.length≤900000000:=by have:=T.length_eq;simp at this;omega
     rw[E]at Q;obtain⟨bm,bj,ch,bl,bi,ck,bt,cu,⟨cj,c6,b9,a9⟩,ah⟩:=D9 bc (by omega) (show j<rks.length by omega) I au;have a8:∀b,(cl.eH b)→b≠o∧∀n,ac ≠ .S 1 b 0 n:=λb u=>⟨λw=>I.q8 z (.inl w) u,λn d=>I.q8 z (.inr (.inr ⟨n,d⟩)) u⟩
     simp only[af,ce,dJ,aM,O,bb,a4,bl,lj];have bz:=(aZ.1 P).1;refine .some (.inl ⟨rfl,R - 1,by omega,_,_,_,_,ps++[c],ch,bj,rfl,by simp;omega,bd,by simp;omega,bi,bt,An v C T Q (ck.trans (by simpa using List.perm_append_comm)),?_,.inr ⟨cj,_,b9,?_,?_⟩,z.aX λb p u=>?_,(λw=>by simp at w),(show g.length≤bm.length by omega),λb p=>?_⟩)
     ·rw[ah a av (λn d=>by rw[F]at d;injection d with _ d;exact ai d) bz];exact P
     ·rcases a9 with⟨bg,i⟩|h
      ·rw[F]at i;injection i with _ i;omega
      ·omega
     ·rcases a9 with⟨bg,i⟩|h
      ·rw[F]at i;injection i with _ i;omega
      ·omega
     ·exact ah b (a8 b u).1 (a8 b u).2 (z.lt u).2
     ·rw[ah b (by omega) (λn d=>by rw[F]at d;injection d with _ d;omega) (by omega),az b p];exact a0 b p
   ·have cc:e=[]:=gE (by omega);subst cc;simp only[ba,cV,bA,aR];have:=Ff C v;exact .some (.inr ⟨by simp,ps,f,rfl,rfl,v,by omega,y,a7,a1,ag⟩)
  ·simp only[a6,cV,dC,fQ,bA,aR,O,ia,cX,aQ];exact .some (.inr ⟨by simp,ps,f,rfl,rfl,v,by omega,y,a7,a1,ag⟩)
 obtain⟨x,t,M⟩:=cg;cases be:cH (lU K (.int .i64 m) (.ptr o 0 0) (.S 1 a 0 l.length)) [.J,X,aa,ab] g with
 |none=>rw[be]at t;cases t
 | some cm =>
  rw[be]at t;injection t with t;subst t;exact⟨cm,rfl,M⟩
theorem Dg(h:Z)(n:Nat)(b:n≤2000000000):qj tab h aP (.int .i64 n) (.int .i64 n)=some (.S 1 h.length 0 n,aL h W 1 (List.replicate n [.int .i64 0])):=by
 have a:lim ((n:Int)).toNat fb.gA=true:=by rw[eS];exact ta b
 show(if 0≤(n:Int)∧(n:Int)≤n∧lim (n:Int).toNat fb.gA=true∧0<fb.V then some (D.S fb.V h.length 0 (n:Int).toNat,aL h W fb.V (List.replicate (n:Int).toNat fb.zero))else none)=_;rw[bE ⟨by omega,by omega,a,by decide⟩,eS];rfl
theorem FD{h:Z}{o n:Nat}{rks:List Int}(d:h[o]?=some (.row W 1 (rks.map dH)))(e:rks.length=n)(i:n≤900000000)(g:0<n):dM tab h aP W (.S 1 o 0 n) (.int .i64 n)=some (.S 1 h.length 0 (rks++List.replicate n 0).length,aL (h.set o .dead) W 1 ((rks++List.replicate n 0).map dH)):=by
 rw[Pf];have b:jW h fb fb (.int .i64 n)=some (List.replicate n [.int .i64 0]):=by
  show(if 0≤(n:Int)∧lim (n:Int).toNat fb.gA=true then some (List.replicate (n:Int).toNat fb.zero)else none)=_;rw[bE ⟨by omega,by rw[eS];exact ta (by omega)⟩,eS];rfl
 unfold tT;rw[b];obtain⟨a,rfl⟩:∃a,n=a+1:=⟨n - 1,by omega⟩
 have f:fb.V=1:=id rfl;have c:lim (a+1+(a+1)) fb.gA=true:=ta (by omega);simp only[f,show Nat.blt 0 1=true from rfl,uL,d,gi,eF,List.length_replicate,c,e,aS,gz,aM,gh,iF,iS,List.map_replicate];rfl
theorem Nn{rks:List Int}{n k:Nat}(a:k<rks.length):bR (rks++List.replicate n 0) k=hZ rks k:=by
 unfold bR hZ;rw[dY a]
theorem Of{n:Nat}{fl rk e:Nat→Int}(h:∀k,k<n→rk k=e k){l:List Nat}(d:eE n fl rk l):eE n fl e l:=by
 induction d with
 |nil=>exact .nil
 | snoc d a f i =>
  refine .snoc i a λg b c=>f g b ?_
  unfold cY at c ⊢;rw[h _ b.1,h _ a.1];exact c
theorem OA{n:Nat}{h:Z}{e:List It}:∀row∈e.map aH,∀d∈row,bP n h 3 d=d:=by
 intro row b d a;obtain⟨c,_,rfl⟩:=eJ.1 b;exact s0 n h 2 c d a
theorem ML{i p:D}(x:aU 11 aH [] i)(af:aU 1 dH [] p)(m:Int)(h:Z):pM i p (.int .i64 m) h (λd h'=>eL (scope h h' d=some (.J,h)) (some ()))=some ():=by
 have q:∃a,R sH [p] h=some (a,h)∧(a = .J∨a = .sl 1 true []):=by
  rcases af with⟨rfl,_⟩|⟨e,rfl⟩
  ·refine⟨.J,?_,.inl rfl⟩;rw[vn];have j:U tab .eql aP .J .J=some (.bool true):=id rfl;simp only[rM,j,O,aQ,aM,cS]
  ·refine⟨.sl 1 true [],?_,.inr rfl⟩;rw[vn];have j:U tab .eql aP (.sl 1 e (List.map dH [])) .J=some (.bool false):=id rfl;have r:dM tab h aP aP (.sl 1 true []) (.sl 1 e (List.map dH []))=some (.sl 1 true [],h):=id rfl;simp only[rM,j,r,O,aQ,bA,aR,AL,cS]
 obtain⟨a,q,y⟩:=q;have X:aV tab cN i=some (.int .i64 (0:Nat)):=by simpa using k3 x
 have j:dM tab h aP W a (.int .i64 (0:Nat))=some (a,h):=by rcases y with rfl|rfl<;>exact id rfl
 have r:dZ tab dR [1] [a]=some (.agg [.J,a]):=AF _ (by rcases y with rfl|rfl<;>rfl);have F:=tU dR 2 h [.J,a] rfl (by decide);have G:=Dg (aL h dR 2 [[.J,a]]) 0 (by omega);have l:(aL h dR 2 [[.J,a]]).length=h.length+1:=by simp[-Qd,aL]
 have aj:IntKind.wrap .i64 (((0:Nat):Int) - 1)=((([]:List It).length:Nat):Int) - 1:=rfl;unfold pM;simp only[q,X,j,r,F,G,O,fM,aj];unfold th;refine l6.2 λw=>kY.2 λ_=>?_
 rw[l];have N:(aL (aL h dR 2 [[.J,a]]) W 1 (List.replicate 0 [.int .i64 0]))[h.length+1]?=some (.row W 1 (List.replicate ([]:List It).length [.int .i64 0])):=by
  have:=jG (aL h dR 2 [[.J,a]]) W 1 (List.replicate 0 [.int .i64 0])
  rwa [l]at this
 have ad:(aL (aL h dR 2 [[.J,a]]) W 1 (List.replicate 0 [.int .i64 0]))[h.length]?=some (.row dR 2 [[.J,a]]):=by
  rw[iW _ _ _ _ (by rw[l];omega)];exact jG _ _ _ _
 refine C4 x (by simp) (λak Q=>by cases Q) N (pz _ _ _) _ _ _ _ λf k E al C e t _ _ _ L M=>?_
 have ae:k[h.length]?=some (.row dR 2 [[.J,a]]):=by rw[t.2 _ (by omega)];exact ad
 have ac:∀c,e c=none:=λc=>by
  rw[M c];cases s:gY ([]:List It).length (dO []) 0 c with
  |none=>rfl
  |some B=>have:=(lY.1 s).2.1;simp at this
 simp only[eW,dE];unfold q0;simp only[L];refine l6.2 λu=>kY.2 λ_=>?_
 have aa:∀n:Ex→List D→Z→Mp→Option Unit,(∀f b g,b=k→n (.ext 2) f b g=some ())→my (pO (.ptr h.length 0 0) (.raw (.pointer (some ⟨u,0,none⟩)))) [.any,.any] k (E.set u (.it w C e (λc=>(e c).isSome) none)) n=some ():=λn H=>by
  refine xG (λB f b g=>b=k∧(∃v o,f=[v,o])∧g u=some (.it w C e (λc=>(e c).isSome) none)) 0 ⟨rfl,⟨_,_,rfl⟩,pz _ _ _⟩ ?_;rintro B f b g ⟨rfl,⟨v,o,rfl⟩,K⟩;simp only[pO];refine C6 K (λ_=>?_) λc o _ _ _ A=>?_
  ·simp only[kh,j7,O,aQ,bA,aR];exact H _ _ _ rfl
  ·rw[ac]at A;cases A
 refine aa _ λf b g P=>?_
 subst P;have ah:aA tab b aP (.ptr h.length 0 (0+0))=some .J:=by
  rw[xC,dW ae];rfl
 have I:R qC [.ptr h.length 0 0] b=some (.int .i64 (0:Nat),b):=by
  rw[Bo];simp only[uy,pj,(nE h.length).1,ah,Lh,O,cS];rfl
 have T:cH (lU i (.int .i64 m) (.ptr h.length 0 0) (.S 1 (h.length+1) 0 0)) [.J,.any,.any,.any] b=some (.ext 4,[.J,.any,.bool false,.any],b):=by
  rw[iM];have:lU i (.int .i64 m) (.ptr h.length 0 0) (.S 1 (h.length+1) 0 0) [.J,.any,.any,.any] b=some (.ext 4,[.J,.any,.bool false,.any],b):=by
   have ab:aV tab cN .J=some (.int .i64 0):=id rfl;simp only[lU,bY,dI,ab,dN,O];by_cases z:(0:Int)<m
   ·simp only[z,dJ,dC,fQ,aM,I,O,eM,cX,aQ]
    try rfl
   ·simp only[z,cV,dC,fQ,bA,aR,O,ia,cX,aQ]
    try rfl
  rw[this];rfl
 simp only[eW,dE,T,O,bY,cS];have ag:scope h b .J=some (.J,h):=by
  refine jZ rfl .J (by have:=t.1;simp[-Qd,aL]at this;omega) λai s=>?_
  rw[t.2 ai (by omega),iW _ _ _ _ (by rw[l];omega),iW _ _ _ _ s]
 simp only[ag,eL,aM]
theorem MJ{l:List It}{rks:List Int}{x F:D}(k:aU 11 aH l x)(A:aU 1 dH rks F)(R:l.length=rks.length)(bt:l.length≤400000000)(ao:0<l.length)(L:∀i∈l,cW i.e.a1)(m:Int)(h:Z):
  pM x F (.int .i64 m) h (λd h'=>eL (scope h h' d=some (kA 11 ((pk l (jc l.length (dO l) (hZ rks) m.toNat)).map aH),h)) (some ()))=some ():=by
 have G:=NS A h (by omega) (by omega);rw[← R]at G;have a0:aV tab cN x=some (.int .i64 (l.length:Nat)):=k3 k;have al:=jG h W 1 (rks.map dH);have s:=FD al R.symm (by omega) ao;have K:(aL h W 1 (rks.map dH)).length=h.length+1:=by simp[-Qd,aL]
 rw[K]at s;generalize B:rks++List.replicate l.length 0=b at s;have X:l.length≤b.length:=by rw[← B];simp[-Qd]
 have bu:b.length≤1000000000:=by rw[← B];simp[-Qd];omega
 generalize y:aL ((aL h W 1 (rks.map dH)).set h.length .dead) W 1 (b.map dH)=f at s;have p:f.length=h.length+2:=by rw[← y];simp[-Qd,aL]
 have bc:∀c,c<h.length→f[c]?=h[c]?:=λc q=>by
  rw[← y,iW _ _ _ _ (by simp[-Qd,aL];omega),iD (by omega),iW _ _ _ _ q]
 have bg:f[h.length+1]?=some (.row W 1 (b.map dH)):=by
  have:=jG ((aL h W 1 (rks.map dH)).set h.length .dead) W 1 (b.map dH);rw[List.length_set,K,y]at this;exact this
 have aj:dZ tab dR [1] [.S 1 (h.length+1) 0 b.length]=some (.agg [.J,.S 1 (h.length+1) 0 b.length]):=AF _ rfl;have ak:=tU dR 2 f [.J,.S 1 (h.length+1) 0 b.length] rfl (by decide);have H:=Dg (aL f dR 2 [[.J,.S 1 (h.length+1) 0 b.length]]) l.length (by omega);have u:(aL f dR 2 [[.J,.S 1 (h.length+1) 0 b.length]]).length=h.length+3:=by simp[-Qd,aL,p]
 rw[u]at H;have bi:IntKind.wrap .i64 ((l.length:Int) - 1)=(l.length:Int) - 1:=dF (by omega) (by omega);unfold pM;simp only[G,a0,s,aj,ak,H,O,fM,bi];generalize t:aL (aL f dR 2 [[.J,.S 1 (h.length+1) 0 b.length]]) W 1 (List.replicate l.length [.int .i64 0])=j;have br:j.length=h.length+4:=by rw[← t];simp[-Qd,aL,p]
 have ag:j[h.length+3]?=some (.row W 1 (List.replicate l.length [.int .i64 0])):=by
  have:=jG (aL f dR 2 [[.J,.S 1 (h.length+1) 0 b.length]]) W 1 (List.replicate l.length [.int .i64 0]);rw[u,t]at this;exact this
 have ad:∀c,c<h.length+2→j[c]?=f[c]?:=λc q=>by
  rw[← t,iW _ _ _ _ (by rw[u];omega),iW _ _ _ _ (by rw[p];omega)]
 have be:j[h.length+2]?=some (.row dR 2 [[.J,.S 1 (h.length+1) 0 b.length]]):=by
  rw[← t,iW _ _ _ _ (by rw[u];omega)];have:=jG f dR 2 [[.J,.S 1 (h.length+1) 0 b.length]]
  rwa [p]at this
 unfold th;refine l6.2 λC=>kY.2 λ_=>?_
 rw[p];refine C4 (l:=l) k (by omega) L ag (pz _ _ _) _ _ _ _ λai am bl bh bz bo v ax bv a8 ar au=>?_
 have ae:dX am (h.length+2) (h.length+1) b [] .J:=⟨by rw[v.2 _ (by omega)];exact be,by omega,⟨[],by rw[v.2 _ (by omega),ad _ (by omega),bg];simp[-Qd]⟩,.inl ⟨rfl,rfl⟩,λbb Q=>by cases Q⟩
 simp only[eW,dE];unfold q0;simp only[ar];refine l6.2 λbx=>kY.2 λ_=>?_
 have bw:=v.1;refine Ly (l:=l) (by omega) L (rks:=b) (by omega) X ae (pz _ _ _) au _ _ λai an bm b0 bn af ap aq bq M a2=>?_
 have ah:an[h.length+3]?=some (.row W 1 bh):=by rw[M _ (by omega) (by omega)];exact ax
 obtain⟨bj,ba,w,E,ab,ac,aa,a6,T,a4,ay,P⟩:=Lz (l:=l) k (by omega) (rks:=b) (o:=h.length+2) (r:=h.length+1) (a:=h.length+3) (N:=h.length) (by omega) X af ap aq ah a8 (by omega) (by
  rcases a2 with g|⟨bf,bd,g,f⟩
  ·exact .inl g
  ·exact .inr ⟨bf,bd,g,by omega,by omega⟩) (by omega) (by omega) (by omega) m .any .any .any
 obtain⟨b2,b3,I⟩:=bj;simp only at ab ac T ay P;subst ab;simp only[eW,dE,ba,O,bY,ac,cS];have a7:w=jc l.length (dO l) (hZ rks) m.toNat:=Ap (Of (λbb Q=>by rw[← B];exact Nn (by omega)) aa) a6;have aw:bP h.length I 4 E=kA 11 ((pk l (jc l.length (dO l) (hZ rks) m.toNat)).map aH):=by
  rw[← a7];rcases Ca T (aS _) (n:=3) OA with⟨g,f⟩|g
  ·rw[g,f];rfl
  ·by_cases z:w=[]
   ·rw[a4 z,z];rfl
   ·rw[g];have a3:(pk l w).map aH≠[]:=λaz=>by
     have bp:=xS (l:=l) aa.mem;have j:=fB List.length az;simp only[gi,e8]at j;exact z (gE (by omega))
    cases av:(pk l w).map aH with
    |nil=>exact absurd av a3
    |cons a C=>rfl
 have a5:Ok h.length (kA 11 ((pk l (jc l.length (dO l) (hZ rks) m.toNat)).map aH)):=by
  generalize (pk l (jc l.length (dO l) (hZ rks) m.toNat))=bk;cases bk with
  |nil=>exact .J
  | cons a C =>
   refine .sl _ _ _ λb1 A d k=>?_
   obtain⟨i,_,rfl⟩:=eJ.1 A;exact xx _ i d k
 have a9:scope h I E=some (kA 11 ((pk l (jc l.length (dO l) (hZ rks) m.toNat)).map aH),h):=by
  refine jZ aw a5 (by omega) λc q=>?_
  rw[P c q,M c (by omega) (by omega),v.2 c (by omega),ad c (by omega),bc c q]
 simp only[a9,eL,aM]
theorem Om{a:List (Int × Int × aG)}{d:D}(h:aU 3 xF a d):aU 3 aY (a.map λp=>cL.mk p.1 p.2.1 p.2.2) d:=by
 rcases h with⟨rfl,rfl⟩|⟨b,rfl⟩
 ·exact .inl ⟨rfl,rfl⟩
 ·exact .inr ⟨b,by rw[pV];rfl⟩
theorem Ln{a:List cL}{d:D}(h:aU 3 aY a d):aU 3 xF (a.map λp=>(p.off,p.len,p.fT)) d:=by
 rcases h with⟨rfl,rfl⟩|⟨b,rfl⟩
 ·exact .inl ⟨rfl,rfl⟩
 ·exact .inr ⟨b,by rw[pV];rfl⟩
end Go.Proofs.YtinlnkhheafjaaaDoor
namespace Go.Eng
abbrev oe:=@List.append_inj'
end Go.Eng
namespace Go.Proofs.YtinlnkhheafjaaaDoor
open Go.Eng Go.Pi
open Option renaming bind_some → Qd
theorem KK{row:List D}(h:rP row):∃i:It,aH i=row∧cW i.e.a1:=by
 obtain⟨r,s,t,a,b,c,d,f,g,q,j,u,k,rfl,l,m,n,o,p⟩:=h;exact⟨⟨r,⟨a,b,c,d,_,q,f,g,s,t,k,j,n,o,Om l,by simpa using m⟩⟩,rfl,p⟩
theorem MN{i:It}(h:cW i.e.a1):rP (aH i):=⟨i.r,i.e.s7,i.e.s8,i.e.a0,i.e.a1,i.e.a2,i.e.a3,i.e.a5,i.e.a6,i.e.ld,i.e.fd,_,i.e.fs,rfl,Ln i.e.iK,by simpa using i.e.qL,i.e.hN,i.e.hl,h⟩
theorem Cm:∀{b:List (List D)},(∀row∈b,rP row)→∃l:List It,b=l.map aH∧∀i∈l,cW i.e.a1
 |[],_=>⟨[],rfl,λi hi=>by cases hi⟩
 | row::b,h=>by
  obtain⟨i,c,h2⟩:=KK (h row (gO ..));obtain⟨l,d,f⟩:=Cm λk g=>h k (fG _ g)
  refine⟨i::l,by rw[iS,c,d],λj a=>?_⟩;rcases eI.1 a with rfl|a
  ·exact h2
  ·exact f j a
theorem DT:∀{a:List (List D)},(∀row∈a,∃r,row=[.int .i64 r])→∃rks:List Int,a=rks.map dH
 |[],_=>⟨[],rfl⟩
 | row::a,h=>by
  obtain⟨r,rfl⟩:=h row (gO ..);obtain⟨d,b⟩:=DT λr c=>h r (fG _ c)
  exact⟨r::d,by rw[iS,← b];rfl⟩
theorem DV{a:Type}{z:Nat}{f:a→List D}{l:List a}{d:D}(h:jQ z d=some (l.map f)):aU z f l d:=by
 unfold jQ at h;split at h
 ·injection h with h;exact .inl ⟨rfl,List.map_eq_nil_iff.1 h.symm⟩
 ·split at h
  ·rename_i b;injection h with h;subst b;exact .inr ⟨_,by rw[h]⟩
  ·cases h
 ·cases h
theorem Ei{a:Type}{z:Nat}{f:a→List D}{l:List a}{d:D}(h:aU z f l d):jQ z d=some (l.map f):=by
 rcases h with⟨rfl,rfl⟩|⟨b,rfl⟩
 ·rfl
 ·unfold jQ;simp[-Qd]
theorem Dp(l:List It)(rks:List Int)(m:Int):xM (l.map aH) (rks.map dH) m=(pk l (jc l.length (dO l) (hZ rks) m.toNat)).map aH:=by
 unfold xM;rw[MX,gi,pV,pV];have a:(qM 2 ∘ aH)=λc=>c.e.a1:=rfl
 have b:(rks.map (qM 0 ∘ dH))=rks:=by
  have:(qM 0 ∘ dH)=id:=rfl;rw[this];simp[-Qd]
 rw[a,b]
theorem GC{l:List It}{rks:List Int}{b c:D}(f:aU 11 aH l b)(n:aU 1 dH rks c)(k:l.length=rks.length)(j:l.length≤400000000)(g:∀i∈l,cW i.e.a1)(m:Int)(h:Z):
  oC [b,c,.int .i64 m] h=some (kA 11 ((pk l (jc l.length (dO l) (hZ rks) m.toNat)).map aH),h):=by
 unfold oC;simp only[Ei f,Ei n];rw[bE,Dp];refine⟨by simpa using k,by simpa using j,λo a=>?_,λo a=>?_⟩
 ·obtain⟨i,d,rfl⟩:=eJ.1 a;exact MN (g i d)
 ·obtain⟨i,d,rfl⟩:=eJ.1 a;exact⟨i,rfl⟩
theorem O5{args:List D}{h:Z}{r:D × Z}(a:oC args h=some r):mF X R cH Em Cg args h (λd h'=>eL (scope h h' d=some r) (some ()))=some ():=by
 unfold oC at a;split at a
 case h_2=>cases a
 rename_i w y c;split at a
 case h_2=>cases a
 rename_i x z s t;split at a
 case isFalse=>cases a
 rename_i q;injection a with a;subst a;obtain⟨e,f,k,l⟩:=q;obtain⟨j,rfl,n⟩:=Cm k;obtain⟨u,rfl⟩:=DT l;rw[JV,Dp];simp only[gi]at e f;have g:=DV s;have i:=DV t;rcases rY j.length with b|b
 ·have p:j=[]:=gE b;have o:u=[]:=gE (by omega);subst p;subst o;have:pk ([]:List It) (jc ([]:List It).length (dO []) (hZ []) c.toNat)=[]:=by
   unfold pk;exact List.filterMap_eq_nil_iff.2 λv _=>rfl
  rw[this];exact ML g i c h
 ·exact MJ g i e f b n c h
def cU(f x:Int):It:=⟨[114],⟨0,f,x,x+1,[⟨x,1,[]⟩],.sl 3 true [[.int .i64 x,.int .i64 1,.str []]],0,0,[],[],[],.J,.J _ _,by simp,.mk _ _ _ _,by simp⟩⟩
theorem yc(f x:Int)(q:0≤x)(r:x≤10)(h:Z):R nD [.int .i64 f,.int .i64 x] h=some (.agg (aH (cU f x)),h):=by
 have p:IntKind.wrap .i64 (x+1)=x+1:=dF (by omega) (by omega);have d:dZ tab bF [0,1] [.int .i64 x,.int .i64 1]=some (.agg [.int .i64 x,.int .i64 1,.str []]):=id rfl;have g:bI tab bB 1 [0] [.agg [.int .i64 x,.int .i64 1,.str []]]=some (.sl 3 true [[.int .i64 x,.int .i64 1,.str []]]):=id rfl;have i:dZ tab aF [1,2,3,4] [.int .i64 f,.int .i64 x,.int .i64 (x+1),.sl 3 true [[.int .i64 x,.int .i64 1,.str []]]]=some (.agg (cD (cU f x).e)):=id rfl;have j:dZ tab aI [0,1] [.str [114],.agg (cD (cU f x).e)]=some (.agg (aH (cU f x))):=id rfl;apply Wp.val;rw[HJ];simp only[zl,O,dV,p,d,g,i,j];have k:=jG h aI 11 [[.str [],.int .i64 0,.int .i64 0,.int .i64 0,.int .i64 0,.J,.int .i64 0,.int .i64 0,.str [],.str [],.J]];simp only[bH];refine ll k (by rfl) (by rfl) (by exact aS _) (by rfl) λa b c=>?_
 have b:a[h.length]?=some (.row aI 11 [aH (cU f x)]):=b;have l:aA tab a aI (.ptr h.length 0 0)=some (.agg (aH (cU f x))):=by
  rw[CN,dW b];rfl
 simp only[O,l,cS];have n:scope h a (.agg (aH (cU f x)))=some (.agg (aH (cU f x)),h):=by
  refine jZ (by rfl) (qP _ _) (by have:=c.1;simp[-Qd,aL]at this;omega) λo m=>?_
  rw[c.2 o (by omega),iW _ _ _ _ m]
 rw[n];exact .some rfl
theorem Gc(f:FuncId)(xs:List D)(h:Z):fA R1 (.fn (.func f) [] []) xs h=R1 f xs h:=by
 rw[AV];simp[-Qd]
theorem NR(h:Z):R1 vI [] h=some (.bool true,h):=by
 have p:=yc 1 0 (by omega) (by omega) h;have q:=yc 2 0 (by omega) (by omega) h;have r:=yc 1 1 (by omega) (by omega) h;have s:bI tab cN 3 [0,1,2] [.agg (aH (cU 1 0)),.agg (aH (cU 2 0)),.agg (aH (cU 1 1))]=some (.sl 11 true ([cU 1 0,cU 2 0,cU 1 1].map aH)):=id rfl;have t:bI tab aP 3 [0,1,2] [.int .i64 0,.int .i64 5,.int .i64 9]=some (.sl 1 true ([0,5,9].map dH)):=id rfl;have C:[1,0]=jc 3 (dO [cU 1 0,cU 2 0,cU 1 1]) (hZ [0,5,9]) 2:=by
  have d:dO [cU 1 0,cU 2 0,cU 1 1] 0=1:=rfl;have v:dO [cU 1 0,cU 2 0,cU 1 1] 1=2:=rfl;have g:dO [cU 1 0,cU 2 0,cU 1 1] 2=1:=rfl;have L:hZ [0,5,9] 0=0:=rfl;have r1:hZ [0,5,9] 1=5:=rfl;have w:fX 3 (dO [cU 1 0,cU 2 0,cU 1 1]) [] 1:=⟨by omega,by simp,λi A B=>by
   obtain rfl:i=0:=by omega
   rw[d,v]at B;omega⟩
  have x:fX 3 (dO [cU 1 0,cU 2 0,cU 1 1]) ([]++[1]) 0:=⟨by omega,by simp,λi A=>by omega⟩
  refine Ap (m:=2) (.snoc (ps:=[1]) (.snoc (ps:=[]) .nil w λa b=>?_) x λa b=>?_) rfl
  ·obtain⟨y,_,f⟩:=b;have:a=0∨a=1∨a=2:=by omega
   unfold cY;rcases this with rfl|rfl|rfl
   ·rw[L,r1];omega
   ·omega
   ·have:=f 0 (by omega) (by rw[d,g]);simp at this
  ·obtain⟨y,z,f⟩:=b;have:a=0∨a=1∨a=2:=by omega
   unfold cY;rcases this with rfl|rfl|rfl
   ·omega
   ·simp at z
   ·have:=f 0 (by omega) (by rw[d,g]);simp at this
 have c:=GC (l:=[cU 1 0,cU 2 0,cU 1 1]) (rks:=[0,5,9]) (.inr ⟨true,rfl⟩) (.inr ⟨true,rfl⟩) rfl (by simp) (λa b=>by
  simp only[eI,uK,lP]at b;unfold cW;rcases b with rfl|rfl|rfl<;>simp[-Qd,cU]) 2 h
 rw[show([cU 1 0,cU 2 0,cU 1 1]:List It).length=3 from rfl,show(2:Int).toNat=2 from rfl,← C]at c;have u:kA 11 ((pk [cU 1 0,cU 2 0,cU 1 1] [1,0]).map aH) = .sl 11 false [aH (cU 2 0),aH (cU 1 0)]:=rfl;rw[u]at c;have E:aN tab cN (.sl 11 false [aH (cU 2 0),aH (cU 1 0)]) (.int .i64 0)=some (.aD (aH (cU 2 0))):=id rfl;have F:aN tab cN (.sl 11 false [aH (cU 2 0),aH (cU 1 0)]) (.int .i64 1)=some (.aD (aH (cU 1 0))):=id rfl;have G:aV tab cN (.sl 11 false [aH (cU 2 0),aH (cU 1 0)])=some (.int .i64 2):=id rfl;have M:aC tab aF 2 (.aD (cD (cU 1 0).e))=some (.aD (.int .i64 0::(cD (cU 1 0).e).drop 3)):=id rfl;have N:∀(j:Int) (o:List D),aA tab h W (.aD (.int .i64 j::o))=some (.int .i64 j):=λ_ _=>id rfl
 have k:(cU 2 0).e.a1=2:=rfl;have n:(cU 1 0).e.a1=1:=rfl;have H:U tab .eql W (.int .i64 2) (.int .i64 2)=some (.bool true):=id rfl;have I:U tab .eql W (.int .i64 1) (.int .i64 1)=some (.bool true):=id rfl;have K:U tab .eql W (.int .i64 0) (.int .i64 0)=some (.bool true):=id rfl;rw[HI];simp only[zk,Gc,M8,p,q,r,s,t,Pn,c,O,G,H,dC,aM,E,F,sZ,BA,k,n,I,M,N,K,cX,cS]
theorem xZ(i:It):dT 2 (aH i)=some i.e.a1:=rfl
theorem x3(i:It):dT 4 (aH i)=some i.e.a3:=rfl
theorem CF(f:Int):∀(c:List It) (a:Int × Bool) (b:Option Int),a=(b.getD 0,b.isSome) →
  (c.map aH).foldl (λa r=>if dT 2 r=some f then((dT 4 r).getD 0,true)else a) a=(((c.map bQ).foldl (λa x=>if x.a1=f then some x.a3 else a) b).getD 0,((c.map bQ).foldl (λa x=>if x.a1=f then some x.a3 else a) b).isSome)
 |[],a,b,h=>h
 | i::c,a,b,h=>by
  simp only[iS,pU];refine CF f c _ _ ?_;rw[xZ,x3];show _=((if i.e.a1=f then some i.e.a3 else b).getD 0,(if i.e.a1=f then some i.e.a3 else b).isSome)
  by_cases d:i.e.a1=f
  ·simp[-Qd,d]
  ·simp[-Qd,d,h]
theorem N0{a:List It}{b:D}(e:aU 11 aH a b)(j:a.length≤1000000)(f:Int)(h:Z):R qF [b,.int .i64 f] h=some (.bN [.int .i64 ((eU f (a.map bQ)).getD 0),.bool (eU f (a.map bQ)).isSome],h):=by
 rw[Pp];rcases e with⟨rfl,rfl⟩|⟨i,rfl⟩
 ·rfl
 ·have c:(a.map aH).all (mG 2 4)=true:=by
    rw[ff];intro l g;obtain⟨k,_,rfl⟩:=eJ.1 g;rfl
  have d:nG 2 4 f (a.map aH)=((eU f (a.map bQ)).getD 0,(eU f (a.map bQ)).isSome):=CF f a _ _ rfl;unfold qi;simp only[c,d,gi,true_and];rw[bE (by omega)]
theorem gM.take{xs:List RI}(h:gM xs)(n:Nat):gM (xs.take n):=λd e a c b=>by
 rw[eY]at a;split at a
 ·rename_i f;rw[List.take_take,uO (by omega)]at b;exact h d e a c b
 ·cases a
theorem gM.at{a:List It}(h:gM (a.map bQ)){j:Nat}{i:It}(c:a[j]?=some i):∀e,eU i.e.a1 ((a.take j).map bQ)=some e→e=i.e.a2:=λe b=>by
 refine h j (bQ i) (by rw[dB,c];rfl) e ?_;rw[← rV];exact b
theorem NY{c:List It}{L:List Int}{o p:D}(r:aU 11 aH c o)(aj:aU 1 fm L p)(ar:c.length≤1000)(ai:L.length=c.length)(ah:∀i∈c,lu i∧i.e.fs.length≤20)(ab:gM (c.map bQ))(k:Int)(aq:(c.length:Nat)≤k)(h:Z):R qE [o,p,.int .i64 k] h=some (.bool true,h):=by
 have G:aV tab cN o=some (.int .i64 (c.length:Nat)):=k3 r;have H:aV tab aP p=some (.int .i64 (c.length:Nat)):=by rw[← ai];exact mu aj
 have ae:¬((c.length:Nat):Int)>k:=by omega
 apply Wp.val;rw[HU];simp only[zx,G,H,O,eM,ae,cV,dC,bA,aR,aM,G,H,eC,fw,gq,cX,aQ,bH];refine Wp.loop (λd q b=>∃(j:Nat) (x y z A B C:D),q=[.bool false,x,y,z,A,.int .i64 (j:Nat),B,C]∧d+j=c.length∧h.length≤b.length∧∀a,a<h.length→b[a]?=h[a]?)
  (λd=>d.1 = .ext 0∧h.length≤d.2.2.length∧∀a,a<h.length→d.2.2[a]?=h[a]?) c.length ⟨0,_,_,_,_,_,_,rfl,by omega,aS _,λ_ _=>rfl⟩ ?_ ?_
 ·rintro d q b ⟨j,x,y,z,A,B,C,rfl,au,w,m⟩;simp only[zy,bY,dI,O,dN,bH];refine Wp.eN ?_ ?_
  ·intro l;have l:j<c.length:=ji l;have ad:(0:Int)≤(j:Int):=by omega
   obtain⟨i,s⟩:=sV l;obtain⟨am,ac⟩:=ah i (eB s);have N:=ig j (by omega);simp only[oY r,ad,aM,eS,s,gH,O,xA];have ak:(aL b aI 11 [[.str [],.int .i64 0,.int .i64 0,.int .i64 0,.int .i64 0,.J,.int .i64 0,.int .i64 0,.str [],.str [],.J]])[b.length]?=some (.row aI 11 [aH n3]):=jG _ _ _ _;have al:∀a,a<b.length→(aL b aI 11 [[.str [],.int .i64 0,.int .i64 0,.int .i64 0,.int .i64 0,.J,.int .i64 0,.int .i64 0,.str [],.str [],.J]])[a]?=b[a]?:=λa u=>iW _ _ _ _ u
   have av:(aL b aI 11 [[.str [],.int .i64 0,.int .i64 0,.int .i64 0,.int .i64 0,.J,.int .i64 0,.int .i64 0,.str [],.str [],.J]]).length=b.length+1:=iN _ _ _ _;generalize aL b aI 11 [[.str [],.int .i64 0,.int .i64 0,.int .i64 0,.int .i64 0,.J,.int .i64 0,.int .i64 0,.str [],.str [],.J]]=ap at *;refine ll (kk:=0) (off:=0) (row:=aH n3) (v :=.agg (aH i)) ak (by rfl) (by rfl) (by exact aS _) (s3 _) λf g M=>?_
   have g:f[b.length]?=some (.row aI 11 [aH i]):=g;obtain⟨an,X,K⟩:=On (T:=tab) (t:=cN) (i:=tK) (e:=aI) (j:=tP) (id rfl) (id rfl) (id rfl) (id rfl) r (k :=.i64) (n:=(j:Nat)) (by omega) (by omega);rw[eS]at K;have aa:aA tab f W (.ptr b.length 0 (0+1+1))=some (.int .i64 i.e.a1):=by rw[fh,dW g];rfl
   have F:aA tab f W (.ptr b.length 0 (0+1+2))=some (.int .i64 i.e.a2):=by rw[fh,dW g];rfl
   have E:=Nw i f ac;rw[am.e]at E;have P:U tab .neq nX (.int .i64 0) (.int .i64 0)=some (.bool false):=id rfl;have Q:=N0 K (by rw[oi];omega) i.e.a1 f;have I:h.length≤f.length∧∀a,a<h.length→f[a]?=h[a]?:=⟨by have:=M.1;omega,λa u=>by rw[M.2 a (by omega),al a (by omega),m a u]⟩
   simp only[O,X,lC,vo,me,aa,F,Q,mr g,E,P,kh,j7,mX];cases af:eU i.e.a1 ((c.take j).map bQ)with
   | none =>
    simp only[r0,dC,bA,aR,O,cX,aQ,dV,N];exact .some (.inl ⟨rfl,d - 1,by omega,j+1,_,_,_,_,_,_,rfl,by omega,I⟩)
   | some e =>
    obtain rfl:=ab.at s e af;have ag:U tab .neq W (.int .i64 i.e.a2) (.int .i64 i.e.a2)=some (.bool false):=by simp only[eC,fw,gq,cV]
    simp only[uQ,dC,aM,O,gP,me,F,ag,cX,aQ,bA,aR,dV,N];exact .some (.inl ⟨rfl,d - 1,by omega,j+1,_,_,_,_,_,_,rfl,by omega,I⟩)
  ·intro l;exact .some (.inr ⟨by simp,rfl,w,m⟩)
 ·rintro⟨ao,q,b⟩ ⟨rfl,w,m⟩;simp only[eW,dE,O,cS];rw[jZ (by rfl) (.bool _) w m];exact .some rfl
def gQ:List (Int × Int)→Int→Option Int
 |[],_=>none
 |p::r,f=>if p.1=f then some p.2 else gQ r f
theorem BS{f:Int}:∀{ms:List (Int × Int)} {k:Nat} {p:Int × Int},ms[k]?=some p→p.1=f→(∀(i:Nat) (q:Int × Int),i<k→ms[i]?=some q→q.1≠f)→gQ ms f=some p.2
 |[],k,p,h,_,_=>by cases h
 | q::r,0,p,h,e,_=>by
  injection h with h;subst h;unfold gQ;rw[bE e]
 | q::r,k+1,p,h,e,a=>by
  unfold gQ;rw[bV (a 0 q (by omega) rfl)];exact BS (k:=k) h e λi c d b=>a (i+1) c (by omega) b
theorem BU{f:Int}:∀{ms:List (Int × Int)},(∀(i:Nat) (q:Int × Int),ms[i]?=some q→q.1≠f)→gQ ms f=none
 |[],_=>rfl
 | q::r,a=>by
  unfold gQ;rw[bV (a 0 q rfl)];exact BU λi c b=>a (i+1) c b
theorem Nf{g:Z}{ms:List (Int × Int)}{d:D}(h:lx g fF 2 eV ms d):aV tab gS d=some (.int .i64 (ms.length:Nat)):=by
 rcases h with h|⟨a,rfl,_⟩
 ·exact CT h
 ·exact Lg _ _ _ _
theorem DM{g:Z}{ms:List (Int × Int)}{d:D}(h:lx g fF 2 eV ms d){i:Nat}{m:Int × Int}(hi:ms[i]?=some m):∃p b,aN tab gS d (.int .i64 (i:Nat))=some p∧aC tab fF 1 p=some b∧aA tab g fF p=some (.agg (eV m))∧aA tab g W b=some (.int .i64 m.2):=by
 have c:=(aZ.1 hi).1;rcases h with h|⟨e,rfl,a⟩
 ·exact⟨_,.aD [.int .i64 m.2],by rw[Cs h,bE (by omega),eS,hi];rfl,id rfl,id rfl,id rfl⟩
 ·refine⟨_,_,by rw[KP,bE ⟨by omega,by omega⟩,eS],Iq _ _ _,?_,?_⟩
  ·rw[La,dW a,cT,dB,hi];rfl
  ·rw[fh,dW a,cT,dB,hi];rfl
theorem lx.mono{g g':Z}{ms:List (Int × Int)}{d:D}(h:lx g fF 2 eV ms d)(k:∀p,p<g.length→g'[p]?=g[p]?):lx g' fF 2 eV ms d:=by
 rcases h with h|⟨b,rfl,a⟩
 ·exact .inl h
 ·exact .inr ⟨b,rfl,by rw[k b (aZ.1 a).1];exact a⟩
theorem N3(p:Int × Int)(f:Int)(h:Z):R lE [.agg (eV p),.aD [.int .i64 f]] h=some (.bool (decide (p.1=f)),h):=by
 have c:gC (.agg [.int .i64 p.1,.int .i64 p.2])=some (.aD [.int .i64 p.1,.int .i64 p.2]):=nM _;have d:aC tab fF 0 (.aD [.int .i64 p.1,.int .i64 p.2])=some (.aD [.int .i64 p.1,.int .i64 p.2]):=id rfl;have e:∀(a:Int) (b:List D),aA tab h W (.aD (.int .i64 a::b))=some (.int .i64 a):=λ_ _=>id rfl
 show R lE [.agg [.int .i64 p.1,.int .i64 p.2],.aD [.int .i64 f]] h=_;rw[HY];simp only[zE,c,O,d,e,fY,cS]
theorem N2{ms:List (Int × Int)}{l:D}(T:ms.length≤1000000)(f:Int)(h:Z)(x:lx h fF 2 eV ms l):
  (∃(k:Nat) (p:Int × Int),ms[k]?=some p∧p.1=f∧(∀(i:Nat) (a:Int × Int),i<k→ms[i]?=some a→a.1≠f)∧R qG [l,.fn (.func lE) [] [.aD [.int .i64 f]]] h=some (.int .i64 (k:Nat),h)) ∨
  ((∀(i:Nat) (a:Int × Int),ms[i]?=some a→a.1≠f)∧R qG [l,.fn (.func lE) [] [.aD [.int .i64 f]]] h=some (.int .i64 (-1),h)):=by
 suffices Wp (R qG [l,.fn (.func lE) [] [.aD [.int .i64 f]]] h) (λc=>(∃(k:Nat) (p:Int × Int),ms[k]?=some p∧p.1=f∧(∀(i:Nat) (a:Int × Int),i<k→ms[i]?=some a→a.1≠f)∧c=(.int .i64 (k:Nat),h))∨((∀(i:Nat) (a:Int × Int),ms[i]?=some a→a.1≠f)∧c=(.int .i64 (-1),h))) by
  obtain⟨c,d,j⟩:=this;rcases j with⟨k,p,o,A,B,rfl⟩|⟨o,rfl⟩
  ·exact .inl ⟨k,p,o,A,B,d⟩
  ·exact .inr ⟨o,d⟩
 have K:aV tab gS l=some (.int .i64 (ms.length:Nat)):=Nf x;rw[HX];simp only[zC,K,O,bH];refine Wp.loop (λc q m=>m=h∧∃(b:Nat) (t u v w:D),q=[t,u,.int .i64 (b:Nat),v,w]∧c+b=ms.length∧∀(i:Nat) (a:Int × Int),i<b→ms[i]?=some a→a.1≠f)
  (λc=>c.2.2=h∧((c.1 = .ext 0∧∀(i:Nat) (a:Int × Int),ms[i]?=some a→a.1≠f)∨(c.1 = .ret∧∃(k:Nat) (p:Int × Int),Y 0 c.2.1 = .int .i64 (k:Nat)∧ms[k]?=some p∧p.1=f∧∀(i:Nat) (a:Int × Int),i<k→ms[i]?=some a→a.1≠f))) ms.length ⟨rfl,0,_,_,_,_,rfl,by omega,λi a I=>by omega⟩ ?_ ?_
 ·rintro c q m ⟨rfl,b,t,u,v,w,rfl,X,r⟩;simp only[zD,bY,dI,O,dN,bH];refine Wp.eN ?_ ?_
  ·intro g;have g:b<ms.length:=ji g;have Q:(0:Int)≤(b:Int):=by omega
   obtain⟨p,s⟩:=sV g;have L:=ig b (by omega);obtain⟨ab,aa,M,ac,N,ad⟩:=DM x s;have H:fA R (.fn (.func lE) [] [.aD [.int .i64 f]]) [.agg (eV p)] m=R lE [.agg (eV p),.aD [.int .i64 f]] m:=by rw[AV];simp[-Qd]
   simp only[M,N,O,H,N3,aQ];by_cases n:p.1=f
   ·simp only[n,dJ,aM];exact .some (.inr ⟨by simp,rfl,.inr ⟨rfl,b,p,rfl,s,n,r⟩⟩)
   ·simp only[n,cV,bA,aR,dV,L,O];refine .some (.inl ⟨rfl,c - 1,by omega,rfl,b+1,_,_,_,_,rfl,by omega,λi a I e=>?_⟩);rcases e9 i b with z|z
    ·exact r i a z e
    ·have:i=b:=by omega
     subst this;rw[s]at e;injection e with e;subst e;exact n
  ·intro g;have g:b=ms.length:=by
    have:¬(b:Int)<ms.length:=by simpa using g
    omega
   exact .some (.inr ⟨by simp,rfl,.inl ⟨rfl,λi a e=>r i a (by rw[g];exact(aZ.1 e).1) e⟩⟩)
 ·rintro⟨P,q,m⟩ ⟨y,G⟩;simp only at y;subst y;rcases G with⟨d,j⟩|⟨d,k,p,j,C,E,F⟩
  ·simp only at d;subst d;simp only[eW,dE,O,cS];exact .some (.inr ⟨j,rfl⟩)
  ·simp only at d j;subst d;simp only[O,bJ,toEnd,cZ,bY,j,cS];exact .some (.inl ⟨k,p,C,E,F,rfl⟩)
theorem N1{ms:List (Int × Int)}{c:D}(k:ms.length≤1000000)(f:Int)(h:Z)(d:lx h fF 2 eV ms c):R vM [c,.int .i64 f] h=some (.bN [.int .i64 ((gQ ms f).getD 0),.bool (gQ ms f).isSome],h):=by
 rw[HW];simp only[zB,Dy,O];rcases N2 k f h d with⟨e,q,a,b,g,i⟩|⟨a,b⟩
 ·have j:¬((e:Nat):Int)<0:=by omega
  have p:(0:Int)≤(e:Nat):=by omega
  obtain⟨s,r,m,n,t,o⟩:=DM d a;simp only[i,O,dN,j,cV,aQ,bA,aR,m,n,o,BS a b g,gP,uQ,lN]
 ·have l:U tab .lss W (.int .i64 (-1)) (.int .i64 0)=some (.bool true):=id rfl;simp only[b,O,l,aQ,aM,BU a,uP,r0,lN]
inductive eQ (ms:List (Int × Int)):List It→List Int→List It→List Int→Prop
 |nil:eQ ms [] [] [] []
 |aX {q q':List It} {rs rs':List Int} {i:It} (r:Int):eQ ms q rs q' rs'→gQ ms i.e.a1=none→eQ ms (q++[i]) (rs++[r]) (q'++[i]) (rs'++[r])
 |kb {q q':List It} {rs rs':List Int} {i j:It} {m:Int} (r:Int):eQ ms q rs q' rs'→gQ ms i.e.a1=some m→gK i m true j→eQ ms (q++[i]) (rs++[r]) (q'++[j]) (rs'++[r])
 |drop {q q':List It} {rs rs':List Int} {i j:It} {m:Int} (r:Int):eQ ms q rs q' rs'→gQ ms i.e.a1=some m→gK i m false j→eQ ms (q++[i]) (rs++[r]) q' rs'
theorem Ax{h g:Z}{x y f:D}{m:List It}{u o:List Int}{j n:Nat}{jt:It}{rk:Int}(w:aU 1 fm u f)(M:u.length=n)(ak:j<n)(al:n≤1000)(L:u[j]?=some rk)(ab:h.length≤g.length)(X:∀p,p<h.length→g[p]?=h[p]?)
  (A:Own g h.length aI 11 (m.map aH) x) (t:Own g h.length W 1 (o.map fm) y) (ao:m.length≤j) (ap:o.length≤j) {E:Type} {F:D × Z→D→bT→Option E} {Q:E→Prop}
  (k:∀e i q b,h.length≤b.length→(∀p,p<h.length→b[p]?=h[p]?)→Own b h.length aI 11 ((m++[jt]).map aH) e→Own b h.length W 1 ((o++[rk]).map fm) q→Wp (F (e,i) (.bool true) (.aO,[q],b)) Q) :
  Wp ((bI tab cN 1 [0] [.agg (aH jt)]).bind λaf=>(dM tab g cN cN x af).bind λl=>(aV tab aP f).bind λag=>(U tab .lss W (.int .i64 (j:Nat)) ag).bind λC =>
   (aK C ((aN tab aP f (.int .i64 (j:Nat))).bind λah=>(aA tab l.2 W ah).bind λai=>(bI tab aP 1 [0] [ai]).bind λaj=>(dM tab l.2 aP aP y aj).bind λB=>some (.aO,[B.1],B.2)) (some (.aO,[y],l.2))).bind λae=>F l C ae) Q:=by
 have I:bI tab cN 1 [0] [.agg (aH jt)]=some (.sl 11 true [aH jt]):=id rfl;have H:aV tab aP f=some (.int .i64 (n:Nat)):=by rw[← M];exact mu w
 have G:(0:Int)≤(j:Int):=by omega
 have K:((j:Nat):Int)<(n:Nat):=by omega
 have aa:∀v,aA tab v W (.aD (fm rk))=some (.int .i64 rk):=λv=>id rfl
 simp only[I,O];refine yx (ys:=[aH jt]) (n0:=h.length) ab A (lf _ _ _ _) (by simp;omega) λe i s am N P _=>?_
 have z:Own i h.length W 1 (o.map fm) y:=t.aX λp d c=>P p (t.lt c).2 λr=>by
  have a:=kv t c;rw[kv A r]at a;injection a with a;injection a with a;exact absurd a (by decide)
 simp only[H,O,dN,K,dJ,aQ,aM,qQ w,G,eS,L,gH,aa,AM,bH];refine EC (ys:=[fm rk]) (n0:=h.length) (by omega) z (lf _ _ _ _) (by simp;omega) λq b ac an R T _=>?_
 have ad:Own b h.length aI 11 (m.map aH++[aH jt]) e:=s.aX λp d c=>T p (s.lt c).2 λr=>by
  have a:=kv s c;rw[kv z r]at a;injection a with a;injection a with a;exact absurd a (by decide)
 simp only[O];refine k e i q b (by omega) (λp d=>by rw[R p d,N p d,X p d]) ?_ ?_
 ·rw[iF];exact ad
 ·rw[iF];exact ac
theorem tC{g:List It}{r:List Int}{ms:List (Int × Int)}{G H P:D}(t:aU 11 aH g G)(X:aU 1 fm r H)(ay:g.length≤1000)(M:r.length=g.length)(bh:ms.length≤1000000)(bf:∀i∈g,i.e.ls.length≤1000000)(h:Z)(bg:lx h fF 2 eV ms P):
  ∃d f y z,R lD [G,H,P] h=some (.bN [y,z],h)∧aU 11 aH d y∧aU 1 fm f z∧eQ ms g r d f:=by
 suffices Wp (R lD [G,H,P] h) (λj=>∃d f y z,j=(.bN [y,z],h)∧aU 11 aH d y∧aU 1 fm f z∧eQ ms g r d f) by
  obtain⟨j,K,d,f,y,z,rfl,L⟩:=this;exact⟨d,f,y,z,K,L⟩
 have be:aV tab cN G=some (.int .i64 (g.length:Nat)):=k3 t;have bz:aV tab aP H=some (.int .i64 (g.length:Nat)):=by rw[← M];exact mu X
 rw[HV];simp only[zz,be,O,bH];refine Wp.loop (λj Q b=>∃(c:Nat) (l m am an ao ap aq ar au al:D) (d:List It) (f:List Int),Q=[l,m,am,an,ao,ap,.int .i64 (c:Nat),aq,ar,au,al]∧j+c=g.length∧h.length≤b.length∧(∀a,a<h.length→b[a]?=h[a]?) ∧
   Own b h.length aI 11 (d.map aH) l∧Own b h.length W 1 (f.map fm) m∧d.length≤c∧f.length≤c∧eQ ms (g.take c) (r.take c) d f)
  (λj=>j.1 = .ext 0∧∃(l m:D) (d:List It) (f:List Int),Y 0 j.2.1=l∧Y 1 j.2.1=m∧h.length≤j.2.2.length∧(∀a,a<h.length→j.2.2[a]?=h[a]?) ∧
   Own j.2.2 h.length aI 11 (d.map aH) l∧Own j.2.2 h.length W 1 (f.map fm) m∧eQ ms g r d f) g.length
  ⟨0,.J,.J,_,_,_,_,_,_,_,_,[],[],rfl,rfl,aS _,λ_ _=>rfl,.J _ _ _ _,.J _ _ _ _,aS _,aS _,.nil⟩ ?_ ?_
 ·rintro j Q b ⟨c,l,m,am,an,ao,ap,aq,ar,au,al,d,f,rfl,b1,N,B,u,w,a0,a2,A⟩;simp only[zA,bY,dI,O,dN,bH];refine Wp.eN ?_ ?_
  ·intro q;have q:c<g.length:=ji q;have bd:(0:Int)≤(c:Int):=by omega
   obtain⟨i,o⟩:=sV q;obtain⟨x,aa⟩:∃x,r[c]?=some x:=⟨_,cA (by omega)⟩
   have ab:g.take (c+1)=g.take c++[i]:=by rw[jz,o];rfl
   have ac:r.take (c+1)=r.take c++[x]:=by rw[jz,aa];rfl
   have ah:=ig c (by omega);have b0:((c:Nat):Int)<(g.length:Nat):=by omega
   simp only[oY t,bd,aM,eS,o,gH,O,xA];have n0:(aL b aI 11 [[.str [],.int .i64 0,.int .i64 0,.int .i64 0,.int .i64 0,.J,.int .i64 0,.int .i64 0,.str [],.str [],.J]])[b.length]?=some (.row aI 11 [aH n3]):=jG _ _ _ _;have bp:∀a,a<b.length→(aL b aI 11 [[.str [],.int .i64 0,.int .i64 0,.int .i64 0,.int .i64 0,.J,.int .i64 0,.int .i64 0,.str [],.str [],.J]])[a]?=b[a]?:=λa k=>iW _ _ _ _ k
   have b5:(aL b aI 11 [[.str [],.int .i64 0,.int .i64 0,.int .i64 0,.int .i64 0,.J,.int .i64 0,.int .i64 0,.str [],.str [],.J]]).length=b.length+1:=iN _ _ _ _;generalize aL b aI 11 [[.str [],.int .i64 0,.int .i64 0,.int .i64 0,.int .i64 0,.J,.int .i64 0,.int .i64 0,.str [],.str [],.J]]=bw at *;refine ll (kk:=0) (off:=0) (row:=aH n3) (v :=.agg (aH i)) n0 (by rfl) (by rfl) (by exact aS _) (s3 _) λp E a5=>?_
   have E:p[b.length]?=some (.row aI 11 [aH i]):=E;have I:aA tab p W (.ptr b.length 0 (0+1+1))=some (.int .i64 i.e.a1):=by rw[fh,dW E];rfl
   have b2:p.length=b.length+1:=by have:=a5.1;omega
   have F:∀a,a<b.length→p[a]?=b[a]?:=λa k=>by rw[a5.2 a (by omega),bp a k]
   have ba:=N1 bh i.e.a1 p (bg.mono λa k=>by rw[F a (by omega),B a k]);have b4:∀aw,aA tab aw W (.aD (fm x))=some (.int .i64 x):=λaw=>id rfl
   simp only[O,lC,vo,I,ba,kh,j7,mX];have br:Own p h.length aI 11 (d.map aH) l:=u.aX λa k o=>F a (u.lt o).2
   have bt:Own p h.length W 1 (f.map fm) m:=w.aX λa k o=>F a (w.lt o).2
   have bk:∀a,a<h.length→p[a]?=h[a]?:=λa k=>by rw[F a (by omega),B a k]
   cases T:gQ ms i.e.a1 with
   | none =>
    simp only[r0,aQ,bA,aR,O,dE,mr E,bH];refine Ax (jt:=i) X M q ay aa (by omega) bk br bt a0 a2 λai s aj bc bl bi ae af=>?_
    simp only[O,bJ,dE,bY,dI,dV,ah];exact .some (.inl ⟨rfl,j - 1,by omega,c+1,ai,aj,_,_,_,_,_,_,_,_,_,_,rfl,by omega,bl,bi,ae,af,by simp;omega,by simp;omega,by rw[ab,ac];exact .aX x A T⟩)
   | some bo =>
    obtain⟨jt,bq,bb,ax⟩:=Nv i bo p (bf i (eB o));simp only[uQ,gP,aQ,aM,O,mr E,bb,kh,j7,mX,bH];refine ll (kk:=0) (off:=0) (row:=aH i) (v :=.agg (aH jt)) E (by rfl) (by rfl) (by exact aS _) (s3 _) λs ag a6=>?_
    have ag:s[b.length]?=some (.row aI 11 [aH jt]):=ag;have b3:s.length=b.length+1:=by have:=a6.1;omega
    have ad:∀a,a<b.length→s[a]?=b[a]?:=λa k=>by rw[a6.2 a (by omega),F a k]
    have a3:Own s h.length aI 11 (d.map aH) l:=u.aX λa k o=>ad a (u.lt o).2
    have a4:Own s h.length W 1 (f.map fm) m:=w.aX λa k o=>ad a (w.lt o).2
    have az:∀a,a<h.length→s[a]?=h[a]?:=λa k=>by rw[ad a (by omega),B a k]
    cases bq with
    | true =>
     simp only[O,hd,fU,aQ,bA,aR,dE,mr ag,bH];refine Ax (jt:=jt) X M q ay aa (by omega) az a3 a4 a0 a2 λai bc aj bx bm bj ae af=>?_
     simp only[O,bJ,dE,bY,dI,dV,ah];exact .some (.inl ⟨rfl,j - 1,by omega,c+1,ai,aj,_,_,_,_,_,_,_,_,_,_,rfl,by omega,bm,bj,ae,af,by simp;omega,by simp;omega,by rw[ab,ac];exact .kb x A T ax⟩)
    | false =>
     have bu:∀{a7:Type} (a8:Option a7) (ak:Ex→Option a7),toEnd (.ext 1) a8 ak=ak (.ext 1):=λ_ _=>rfl
     simp only[O,hd,iA,aQ,aM,bu,eW,dE,bY,dI,dV,ah];have bn:h.length≤s.length:=by omega
     exact .some (.inl ⟨rfl,j - 1,by omega,c+1,l,m,_,_,_,_,_,_,_,_,d,f,rfl,by omega,bn,az,a3,a4,by omega,by omega,by rw[ab,ac];exact .drop x A T ax⟩)
  ·intro q;have q:c=g.length:=by
    have:¬(c:Int)<g.length:=by simpa using q
    omega
   subst q;rw[pX,← M,pX]at A;exact .some (.inr ⟨by simp,rfl,l,m,d,f,rfl,rfl,N,B,u,w,A⟩)
 ·rintro⟨bv,Q,b⟩ ⟨rfl,l,m,d,f,K,L,N,B,u,w,A⟩;simp only at K L N B u w;have I:=nL (n0:=h.length) (n:=2) u (aS _) λC _=>s0 _ b 1 C
  have av:=nL (n0:=h.length) (n:=2) w (aS _) λC _=>DS _ b 2 C
  simp only[eW,dE,O,bY,dI,K,L,aE];rw[jZ (d' :=.bN [bP h.length b 3 l,bP h.length b 3 m]) (by rfl) (.bN _ λa9 t=>by
   simp at t;rcases t with rfl|rfl
   ·exact lh I λC _=>xx _ C
   ·exact lh av λC _ a9 t=>by
      simp only[fm,gx]at t;subst t;exact .int _ _) N B]
  exact .some ⟨d,f,_,_,rfl,I,av,A⟩
structure lX (q:List It):Prop where
 ok:∀i∈q,lu i
 fs:∀i∈q,i.e.fs.length≤20
 dr:∀i∈q,ij (bQ i)
 ct:gM (q.map bQ)
theorem Mi{h:Z}{o:Nat}(r:CM h o):∃(a:List It) (d:List Int) (b c:D) (h':Z),R mh [.ptr o 0 0,.int .i64 10] h=some (.bN [b,c],h')∧aU 11 aH a b∧aU 1 fm d c∧lX a∧a.length≤10∧d.length=a.length∧CM h' o∧bW o h h':=by
 obtain⟨a,d,b,c,h',e,f,i,j,k,l,⟨m,n,p⟩,q,g⟩:=Mh r 10 (by omega);exact⟨a,d,b,c,h',e,f,i,⟨j,n,p,m⟩,k,l,q,g⟩
theorem gK.again{i j k:It}{m:Int}{c:Bool}(b:m≤j.e.a2)(h:gK j m c k):c=true∧k=j:=by
 rcases h with⟨_,a,d⟩|⟨a,_⟩|⟨a,_⟩
 ·exact⟨a,d⟩
 ·exact absurd b a
 ·exact absurd b a
theorem gK.kept{i j:It}{m:Int}(h:gK i m true j):m≤j.e.a2∧j.e.a1=i.e.a1∧j.e.a3=i.e.a3∧j.e.fs=i.e.fs:=by
 rcases h with⟨c,_,rfl⟩|⟨_,_,d,_⟩|⟨_,_,_,_,a⟩
 ·exact⟨c,rfl,rfl,rfl⟩
 ·cases d
 ·obtain⟨k,f,b⟩:=a.a2;have e:k∈i.e.ls.filter λg=>decide (m≤g.off):=List.mem_of_mem_head? f
  have:=(fo.1 e).2;exact⟨by rw[b];simpa using this,a.a1,a.a3,a.fs⟩
theorem eQ.inv{ms:List (Int × Int)}{Q o:List It}{t p:List Int}(h:eQ ms Q t o p):∀{c:List It} {k:List Int} {i:It} {r:Int},Q=c++[i]→t=k++[r] →
  (gQ ms i.e.a1=none∧∃g l,eQ ms c k g l∧o=g++[i]∧p=l++[r]) ∨
  (∃m j,gQ ms i.e.a1=some m∧gK i m true j∧∃g l,eQ ms c k g l∧o=g++[j]∧p=l++[r]) ∨
  (∃m j,gQ ms i.e.a1=some m∧gK i m false j∧eQ ms c k o p):=by
 intro c k i r n q;cases h with
 |nil=>cases c<;>cases n
 | aX u d f =>
  obtain⟨rfl,a⟩:=oe n rfl;obtain⟨rfl,b⟩:=oe q rfl;injection a with a;injection b with b;subst a;subst b;exact .inl ⟨f,_,_,d,rfl,rfl⟩
 | kb u d f s =>
  obtain⟨rfl,a⟩:=oe n rfl;obtain⟨rfl,b⟩:=oe q rfl;injection a with a;injection b with b;subst a;subst b;exact .inr (.inl ⟨_,_,f,s,_,_,d,rfl,rfl⟩)
 | drop u d f s =>
  obtain⟨rfl,a⟩:=oe n rfl;obtain⟨rfl,b⟩:=oe q rfl;injection a with a;injection b with b;subst a;subst b;exact .inr (.inr ⟨_,_,f,s,d⟩)
theorem eQ.again{ms:List (Int × Int)}{w o:List It}{x p:List Int}(h:eQ ms w x o p):∀{f:List It} {g:List Int},eQ ms o p f g→f=o∧g=p:=by
 induction h with
 | nil =>
  intro f g b;generalize l:([]:List It)=y at b;generalize A:([]:List Int)=z at b;cases b with
  |nil=>exact⟨rfl,rfl⟩
  |aX=>simp at l
  |kb=>simp at l
  |drop=>simp at l
 | aX t q c d =>
  intro f g b;rcases b.inv rfl rfl with⟨_,u,v,j,rfl,rfl⟩|⟨n,e,a,_⟩|⟨n,e,a,_⟩
  ·obtain⟨rfl,rfl⟩:=d j;exact⟨rfl,rfl⟩
  ·rw[c]at a;cases a
  ·rw[c]at a;cases a
 | kb t q c r d =>
  intro f g b;obtain⟨s,m,_⟩:=r.kept;rcases b.inv rfl rfl with⟨a,_⟩|⟨n,e,a,k,u,v,j,rfl,rfl⟩|⟨n,e,a,k,_⟩
  ·rw[m,c]at a;cases a
  ·rw[m,c]at a;injection a with a;subst a;obtain⟨_,rfl⟩:=gK.again (i:=e) s k;obtain⟨rfl,rfl⟩:=d j;exact⟨rfl,rfl⟩
  ·rw[m,c]at a;injection a with a;subst a;have:=(gK.again (i:=e) s k).1;cases this
 |drop t q c r d=>exact λb=>d b
theorem eQ.all{d e:List It}{g i:List Int}(h:eQ [] d g e i):e=d∧i=g:=by
 induction h with
 |nil=>exact⟨rfl,rfl⟩
 |aX f c a b=>obtain⟨rfl,rfl⟩:=b;exact⟨rfl,rfl⟩
 |kb f c a j b=>cases a
 |drop f c a j b=>cases a
theorem eQ.gone{ms:List (Int × Int)}{c n:List It}{f q:List Int}(h:eQ ms c f n q):(∀i∈c,i.e.a2<i.e.a3∧∃m,gQ ms i.e.a1=some m∧i.e.a3≤m)→n=[]∧q=[]:=by
 induction h with
 |nil=>exact λ_=>⟨rfl,rfl⟩
 | @aX c l f p i o j d g =>
  intro b;obtain⟨_,m,a,_⟩:=b i (by simp);rw[d]at a;cases a
 | @kb c l f p i u m o j d k g =>
  intro b;obtain⟨w,y,a,x⟩:=b i (by simp);rw[d]at a;injection a with a;subst a;rcases k with⟨r,_⟩|⟨_,_,s,_⟩|⟨_,r,_⟩
  ·omega
  ·cases s
  ·omega
 |@drop c l f p i u m o j d k g=>exact λb=>g λv t=>b v (eA.2 (.inl t))
theorem eQ.len{ms:List (Int × Int)}{e a:List It}{j g:List Int}(h:eQ ms e j a g):a.length≤e.length∧g.length=a.length:=by
 induction h with
 |nil=>exact⟨aS _,rfl⟩
 |aX f b c d=>simp only[gh,eF,e8];omega
 |kb f b c i d=>simp only[gh,eF,e8];omega
 |drop f b c i d=>simp only[gh,eF,e8];omega
theorem gM.pre{a:List It}{i:It}(h:gM ((a++[i]).map bQ)):gM (a.map bQ)∧∀e,eU i.e.a1 (a.map bQ)=some e→e=i.e.a2:=by
 have b:=h.take a.length;rw[← rV,rX]at b
 ·refine⟨b,λe d=>?_⟩;have c:=gM.at h (j:=a.length) (i:=i) (by simp) e;rw[rX]at c
  ·exact c d
  ·rfl
 ·rfl
theorem s6(f:Int)(a:List It)(i:It):eU f ((a++[i]).map bQ)=if i.e.a1=f then some i.e.a3 else eU f (a.map bQ):=by
 rw[iF];exact CE f (a.map bQ) (bQ i)
theorem eQ.ct{ms:List (Int × Int)}{d B:List It}{x K:List Int}(h:eQ ms d x B K):gM (d.map bQ)→(∀i∈d,i.e.a2<i.e.a3) →
  (∀f e,eU f (B.map bQ)=some e→eU f (d.map bQ)=some e∧∀m,gQ ms f=some m→m<e)∧gM (B.map bQ):=by
 induction h with
 |nil=>exact λ_ _=>⟨λf e h=>(by simp[-Qd,eU]at h),λQ R H=>(by simp at H)⟩
 | @aX d A x E i D C g t =>
  intro q k;obtain⟨l,n⟩:=q.pre;obtain⟨c,s⟩:=t l λu r=>k u (eA.2 (.inl r))
  refine⟨λf e a=>?_,?_⟩
  ·rw[s6]at a ⊢;by_cases jK:i.e.a1=f
   ·rw[bE jK]at a ⊢;exact⟨a,λm j=>by rw[← jK,g]at j;cases j⟩
   ·rw[bV jK]at a ⊢;exact c f e a
  ·rw[iF];exact s.snoc λe a=>n e (c _ _ a).1
 | @kb d A x E i y m D C g p t =>
  intro q k;obtain⟨l,n⟩:=q.pre;obtain⟨c,s⟩:=t l λu r=>k u (eA.2 (.inl r))
  have M:=k i (by simp);obtain⟨N,z,I,_⟩:=p.kept;have L:m<i.e.a3:=by
   rcases p with⟨o,_⟩|⟨_,_,b,_⟩|⟨_,w,_⟩
   ·omega
   ·cases b
   ·exact w
  refine⟨λf e a=>?_,?_⟩
  ·rw[s6]at a ⊢;by_cases jK:i.e.a1=f
   ·rw[bE (z.trans jK),I]at a;rw[bE jK];injection a with a;subst a;exact⟨rfl,λP j=>by rw[← jK,g]at j;injection j with j;omega⟩
   ·rw[bV (λb=>jK (z.symm.trans b))]at a;rw[bV jK];exact c f e a
  ·rw[iF];refine s.snoc λe a=>?_
   have a:eU y.e.a1 (A.map bQ)=some e:=a;rw[z]at a;obtain⟨o,v⟩:=c _ _ a;have w:=n e o;have F:=v m g;show e=y.e.a2;rcases p with⟨_,_,rfl⟩|⟨_,_,b,_⟩|⟨G,_⟩
   ·exact w
   ·cases b
   ·omega
 | @drop d A x E i y m D C g p t =>
  intro q k;obtain⟨l,n⟩:=q.pre;obtain⟨c,s⟩:=t l λu r=>k u (eA.2 (.inl r))
  refine⟨λf e a=>?_,s⟩;obtain⟨o,v⟩:=c f e a;rw[s6];by_cases jK:i.e.a1=f
  ·subst jK;have w:=n e o;have F:=v m g;rcases p with⟨_,b,_⟩|⟨G,_⟩|⟨_,_,_,b,_⟩
   ·cases b
   ·omega
   ·cases b
  ·rw[bV jK];exact⟨o,v⟩
theorem BT:∀{l:List (Int × Int)} {x e:Int},l.Pairwise (λa b=>a.1<b.1)→(x,e)∈l→gQ l x=some e
 |[],x,e,_,h=>by simp at h
 | p::l,x,e,f,h=>by
  obtain⟨c,h2⟩:=Ag.1 f;unfold gQ;rcases eI.1 h with rfl|h
  ·rw[bE rfl]
  ·have:=c _ h;have d:¬p.1=x:=by
    have:p.1<x:=this;omega
   rw[bV d];exact BT h2 h
theorem Iv{f:Int→Option Int}{b:List (Int × Int)}(a:jA f b){x e:Int}(d:cW x)(c:f x=some e):gQ b x=some e:=BT a.up ((a.mem (x,e)).2 ⟨d,c⟩)
theorem Bt:∀(b:List It) (g:Int→Option Int),(b.map aH).foldl (tS 2 4) g=λx=>(b.map bQ).foldl (λa z=>if z.a1=x then some z.a3 else a) (g x)
 |[],g=>rfl
 | i::b,g=>by
  simp only[iS,pU];rw[Bt b];funext x;congr 1;show(if x=(dT 2 (aH i)).getD 0 then some ((dT 4 (aH i)).getD 0)else g x)=if i.e.a1=x then some i.e.a3 else g x
  rw[xZ,x3,gP,gP];by_cases h:x=i.e.a1
  ·rw[bE h,bE h.symm]
  ·rw[bV h,bV λc=>h c.symm]
theorem Ii(a:List It):oE [] (a.map aH)=λx=>eU x (a.map bQ):=Bt a λ_=>none
theorem CD(x e:Int):∀(xs:List RI) (a:Option Int),xs.foldl (λa z=>if z.a1=x then some z.a3 else a) a=some e→a=some e∨∃z∈xs,z.a1=x∧z.a3=e
 |[],a,h =>.inl h
 | z::xs,a,h=>by
  rcases CD x e xs _ h with b|⟨y,b,h2⟩
  ·have b:(if z.a1=x then some z.a3 else a)=some e:=b;by_cases c:z.a1=x
   ·rw[bE c]at b;injection b with b;exact .inr ⟨z,by simp,c,b⟩
   ·rw[bV c]at b;exact .inl b
  ·exact .inr ⟨y,fG _ b,h2⟩
theorem K1{x e:Int}{xs:List RI}(h:eU x xs=some e):∃z∈xs,z.a1=x∧z.a3=e:=by
 rcases CD x e xs none h with a|a
 ·cases a
 ·exact a
theorem MV{xs:List RI}(i:∀z∈xs,0≤z.a1∧z.a1≤2):∃g,jA (λx=>eU x xs) g∧g.length≤3:=by
 refine⟨([0,1,2]:List Int).filterMap λd=>(eU d xs).map λe=>(d,e),⟨λb=>?_,?_⟩,List.length_filterMap_le _ _⟩
 ·rw [ja];constructor
  ·rintro⟨d,c,a⟩;rw[Option.map_eq_some_iff]at a;obtain⟨e,f,rfl⟩:=a;refine⟨?_,f⟩;simp only[eI,uK,lP]at c;unfold cW;rcases c with rfl|rfl|rfl<;>exact⟨by omega,by omega⟩
  ·rintro⟨_,a⟩;obtain⟨z,j,f,_⟩:=K1 a;obtain⟨k,l⟩:=i z j;have:b.1=0∨b.1=1∨b.1=2:=by omega
   exact⟨b.1,by simpa using this,by
    have a:eU b.1 xs=some b.2:=a;rw[a];rfl⟩
 ·cases h:eU 0 xs<;>cases c:eU 1 xs<;>cases a:eU 2 xs<;>simp[-Qd,List.filterMap,h,c,a]
theorem ij.ok{i:It}(h:ij (bQ i)):lu i:=by
 obtain⟨j,g,k,a,b,c,d,e,f⟩:=h;exact Dm a b c d e f
theorem Mx(i:It)(h:iR i)(l:cL)(g:l∈i.e.ls):i.e.a2≤l.off:=by
 have k:∀(d:List cL) (b c:Int),fj b d c→∀f∈d,b≤f.off:=by
  intro d
  induction d with
  |nil=>intro b c _ f a;simp at a
  | cons n m j =>
   intro b c h f a;rcases eI.1 a with rfl|a
   ·have:=h.1;omega
   ·have:=j _ c h.2.2.2.2 f a;have:=h.2.1;omega
 exact k _ _ _ h.ch.1 l g
theorem ij.kb{i j:It}{m:Int}(h:ij (bQ i))(u:gK i m true j):ij (bQ j):=by
 rcases u with⟨_,_,rfl⟩|⟨_,_,v,_⟩|⟨_,_,_,_,c⟩
 ·exact h
 ·cases v
 ·obtain⟨a,p,d,g,q,s,K,t,k⟩:=h;simp only[bQ,ks,RI.mk.injEq]at k;obtain⟨z,A,C,M,D,E,F,G,H,I,B⟩:=k;obtain⟨N,n,y⟩:=c.a2;have l:i.e.ls.filter (λb=>decide (m≤b.off))=(a.e.ls.filter λb=>decide (m - d≤b.off)).map λb=>⟨b.off+d,b.len,b.fT⟩:=by
   rw[E,List.filter_map];congr 1;apply rT;intro b _;simp only[Function.comp,decide_eq_decide];omega
  rw[l,List.head?_map,Option.map_eq_some_iff]at n;obtain⟨f,o,rfl⟩:=n;have w:(a.e.ls.filter λb=>decide (m - d≤b.off)).length≤9223372036854775807:=gX (uG _ _) a.e.qL;refine⟨⟨a.r,⟨a.e.a0,a.e.a1,f.off,a.e.a3,a.e.ls.filter λb=>decide (m - d≤b.off),.sl 3 true ((a.e.ls.filter λb=>decide (m - d≤b.off)).map aY),a.e.a5,a.e.a6,a.e.s7,a.e.s8,a.e.fs,a.e.fd,a.e.hN,a.e.hl,.mk _ _ _ _,w⟩⟩,p,d,pL.k (m:=m - d) g ⟨rfl,rfl,rfl,rfl,rfl,rfl,rfl,rfl,rfl,rfl,f,o,rfl⟩,q,s,?_,t,?_⟩
  ·have x:f∈a.e.ls:=(fo.1 (List.mem_of_mem_head? o)).1;have L:=(Mx a g f x)
   show 0≤f.off+d;omega
  ·simp only[bQ,ks,RI.mk.injEq];exact⟨c.r.trans z,c.a0.trans A,c.a1.trans C,y,c.a3.trans D,c.ls.trans l,c.a5.trans F,c.a6.trans G,c.s7.trans H,c.s8.trans I,c.fs.trans B⟩
theorem ij.pos{i:It}(h:ij (bQ i)):i.e.a2<i.e.a3∧0≤i.e.a1∧i.e.a1≤2:=by
 obtain⟨g,l,q,f,m,n,o,p,c⟩:=h;simp only[bQ,ks,RI.mk.injEq]at c;obtain⟨s,t,u,v,w,_⟩:=c;obtain⟨a,j,k,b⟩:=f.ch;refine⟨?_,by omega,by omega⟩;cases d:g.e.ls with
 |nil=>rw[d]at b;simp at b
 | cons r x =>
  rw[d]at a;have:=k6 _ _ _ a.2.2.2.2;have:=a.2.1;omega
theorem eQ.DL{ms:List (Int × Int)}{f o:List It}{l A:List Int}(h:eQ ms f l o A)(g:lX f):lX o:=by
 have w:(∀a∈f,ij (bQ a)∧a.e.fs.length≤20)→∀a∈o,ij (bQ a)∧a.e.fs.length≤20:=by
  clear g
  induction h with
  |nil=>exact λ_ a b=>by simp at b
  | @aX f s l u a t q r j =>
   intro d p c;rcases eA.1 c with c|c
   ·exact j (λk i=>d k (eA.2 (.inl i))) p c
   ·rw[gx.1 c];exact d a (by simp)
  | @kb f s l u a v x t q r m j =>
   intro d p c;rcases eA.1 c with c|c
   ·exact j (λk i=>d k (eA.2 (.inl i))) p c
   ·rw[gx.1 c];obtain⟨y,z⟩:=d a (by simp);exact⟨y.kb m,by rw[m.kept.2.2.2];exact z⟩
  |@drop f s l u a v x t q r m j=>exact λd=>j λk i=>d k (eA.2 (.inl i))
 have n:=w λa b=>⟨g.dr a b,g.fs a b⟩
 exact⟨λa b=>(n a b).1.ok,λa b=>(n a b).2,λa b=>(n a b).1,(h.ct g.ct λa b=>(g.dr a b).pos.1).2⟩
theorem CH:∀(n:Nat) (a:List It),a.length=n→gM (a.map bQ)→(∀i∈a,i.e.a2<i.e.a3)→∀i∈a,∃e,eU i.e.a1 (a.map bQ)=some e∧i.e.a3≤e
 | 0,a,b,_,_,i,hi=>by
  have:=gE b;subst this;simp at hi
 | n+1,a,b,m,h,i,hi=>by
  obtain⟨g,c,rfl⟩:∃g c,a=g++[c]:=⟨a.dropLast,a.getLast (λo=>by rw[o]at b;simp at b),(List.dropLast_concat_getLast _).symm⟩
  obtain⟨j,k⟩:=m.pre;rw[s6];rcases eA.1 hi with hi|hi
  ·obtain⟨e,d,l⟩:=CH n g (by simpa using b) j (λq p=>h q (eA.2 (.inl p))) i hi;by_cases f:c.e.a1=i.e.a1
   ·rw[bE f];rw[← f]at d;have r:=k e d;have s:=h c (by simp);exact⟨_,rfl,by omega⟩
   ·rw[bV f];exact⟨e,d,l⟩
  ·rw[gx.1 hi,bE rfl];exact⟨_,rfl,Int.le_refl _⟩
theorem lX.last{a:List It}(h:lX a){i:It}(hi:i∈a):∃e,eU i.e.a1 (a.map bQ)=some e∧i.e.a3≤e:=CH _ a rfl h.ct (λc b=>(h.dr c b).pos.1) i hi
theorem eQ.clear{b f g:List It}{t i j:List Int}{ms e:List (Int × Int)}(h:eQ ms b t f i)(a:lX b)(q:jA (λx=>eU x (b.map bQ)) e)(h2:eQ e f i g j):g=[]∧j=[]:=by
 have d:=h.DL a;refine h2.gone λr c=>?_
 obtain⟨l,u,v⟩:=(d.dr r c).pos;refine⟨l,?_⟩;obtain⟨k,m,n⟩:=d.last c;have o:=((h.ct a.ct λs p=>(a.dr s p).pos.1).1 _ _ m).1;exact⟨k,Iv q ⟨by omega,by omega⟩ o,n⟩
theorem ij.l3{i:It}(h:ij (bQ i)):i.e.ls.length≤3:=by
 obtain⟨l,d,m,b,f,g,j,k,a⟩:=h;simp only[bQ,ks,RI.mk.injEq]at a;obtain⟨n,o,p,q,r,c,_⟩:=a;rw[c,gi];exact b.l3
theorem ij.mB{i:It}(h:ij (bQ i)):mB 2 4 (aH i):=by
 have c:=h.pos;obtain⟨k,b,l,d,e,f,g,j,a⟩:=h;simp only[bQ,ks,RI.mk.injEq]at a;obtain⟨m,n,o,p,q,r,_⟩:=a;exact⟨_,_,xZ i,⟨by omega,by omega⟩,x3 i,⟨by omega,by omega⟩⟩
theorem Oq{z:Nat}{a:Type}{f:a→List D}{l:List a}{d:D}(h:aU z f l d):jQ z d=some (l.map f):=by
 rcases h with⟨rfl,rfl⟩|⟨b,rfl⟩
 ·rfl
 ·exact bE rfl
theorem Ol(a:List (Int × Int)):aU 2 eV a (kA 2 (a.map eV)):=by
 cases a with
 |nil=>exact .J _ _
 |cons b c=>exact .mk _ _ _ _
theorem NZ{b:List It}{g:D}(j:lX b)(k:aU 11 aH b g)(o:b.length≤1000)(h:Z):∃a f,R1 oR [g,.J] h=some (f,h)∧aU 2 eV a f∧jA (λx=>eU x (b.map bQ)) a∧a.length≤3:=by
 obtain⟨a,i,l⟩:=MV (xs:=b.map bQ) λp m=>by
  obtain⟨e,c,rfl⟩:=eJ.1 m;exact(j.dr e c).pos.2
 refine⟨a,_,?_,Ol a,i,l⟩;rw[Pm];refine GA (Oq k) rfl (by rw[gi];omega) (by simp) (λn d=>?_) (λn d=>by simp at d) (by rw[Ii];exact i) h;obtain⟨e,c,rfl⟩:=eJ.1 d;exact(j.dr e c).mB
theorem K7(zs:List Int)(d:D)(bg:jr .u8 zs d)(bt:∀z∈zs,0≤z∧z<256)(bu:zs.length≤9223372036854775807)(w:Int)(ck:0≤w∧w<256):∃h',R1 vL [d,.int .u8 w] []=some (.bool true,h'):=by
 suffices Wp (R1 vL [d,.int .u8 w] []) (λb=>b.1 = .bool true) by
  obtain⟨⟨g,h'⟩,s,rfl⟩:=this;exact⟨h',s⟩
 obtain⟨ba,a2,am,cl,_⟩:=Md zs d 240 [] bg (by omega) (by omega) bt bu;obtain⟨bv,co,y,ab,c,B,o,F,i,ch,ae,r,cp⟩:=Mi am;have B:R mh [.ptr 0 0 0,.int .i64 10] ba=some (.bN [y,ab],c):=B;obtain⟨l,ax,a3,E,br,ci⟩:=NZ i o (by omega) c;have ad:∀q,ft .not (.bool q)=some (.bool !q):=λq=>id rfl
 have bo:aV tab gS ax=some (.int .i64 (l.length:Nat)):=CT E;have bp:aV tab cN y=some (.int .i64 (bv.length:Nat)):=k3 o;have r:CM c 0:=r;have G:0<c.length:=r.lt;rw[HT];simp only[zv,NR,O,ad,e8,fU,aQ,bA,aR,M4,a2,M5,B,kh,j7,mX,a3,bo,bH];refine Wp.loop (λh A a=>∃(f:Nat) (g P Q T:D) (ms:List (Int × Int)),A=[g,P,.int .i64 (f:Nat),Q,T]∧h+f=l.length∧CM a 0∧c.length≤a.length∧Own a c.length fF 2 (ms.map eV) g∧ms.length≤f)
  (λh=>h.1 = .ext 0∧∃(g:D) (ms:List (Int × Int)),Y 0 h.2.1=g∧c.length≤h.2.2.length∧Own h.2.2 c.length fF 2 (ms.map eV) g∧ms.length≤3) l.length
  ⟨0,.J,_,_,_,[],rfl,by omega,r,aS _,.J _ _ _ _,by simp⟩ ?_ ?_
 ·rintro h A a ⟨f,g,P,Q,T,ms,rfl,cj,ap,L,m,bq⟩;simp only[zw,bY,dI,O,dN,bH];refine Wp.eN ?_ ?_
  ·intro j;have j:f<l.length:=ji j;have bn:(0:Int)≤(f:Int):=by omega
   obtain⟨b,H⟩:=sV j;have aj:=ig f (by omega);have b1:∀a,aA tab a fF (.aD (eV b))=some (.agg (eV b)):=λa=>id rfl
   have al:im 2 (.agg (eV b))=some (.aD (eV b)):=id rfl;have a8:aC tab fF 0 (.aD (eV b))=some (.aD (eV b)):=id rfl;have a9:aC tab fF 1 (.aD (eV b))=some (.aD [.int .i64 b.2]):=id rfl;have aq:∀a,aA tab a W (.aD (eV b))=some (.int .i64 b.1):=λa=>id rfl
   have ar:∀a,aA tab a W (.aD [.int .i64 b.2])=some (.int .i64 b.2):=λa=>id rfl
   obtain⟨cb,bb,C,X,N,cr,cs⟩:=gR ap 3 (by omega) (by omega);have ag:=m.same N G;simp only[Cs E,bn,aM,eS,H,gH,O,b1,al,Nb,C,eM];by_cases af:cb>0
   ·obtain⟨ai,bc,a4,an,ah,cu,cw⟩:=gR X 40 (by omega) (by omega);have b8:=ag.same ah G;have b2:c.length≤bc.length:=by have:=N.1;have:=ah.1;omega
    simp only[af,dJ,aQ,aM,a8,a9,aq,ar,O,a4,fM,FN,FY,bH];refine Pc (ys:=[eV (b.1,IntKind.wrap .i64 (b.2 - ai))]) (n0:=c.length) b2 b8 (lf _ _ _ _) (by simp;omega) λcc ac b9 cm I _ _=>?_
    have ao:CM ac 0:=an.aX (I 0 G);simp only[nu,O,dE,lj,bY,dV,aj];exact .some (.inl ⟨rfl,h - 1,by omega,f+1,cc,_,_,_,ms++[(b.1,IntKind.wrap .i64 (b.2 - ai))],rfl,by omega,ao,by show c.length≤ac.length;omega,by rw[iF];exact b9,by simp;omega⟩)
   ·simp only[af,cV,aQ,bA,aR];simp only[O,dE,lj,bY,dV,aj];exact .some (.inl ⟨rfl,h - 1,by omega,f+1,g,_,_,_,ms,rfl,by omega,X,by show c.length≤bb.length;have:=N.1;omega,ag,by omega⟩)
  ·intro j;have j:f=l.length:=by
    have:¬(f:Int)<l.length:=by simpa using j
    omega
   exact .some (.inr ⟨by simp,rfl,g,ms,rfl,L,m,by omega⟩)
 ·rintro⟨cf,A,a⟩ ⟨rfl,g,ms,s,L,m,bq⟩;simp only at s L m;have x:∀M:List It,lX M→∀k∈M,k.e.ls.length≤1000000:=λM i k v=>by have:=(i.dr k v).l3;omega
  obtain⟨cd,q,aa,av,a5,n,u,t⟩:=tC o F (by omega) ae (by omega) (x _ i) a (DN m);have p:=t.DL i;have K:=t.len;obtain⟨ak,ce,au,aw,a6,bh,bi,bd⟩:=tC n u (by omega) K.2 (by omega) (x _ p) a (DN m);obtain⟨rfl,rfl⟩:=t.again bd;obtain⟨cg,cq,ay,a1,a7,bj,bm,bf⟩:=tC n u (by omega) K.2 (by omega) (x _ p) a (.inl E);obtain⟨rfl,rfl⟩:=t.clear i br bf;obtain⟨ca,cn,az,a0,C,bk,bl,be⟩:=tC (ms:=[]) o F (by omega) ae (by simp) (x _ i) a (.inl (.J _ _));obtain⟨rfl,rfl⟩:=be.all;have bw:=NY n u (by omega) K.2 (λk v=>⟨p.ok k v,p.fs k v⟩) p.ct 200 (by omega) a;have bx:=D7 _ _ aa au a n bh rfl (by omega);have bz:=D8 _ av aw a u bi (by omega);have I:=D7 _ _ az y a bk o rfl (by omega);have b0:=D8 _ a0 ab a bl F (by omega);have b3:aV tab cN aa=some (.int .i64 (_:Nat)):=k3 n;have b4:aV tab cN ay=some (.int .i64 ((0:Nat):Int)):=k3 bj;have b5:aV tab aP a1=some (.int .i64 ((0:Nat):Int)):=mu bm;have b6:¬((ak.length:Nat):Int)>ca.length:=by omega
  have b7:(((0:Nat):Int)=0):=rfl;simp only[eW,dE,O,bY,dI,s,Na,a5,a6,a7,C,kh,j7,mX,M9,bw,ad,fU,dC,fQ,aM,M6,bx,I,cX,M7,bz,b0,b3,b4,b5,bp,eM,b6,cV,aQ,bA,aR,fY,b7,dJ,cS];rw[jZ (d' :=.bool true) (by rfl) (.bool _) (il _) (λb H=>by simp at H)];exact .some rfl
end Go.Proofs.YtinlnkhheafjaaaDoor

/- Part 4 of the texts that the theorem needs: an interpreter on data, proved sound; the functions on data; laws about them. -/
import Derived.Test.YtinlnkhheafjaaaM3
import Derived.KernelRfl
set_option linter.unusedSimpArgs false
set_option linter.unusedVariables false
set_option linter.unnecessarySimpa false
set_option maxRecDepth 100000
namespace Go.Eng
abbrev sJ:=@List.getElem?_cons_succ
end Go.Eng
namespace Go.Proofs.Ytinlnkhheafjaaa
open Go.Eng Go.Pi
open Option renaming bind_some → ES
theorem vj{a:Mp}{b m:Nat}{e:Int→Option Int}(f:a b=some (.mp m e)){i c:Int}(hi:cP i)(g:cP c)(h:m<1000000000)(d:MK):j4 a (.raw (.map (some b))) (.int .i64 i) (.int .i64 c) d=d .bF (a.kl b (.mp (m+1) λx=>if x=i then some c else e x)):=by
 unfold j4;simp only[f,cZ,hi,g,h,ik,bL]
theorem wF(a:Mp)(b:Nat)(o:MO):a.kl b o b=some o:=by
 unfold Mp.kl;exact bB rfl
theorem kg(a:Mp)(b:Nat)(o:MO):a.set b o b=some o:=by
 unfold Mp.set;exact bB rfl
abbrev bK(l:List It):Nat→Int:=fg (l.map λa=>a.e.a1)
def hd(l:List It)(k:Nat):Int:=match fo l.length (bK l) (k+1) (bK l k)with
 |some a=>a
 |none => -1
def gx(l:List It)(k:Nat)(b:Int→Option Int):Prop:=∀a,b a=(fo l.length (bK l) k a).map λc=>((c:Nat):Int)
theorem lX{l:List It}{k:Nat}{i:It}(h:l[k]?=some i):bK l k=i.e.a1:=by
 simp[-ES,bK,fg,h]
theorem gx.step{l:List It}{k:Nat}(d:k<l.length){b:Int→Option Int}(h:gx l (k+1) b):gx l k λx=>if x=bK l k then some ((k:Nat):Int)else b x:=λx=>by
 show(if x=bK l k then _ else _)=_;split
 ·rename_i a;rw[a,w9 d];rfl
 ·rename_i a;rw[h x,xb (λc=>a c.symm)]
theorem gx.end_(l:List It):gx l l.length λ_=>none:=λa=>by rw[xa];rfl
theorem gx.look{l:List It}{k:Nat}{a:Int→Option Int}(h:gx l (k+1) a):(if(a (bK l k)).isSome=true then(a (bK l k)).getD 0 else -1)=hd l k:=by
 rw[h];unfold hd;cases fo l.length (bK l) (k+1) (bK l k)<;>rfl
theorem nE(a:Ev):aD tab aE 1 (.aG (bY a))=some (.aG (.int .i64 a.a1::(bY a).drop 2)):=id rfl
theorem qH(a:Ev)(h:Y):aA tab h U (.aG (.int .i64 a.a1::(bY a).drop 2))=some (.int .i64 a.a1):=id rfl
theorem vd{l:List It}{P:D}(av:aY 11 aJ l P)(a8:l.length≤900000000)(aw:∀i∈l,cP i.e.a1){a b:Nat}{g:Y}{H:Mp}{y:Ex→List D→Y→Mp→Option Unit}(au:g[a]?=some (.row U 1 (List.replicate l.length [.int .i64 0])))(ar:H b=some (.mp 0 λ_=>none))(K L M N:D)
  (a4:∀ds g' k rows m d,bN a g g'→g'[a]?=some (.row U 1 rows)→rows.length=l.length→(∀j,j<l.length→rows[j]?=some (bZ (hd l j)))→k b=some (.mp m d)→gx l 0 d→y (.ext 0) ds g' k=some ()) :
  hs (m4 P (.aC 1 a 0 l.length) (.raw (.map (some b)))) [.int .i64 ((l.length:Int) - 1),K,L,M,N] g H y=some ():=by
 refine mn (λc ds g' k=>∃q r s t rows,ds=[.int .i64 ((c:Int) - 1),q,r,s,t]∧bN a g g'∧g'[a]?=some (.row U 1 rows)∧rows.length=l.length∧(∀j,c≤j→j<l.length→rows[j]?=some (bZ (hd l j)))∧(∀f∈rows,f.length=1)∧c≤l.length∧∃m d,k b=some (.mp m d)∧m+c=l.length∧gx l c d) l.length
  ⟨K,L,M,N,_,rfl,bN.refl _ _,au,by simp,(λj aq R=>by omega),(λf w=>by rw[sG w];rfl),aX _,0,_,ar,by omega,gx.end_ l⟩ ?_
 rintro c ds Q I ⟨q,r,s,t,rows,rfl,ag,w,ae,ad,ac,a7,m,d,A,a9,B⟩;cases c with
 | zero =>
  have u:¬(0:Int)≤((0:Nat):Int) - 1:=by omega
  simp only[m4,dA,lO,bs,u,iT,cW,dT,cV,fL];exact a4 _ Q I rows m d ag w ae (λj ay=>ad j (gK _) ay) A B
 | succ c =>
  have ab:c<l.length:=by omega
  have ao:(((c+1:Nat):Int) - 1)=(c:Int):=by omega
  have u:(0:Int)≤(c:Int):=by omega
  have a0:(c:Int)<(l.length:Int):=by omega
  obtain⟨o,E⟩:∃i,l[c]?=some i:=⟨_,bX ab⟩
  obtain⟨f,af⟩:∃G,rows[c]?=some G:=⟨_,bX (by omega)⟩
  have a2:=ac f (dB af);have T:=lX E;have aa:cP o.e.a1:=aw o (dB E);have ax:cP (c:Int):=by unfold cP;omega
  have a6:IntKind.wrap .i64 ((c:Int) - 1)=(c:Int) - 1:=cE (by omega) (by omega);rw[ao];refine wq ?_;simp only[m4,dA,lO,bs,u,iz,cW,bL,jw,a0,ik,fP,dP,cQ];refine iH w af rfl (by omega) rfl λap C ai=>?_
  have a3:∀z:Int,cH f 0 (bD (.int .i64 z))=bZ z:=λz=>by
   obtain⟨ah,rfl⟩:∃ah,f=[ah]:=by
    match f,a2 with
    |[G],_=>exact⟨G,rfl⟩
   rfl
  rw[a3]at C;simp only[bs,n5 av,u,bL,fP,E,gk,mf,nE,qH];rw[Cc A aa];simp only[kF,kr,sJ,bs];have h:=B.look;rw[T]at h
  suffices X:∀n,bN a Q n→n[a]?=some (.row U 1 (rows.set c (bZ (hd l c))))→∀ak al aj am,Wp (j4 I (.raw (.map (some b))) (.int .i64 o.e.a1) (.int .i64 c) λba an=>(S tab .sub U (.int .i64 c) (.int .i64 1)).bind λa5=>jF (λc ds g' k=>∃q r s t rows,ds=[.int .i64 ((c:Int) - 1),q,r,s,t]∧bN a g g'∧g'[a]?=some (.row U 1 rows)∧rows.length=l.length∧(∀j,c≤j→j<l.length→rows[j]?=some (bZ (hd l j)))∧(∀f∈rows,f.length=1)∧c≤l.length∧∃m d,k b=some (.mp m d)∧m+c=l.length∧gx l c d) (c+1) y .aS [a5,ak,al,aj,am] n an) λ_=>True by
   cases x:(d o.e.a1).isSome with
   | false =>
    rw[x]at h;simp only[dT,cV]at h;simp only[cW,x,dT,cV,bs,eB,mQ];exact X ap ai (by rw[C,h]) _ _ _ _
   | true =>
    rw[x]at h;simp only[bL]at h;have a1:(rows.set c (bZ (-1)))[c]?=some (bZ (-1)):=by rw[iK (by omega)]
    simp only[cW,x,bL,cQ];refine iH C a1 rfl (by simp[-ES,bZ]) rfl λn v F=>?_
    rw[show cH (bZ (-1)) 0 (bD (.int .i64 ((d o.e.a1).getD 0)))=bZ ((d o.e.a1).getD 0)from rfl,List.set_set,h]at v;simp only[bs,eB,mQ];exact X n (ai.trans F) v _ _ _ _
  intro n F v ak al aj am;rw[vj A aa ax (by omega)];simp only[gP,a6,bs];refine qw ?_;unfold jF;refine iQ.2 ⟨⟨c,pf c,_,_,_,_,_,rfl,ag.trans F,v,by simpa using ae,λj aq R=>?_,λf p=>?_,by omega,m+1,_,wF _ _ _,by omega,?_⟩,rfl⟩
  ·by_cases az:j=c
   ·subst az;rw[iK (by omega)]
   ·rw[g7 (by omega)];exact ad j (by omega) R
  ·rcases sN p with p|p
   ·exact ac f p
   ·rw[p];rfl
  ·rw[← T];exact B.step ab
theorem vi{a:Mp}{r b n:Nat}{f:Int→Option Int}{left:Int→Bool}{h:Option (Int × Int)}(j:a r=some (.it b n f left h)){e:MK}(i:(∀x,cP x→left x=false)→e (.bR [.bool false]) a=some ())
  (h2:∀x c,cP x→cP c→left x=true→f x=some c→e (.bR [.bool true,.int .i64 x,.int .i64 c]) (a.set r (.it b n f (λz=>left z && !(z==x)) (some (x,c))))=some ()):mr a (.raw (.pointer (some ⟨r,0,none⟩))) e=some ():=by
 unfold mr;simp only[j];rw[hU.2 i];simp only[bs];exact iP.2 λg=>hU.2 λd=>h2 g.1 g.2 d.1 d.2.1 d.2.2.1 d.2.2.2
theorem Ca{a:Mp}{r b n:Nat}{e:Int→Option Int}{left:Int→Bool}{x c:Int}(f:a r=some (.it b n e left (some (x,c))))(d:MK):mq a (.raw (.pointer (some ⟨r,0,none⟩))) d=d (.bR [.int .i64 x,.int .i64 c]) a:=by
 unfold mq;simp only[f]
theorem gx.some{l:List It}{d:Int→Option Int}(h:gx l 0 d){x c:Int}(a:d x=Option.some c):∃k:Nat,c=(k:Int)∧k<l.length∧bK l k=x∧fo l.length (bK l) 0 x=Option.some k:=by
 rw[h x]at a;cases b:fo l.length (bK l) 0 x with
 |none=>rw[b]at a;cases a
 | some k =>
  rw[b]at a;injection a with a;obtain⟨_,e,f,_⟩:=jk.1 b;exact⟨k,a.symm,e,f,rfl⟩
theorem Bk{l:List It}(bm:l.length≤900000000)(az:∀i∈l,cP i.e.a1){o r H b n0:Nat}{g:Y}{N:Mp}{rks:List Int}(a8:rks.length≤1000000000)(bp:l.length≤rks.length){M:Ex→List D→Y→Mp→Option Unit}(ak:cR g o r rks [] .J){s:Int→Option Int}(au:N H=some (.it b n0 s (λx=>(s x).isSome) none))(t:gx l 0 s)(T X:D)
  (be:∀ds g' y a j,cR g' o r rks a j→eT (bM (aU rks)) (aB a) a.length→jj l.length (bK l) [] a→g.length≤g'.length→(∀h,h≠o→h<g.length→g'[h]?=g[h]?)→(j = .J∨∃p m,j = .aC 1 p 0 m∧g.length≤p)→M (.ext 2) ds g' y=some ()) :
  hs (lx (.ptr o 0 0) (.raw (.pointer (some ⟨H,0,none⟩)))) [T,X] g N M=some ():=by
 refine mn (λm ds g' y=>∃P Q a j left R,ds=[P,Q]∧cR g' o r rks a j∧eT (bM (aU rks)) (aB a) a.length∧g.length≤g'.length∧(∀h,h≠o→h<g.length→g'[h]?=g[h]?)∧(j = .J∨∃p m,j = .aC 1 p 0 m∧g.length≤p)∧y H=some (.it b n0 s left R)∧a.Nodup∧(∀f:Nat,f∈a↔∃x,cP x∧s x=some (f:Int)∧left x=false)∧m+a.length=l.length) l.length
  ⟨T,X,[],_,_,_,rfl,ak,(λf bi q=>by simp at q),aX _,λ_ _ _=>rfl,.inl rfl,au,List.nodup_nil,λf=>⟨λq=>(by cases q),λ⟨x,_,d,c⟩=>(by rw[d]at c;cases c)⟩,by simp⟩ ?_
 rintro m ds ap am ⟨P,Q,a,j,left,R,rfl,L,aa,a1,ac,B,av,F,v,bn⟩;simp only[lx];refine vi av (λax=>?_) λx bg ah bj a5 z=>?_
 ·simp only[kF,kr,bs,cW,dT,cV];refine be _ ap am a j L aa ⟨F,λi=>?_⟩ a1 ac B;rw[v i,w3];constructor
  ·rintro⟨x,ah,d,c⟩;obtain⟨f,q,k,u,aq⟩:=t.some d;have:i=f:=by omega
   subst this;rw[u];exact aq
  ·intro d;have c:=jk.1 d;obtain⟨ba,ad⟩:∃n,l[i]?=some n:=⟨_,bX c.2.1⟩
   have k:cP (bK l i):=by rw[lX ad];exact az ba (dB ad)
   exact⟨bK l i,k,by rw[t,d];rfl,ax _ k⟩
 ·obtain⟨f,rfl,q,ab,bo⟩:=t.some z;simp only[kF,kr,bs,cW,bL];rw[Ca (kg _ _ _)];have ae:f∉a:=λA=>by
   obtain⟨n,a9,d,c⟩:=(v f).1 A;obtain⟨w,k,_,u,_⟩:=t.some d;have:f=w:=by omega
   subst this;rw[u]at ab;rw[ab,a5]at c;cases c
  have a7:∀K∈f::a,K∈List.range l.length:=λK G=>by
   rcases e7.1 G with rfl|G
   ·exact hG.2 q
   ·obtain⟨n,a9,d,_⟩:=(v K).1 G;obtain⟨w,k,u,_⟩:=t.some d;exact hG.2 (by omega)
  have a3:=jS (pc.2 ⟨ae,F⟩) a7;simp only[eS,List.length_range]at a3;obtain⟨bh,an,aj,ao,al,I,ar,bk,⟨p,bc,a6,af⟩,a0⟩:=we a8 (by omega) (show f<rks.length by omega) L aa;simp only[kF,kr,sJ,bs,ao];unfold jF;have bl:aj.length=a.length+1:=by rw[I.length_eq];simp[-ES]
  refine iQ.2 ⟨⟨m - 1,by omega,_,_,aj,an,_,_,rfl,al,ar,by omega,λh ag a4=>?_,.inr ⟨p,bc,a6,?_⟩,kg _ _ _,?_,λw=>?_,by omega⟩,rfl⟩
  ·rw[a0 h ag (λbq C=>?_) (by omega),ac h ag a4];rcases B with rfl|⟨bd,bb,rfl,a2⟩
   ·cases C
   ·injection C with _ C;omega
  ·rcases af with⟨br,E⟩|af
   ·rcases B with rfl|⟨bd,bb,rfl,a2⟩
    ·cases E
    ·injection E with _ E;omega
   ·omega
  ·rw[I.nodup_iff,List.nodup_append];refine⟨F,by simp,λbf aw b ay=>?_⟩;rw[hH.1 ay];exact λA=>ae (A▸aw)
  ·rw [I.mem_iff,fk,hH,v w];constructor
   ·rintro(⟨n,d,c,k⟩|rfl)
    ·exact⟨n,d,c,by simp[-ES,k]⟩
    ·exact⟨x,ah,z,by simp⟩
   ·rintro⟨n,d,c,k⟩;by_cases ai:n=x
    ·right;subst ai;rw[z]at c;injection c with c;omega
    ·left;exact⟨n,d,c,by simpa[-ES,ai]using k⟩
theorem CD{a:Type}{l:List a}{ps:List Nat}{k:Nat}{x:a}(h:l[k]?=some x):pk l (ps++[k])=pk l ps++[x]:=by
 unfold pk;rw[List.filterMap_append];simp[-ES,h]
theorem mD{c:Type}{l:List c}:∀{ps:List Nat},(∀k∈ps,k<l.length)→(pk l ps).length=ps.length
 |[],_=>rfl
 | k::ps,h=>by
  have a:=h k (e8 ..);have b:l[k]?=some l[k]:=bX a;unfold pk;rw[jg,b];simp only[eS];exact congrArg (· + 1) (mD (ps:=ps) λk a=>h k (eP _ a))
theorem CC{b c:Type}(a:b→c)(l:List b)(ps:List Nat):pk (l.map a) ps=(pk l ps).map a:=by
 unfold pk;rw[List.map_filterMap];congr 1;funext d;simp[-ES]
theorem cR.aO{g g':Y}{o r:Nat}{rks:List Int}{f:List Nat}{c:D}(a:cR g o r rks f c)(h:∀b,(b=o∨b=r∨∃n,c = .aC 1 b 0 n)→g'[b]?=g[b]?):cR g' o r rks f c:=by
 obtain⟨er,p⟩:=a.rk;refine⟨by rw[h o (.inl rfl)];exact a.ob,a.rr,⟨er,by rw[h r (.inr (.inl rfl))];exact p⟩,?_,a.pb⟩;rcases a.pp with m|⟨e,i,j,k,d,l⟩
 ·exact .inl m
 ·exact .inr ⟨e,i,j,k,d,by rw[h e (.inr (.inr ⟨_,d⟩))];exact l⟩
theorem ov{g:Y}{N:Nat}{rows:List (List D)}{d:D}(h:aT g N aN 11 rows d){c T z:Nat}{i:List (List D)}(a:g[c]?=some (.row T z i))(f:T≠aN):¬d.dN c:=by
 rintro⟨l,j,rfl⟩;rcases h with⟨b,_⟩|⟨k,_,b,e⟩
 ·cases b
 ·injection b with _ b;subst b;rw[e]at a;injection a with a;injection a with a;exact f a.symm
theorem cR.mA{g:Y}{o r:Nat}{rks:List Int}{m:List Nat}{e:D}(c:cR g o r rks m e){N:Nat}{rows:List (List D)}{d:D}(h:aT g N aN 11 rows d){b:Nat}(k:b=o∨b=r∨∃n,e = .aC 1 b 0 n):¬d.dN b:=by
 rcases k with rfl|rfl|⟨n,a⟩
 ·exact ov h c.ob (by decide)
 ·obtain⟨er,l⟩:=c.rk;exact ov h l (by decide)
 ·rcases c.pp with⟨f,_⟩|⟨s,p,f,q,i,j⟩
  ·rw[f]at a;cases a
  ·rw[i]at a;injection a with _ a;subst a;exact ov h j (by decide)
theorem Bl {l:List It} {I:D} (b5:aY 11 aJ l I) (c1:l.length≤900000000) {o r a N:Nat} {g:Y} {rks:List Int} (bb:rks.length≤1000000000) (c5:l.length≤rks.length) {e:List Nat} {s:D} (bh:cR g o r rks e s) (bq:eT (bM (aU rks)) (aB e) e.length) (bu:jj l.length (bK l) [] e) {rows:List (List D)}
  (bw:g[a]?=some (.row U 1 rows)) (cd:∀j,j<l.length→rows[j]?=some (bZ (hd l j))) (au:a≠o) (b6:s = .J∨∃q m,s = .aC 1 q 0 m∧q≠a∧N≤q) (cq:N≤o) (cp:N≤g.length) (cr:a<g.length) (m:Int) (T X aa:D) :
  Wp (cT (jf I (.int .i64 m) (.ptr o 0 0) (.aC 1 a 0 l.length)) [.J,T,X,aa] g) λx=>∃ps f,x.1 = .ext 4∧W 0 x.2.1=f∧cO l.length (bK l) (aU rks) ps∧ps.length=min m.toNat l.length∧aT x.2.2 N aN 11 ((pk l ps).map aJ) f∧(ps=[]→f = .J)∧g.length≤x.2.2.length∧∀b,b<N→x.2.2[b]?=g[b]?:=by
 have cg:Wp ((cT (jf I (.int .i64 m) (.ptr o 0 0) (.aC 1 a 0 l.length)) [.J,T,X,aa] g).bind Option.some) λx=>∃ps f,x.1 = .ext 4∧W 0 x.2.1=f∧cO l.length (bK l) (aU rks) ps∧ps.length=min m.toNat l.length∧aT x.2.2 N aN 11 ((pk l ps).map aJ) f∧(ps=[]→f = .J)∧g.length≤x.2.2.length∧∀b,b<N→x.2.2[b]?=g[b]?:=by
  refine Wp.loop (λQ ap B=>∃f am an ao ps e s,ap=[f,am,an,ao]∧Q+ps.length=l.length+1∧cO l.length (bK l) (aU rks) ps∧ps.length≤m.toNat∧cR B o r rks e s∧eT (bM (aU rks)) (aB e) e.length∧jj l.length (bK l) ps e∧B[a]?=some (.row U 1 rows)∧(s = .J∨∃q m,s = .aC 1 q 0 m∧q≠a∧N≤q)∧aT B N aN 11 ((pk l ps).map aJ) f∧(ps=[]→f = .J)∧g.length≤B.length∧∀b,b<N→B[b]?=g[b]?) _ (l.length+1)
   ⟨_,_,_,_,[],e,s,rfl,by simp,.nil,by simp,bh,bq,bu,bw,b6,aT.J _ _ _ _,λ_=>rfl,aX _,λ_ _=>rfl⟩ ?_ (λr aj =>.some aj)
  rintro Q ap co ⟨f,am,an,ao,ps,e,s,rfl,cz,v,c3,G,br,C,bx,ax,y,a6,a0,af⟩;have a4:(pk l ps).length=ps.length:=mD v.mem;have b7:bT tab cD f=some (.int .i64 (ps.length:Nat)):=by rw[A4 y];simp[-ES,a4]
  have c4:=v.len;simp only[jf,dA,fL,b7,hj,bs];by_cases a5:(ps.length:Int)<m
  ·have bv:=q9 G;simp only[a5,iz,iU,jt,bL,bv,bs,iR,hQ,cW];by_cases a9:(0:Int)<(e.length:Nat)
   ·simp only[a9,iz,bL,bs];obtain⟨n,d⟩:∃n,e.length=n+1:=⟨e.length - 1,by omega⟩
    have c2:=w6 C;obtain⟨ac,ab,al,bk,A,R,ar,b2,c7,ak,q,k,F⟩:=CY bb d (by omega) G br;generalize cs:aB e 0=c at *;have b3:c∈e:=R.mem_iff.2 (e8 ..);obtain⟨aq,bp⟩:=w5 C b3 b2;have aw:c<l.length:=aq.1;obtain⟨be,a1⟩:∃cf,l[c]?=some cf:=⟨_,bX aw⟩
    have av:(0:Int)≤(c:Int):=by omega
    have b4:(c:Int)<(l.length:Int):=by omega
    have b1:jo U (.iface U (.int .i64 (c:Int)))=some (.int .i64 (c:Int)):=by simp[-ES,jo]
    have ah:q≠a:=by
     rcases ax with h|⟨bg,ci,h,L,_⟩
     ·rw[h]at k;cases k
     ·rw[h]at k;injection k with _ k;omega
    have ca:N≤q:=by
     rcases ax with h|⟨bg,ci,h,_,L⟩
     ·rw[h]at k;cases k
     ·rw[h]at k;injection k with _ k;omega
    have ad:ac[a]?=some (.row U 1 rows):=by
     rw[ak a au (λn d=>by rw[k]at d;injection d with _ d;exact ah d)];exact bx
    have ai:aT ac N aN 11 ((pk l ps).map aJ) f:=y.aO λb p u=>ak b (λw=>G.mA y (.inl w) u) (λn d=>G.mA y (.inr (.inr ⟨n,d⟩)) u)
    have az:∀b,b<N→ac[b]?=g[b]?:=λb p=>by
     rw[ak b (by omega) (λn d=>by rw[k]at d;injection d with _ d;omega)];exact af b p
    simp only[bk,bs,b1,n5 b5,av,bL,fP,a1,gk,qI,xI];refine wG (n0:=N) (by omega) ai (ys:=[aJ be]) rfl (by simp[-ES,a4];omega) λcl K z ct ay a2 cw=>?_
    have M:K[a]?=some (.row U 1 rows):=by
     rw[a2 a (aP.1 ad).1 (ov ai ad (by decide))];exact ad
    have H:cR K o r rks al ab:=A.aO λb p=>a2 b (by
     rcases p with rfl|rfl|⟨bf,i⟩
     ·exact(aP.1 A.ob).1
     ·obtain⟨er,aj⟩:=A.rk;exact(aP.1 aj).1
     ·rcases A.pp with⟨t,_⟩|⟨bg,cn,t,L,bn,bo⟩
      ·rw[t]at i;cases i
      ·rw[bn]at i;injection i with _ i;subst i;exact(aP.1 bo).1) (A.mA ai p)
    have cb:(pk l ps).map aJ++[aJ be]=(pk l (ps++[c])).map aJ:=by rw[CD a1];simp[-ES]
    rw[cb]at z;have bc:cO l.length (bK l) (aU rks) (ps++[c]) :=.snoc v aq bp;have b0:=cd c aw;have cx:jw a 0 l.length (c:Int)=jw a 0 l.length (c:Int):=rfl;have ba:bE tab aL (.aC 1 a 0 l.length) (.int .i64 (c:Int))=some (.ptr a c 0):=by
     rw[jw,bB ⟨av,b4⟩];simp[-ES]
    have a3:aA tab K U (.ptr a c 0)=some (.int .i64 (hd l c)):=by
     rw[gW,eG M,b0];rfl
    simp only[ba,a3,bs,lO,cW];have P:=wT (n:=l.length) (fl:=bK l) c;cases E:fo l.length (bK l) (c+1) (bK l c)with
    | none =>
     have ae:hd l c = -1:=by unfold hd;rw[E]
     have b8:¬(0:Int) ≤ -1:=by omega
     rw[E]at P;simp only[ae,b8,iT,dT,cV,bs,mQ];refine .some (.inl ⟨rfl,Q - 1,by omega,_,_,_,_,ps++[c],al,ab,rfl,by simp;omega,bc,by simp;omega,H,ar,sW v C R P (by simp),M,.inr ⟨q,_,F,ah,ca⟩,z,(λw=>by simp at w),(show g.length≤K.length by omega),λb p=>?_⟩);rw[ay b p];exact az b p
    | some j =>
     have ae:hd l c=(j:Int):=by unfold hd;rw[E]
     have ce:(0:Int)≤(j:Int):=by omega
     have cy:=jk.1 E;have c0:al.length≤900000000:=by have:=R.length_eq;simp at this;omega
     rw[E]at P;obtain⟨bm,bj,ch,bl,bi,ck,bt,cu,⟨cj,c6,b9,a8⟩,ag⟩:=we bb (by omega) (show j<rks.length by omega) H ar;have a7:∀b,(cl.dN b)→b≠o∧∀n,ab ≠ .aC 1 b 0 n:=λb u=>⟨λw=>H.mA z (.inl w) u,λn d=>H.mA z (.inr (.inr ⟨n,d⟩)) u⟩
     simp only[ae,ce,iz,bL,bs,ba,a3,bl,mQ];have bz:=(aP.1 M).1;refine .some (.inl ⟨rfl,Q - 1,by omega,_,_,_,_,ps++[c],ch,bj,rfl,by simp;omega,bc,by simp;omega,bi,bt,sW v C R P (ck.trans (by simpa using List.perm_append_comm)),?_,.inr ⟨cj,_,b9,?_,?_⟩,z.aO λb p u=>?_,(λw=>by simp at w),(show g.length≤bm.length by omega),λb p=>?_⟩)
     ·rw[ag a au (λn d=>by rw[F]at d;injection d with _ d;exact ah d) bz];exact M
     ·rcases a8 with⟨bf,i⟩|h
      ·rw[F]at i;injection i with _ i;omega
      ·omega
     ·rcases a8 with⟨bf,i⟩|h
      ·rw[F]at i;injection i with _ i;omega
      ·omega
     ·exact ag b (a7 b u).1 (a7 b u).2 (z.lt u).2
     ·rw[ag b (by omega) (λn d=>by rw[F]at d;injection d with _ d;omega) (by omega),ay b p];exact az b p
   ·have cc:e=[]:=fC (by omega);subst cc;simp only[a9,iT,dT,cV];have:=w7 C v;exact .some (.inr ⟨by simp,ps,f,rfl,rfl,v,by omega,y,a6,a0,af⟩)
  ·simp only[a5,iT,iU,jt,dT,cV,bs,l8,hQ,cW];exact .some (.inr ⟨by simp,ps,f,rfl,rfl,v,by omega,y,a6,a0,af⟩)
 obtain⟨x,t,L⟩:=cg;cases bd:cT (jf I (.int .i64 m) (.ptr o 0 0) (.aC 1 a 0 l.length)) [.J,T,X,aa] g with
 |none=>rw[bd]at t;cases t
 | some cm =>
  rw[bd]at t;injection t with t;subst t;exact⟨cm,rfl,L⟩
theorem vr(h:Y)(n:Nat)(b:n≤2000000000):lR tab h aL (.int .i64 n) (.int .i64 n)=some (.aC 1 h.length 0 n,aF h U 1 (List.replicate n [.int .i64 0])):=by
 have a:bH ((n:Int)).toNat dR.ft=true:=by rw[fP];exact n9 b
 show(if 0≤(n:Int)∧(n:Int)≤n∧bH (n:Int).toNat dR.ft=true∧0<dR.Z then some (D.aC dR.Z h.length 0 (n:Int).toNat,aF h U dR.Z (List.replicate (n:Int).toNat dR.zero))else none)=_;rw[bB ⟨by omega,by omega,a,by decide⟩,fP];rfl
theorem xu{h:Y}{o n:Nat}{rks:List Int}(d:h[o]?=some (.row U 1 (rks.map bZ)))(e:rks.length=n)(i:n≤900000000)(g:0<n):dM tab h aL U (.aC 1 o 0 n) (.int .i64 n)=some (.aC 1 h.length 0 (rks++List.replicate n 0).length,aF (h.set o .dead) U 1 ((rks++List.replicate n 0).map bZ)):=by
 rw[DP];have b:iw h dR dR (.int .i64 n)=some (List.replicate n [.int .i64 0]):=by
  show(if 0≤(n:Int)∧bH (n:Int).toNat dR.ft=true then some (List.replicate (n:Int).toNat dR.zero)else none)=_;rw[bB ⟨by omega,by rw[fP];exact n9 (by omega)⟩,fP];rfl
 unfold oM;rw[b];obtain⟨a,rfl⟩:∃a,n=a+1:=⟨n - 1,by omega⟩
 have f:dR.Z=1:=id rfl;have c:bH (a+1+(a+1)) dR.ft=true:=n9 (by omega);simp only[f,show Nat.blt 0 1=true from rfl,pd,d,gw,eS,List.length_replicate,c,e,aX,ik,bL,e6,iL,hD,List.map_replicate];rfl
theorem CQ{rks:List Int}{n k:Nat}(a:k<rks.length):aU (rks++List.replicate n 0) k=fg rks k:=by
 unfold aU fg;rw[cU a]
theorem De{n:Nat}{fl rk e:Nat→Int}(h:∀k,k<n→rk k=e k){l:List Nat}(d:cO n fl rk l):cO n fl e l:=by
 induction d with
 |nil=>exact .nil
 | snoc d a f i =>
  refine .snoc i a λg b c=>f g b ?_
  unfold bM at c ⊢;rw[h _ b.1,h _ a.1];exact c
theorem Dm{n:Nat}{h:Y}{e:List It}:∀row∈e.map aJ,∀d∈row,aW n h 3 d=d:=by
 intro row b d a;obtain⟨c,_,rfl⟩:=eE.1 b;exact uK n h 2 c d a
theorem Cq{i p:D}(x:aY 11 aJ [] i)(af:aY 1 bZ [] p)(m:Int)(h:Y):lv i p (.int .i64 m) h (λd h'=>cZ (scope h h' d=some (.J,h)) (some ()))=some ():=by
 have q:∃a,R nM [p] h=some (a,h)∧(a = .J∨a = .sl 1 true []):=by
  rcases af with⟨rfl,_⟩|⟨e,rfl⟩
  ·refine⟨.J,?_,.inl rfl⟩;rw[pV];have j:S tab .eql aL .J .J=some (.bool true):=id rfl;simp only[m2,j,bs,cW,bL,dO]
  ·refine⟨.sl 1 true [],?_,.inr rfl⟩;rw[pV];have j:S tab .eql aL (.sl 1 e (List.map bZ [])) .J=some (.bool false):=id rfl;have r:dM tab h aL aL (.sl 1 true []) (.sl 1 e (List.map bZ []))=some (.sl 1 true [],h):=id rfl;simp only[m2,j,r,bs,cW,dT,cV,tm,dO]
 obtain⟨a,q,y⟩:=q;have X:bT tab cD i=some (.int .i64 (0:Nat)):=by simpa using mh x
 have j:dM tab h aL U a (.int .i64 (0:Nat))=some (a,h):=by rcases y with rfl|rfl<;>exact id rfl
 have r:dE tab cJ [1] [a]=some (.agg [.J,a]):=te _ (by rcases y with rfl|rfl<;>rfl);have F:=rG cJ 2 h [.J,a] rfl (by decide);have G:=vr (aF h cJ 2 [[.J,a]]) 0 (by omega);have l:(aF h cJ 2 [[.J,a]]).length=h.length+1:=by simp[-ES,aF]
 have aj:IntKind.wrap .i64 (((0:Nat):Int) - 1)=((([]:List It).length:Nat):Int) - 1:=rfl;unfold lv;simp only[q,X,j,r,F,G,bs,gP,aj];unfold kY;refine iP.2 λw=>hU.2 λ_=>?_
 rw[l];have N:(aF (aF h cJ 2 [[.J,a]]) U 1 (List.replicate 0 [.int .i64 0]))[h.length+1]?=some (.row U 1 (List.replicate ([]:List It).length [.int .i64 0])):=by
  have:=hP (aF h cJ 2 [[.J,a]]) U 1 (List.replicate 0 [.int .i64 0])
  rwa [l]at this
 have ad:(aF (aF h cJ 2 [[.J,a]]) U 1 (List.replicate 0 [.int .i64 0]))[h.length]?=some (.row cJ 2 [[.J,a]]):=by
  rw[gQ _ _ _ _ (by rw[l];omega)];exact hP _ _ _ _
 refine vd x (by simp) (λak Q=>by cases Q) N (kg _ _ _) _ _ _ _ λf k E al C e t _ _ _ L M=>?_
 have ae:k[h.length]?=some (.row cJ 2 [[.J,a]]):=by rw[t.2 _ (by omega)];exact ad
 have ac:∀c,e c=none:=λc=>by
  rw[M c];cases s:fo ([]:List It).length (bK []) 0 c with
  |none=>rfl
  |some B=>have:=(jk.1 s).2.1;simp at this
 simp only[gh,eB];unfold mu;simp only[L];refine iP.2 λu=>hU.2 λ_=>?_
 have aa:∀n:Ex→List D→Y→Mp→Option Unit,(∀f b g,b=k→n (.ext 2) f b g=some ())→hs (lx (.ptr h.length 0 0) (.raw (.pointer (some ⟨u,0,none⟩)))) [.any,.any] k (E.set u (.it w C e (λc=>(e c).isSome) none)) n=some ():=λn H=>by
  refine mn (λB f b g=>b=k∧(∃v o,f=[v,o])∧g u=some (.it w C e (λc=>(e c).isSome) none)) 0 ⟨rfl,⟨_,_,rfl⟩,kg _ _ _⟩ ?_;rintro B f b g ⟨rfl,⟨v,o,rfl⟩,K⟩;simp only[lx];refine vi K (λ_=>?_) λc o _ _ _ A=>?_
  ·simp only[kF,kr,bs,cW,dT,cV];exact H _ _ _ rfl
  ·rw[ac]at A;cases A
 refine aa _ λf b g P=>?_
 subst P;have ah:aA tab b aL (.ptr h.length 0 (0+0))=some .J:=by
  rw[qL,eG ae];rfl
 have I:R l4 [.ptr h.length 0 0] b=some (.int .i64 (0:Nat),b):=by
  rw[tU];simp only[oY,k4,(j1 h.length).1,ah,A3,bs,dO];rfl
 have T:cT (jf i (.int .i64 m) (.ptr h.length 0 0) (.aC 1 (h.length+1) 0 0)) [.J,.any,.any,.any] b=some (.ext 4,[.J,.any,.bool false,.any],b):=by
  rw[oi];have:jf i (.int .i64 m) (.ptr h.length 0 0) (.aC 1 (h.length+1) 0 0) [.J,.any,.any,.any] b=some (.ext 4,[.J,.any,.bool false,.any],b):=by
   have ab:bT tab cD .J=some (.int .i64 0):=id rfl;simp only[jf,dA,fL,ab,hj,bs];by_cases z:(0:Int)<m
   ·simp only[z,iz,iU,jt,bL,I,bs,iR,hQ,cW]
    try rfl
   ·simp only[z,iT,iU,jt,dT,cV,bs,l8,hQ,cW]
    try rfl
  rw[this];rfl
 simp only[gh,eB,T,bs,dA,dO];have ag:scope h b .J=some (.J,h):=by
  refine mL rfl .J (by have:=t.1;simp[-ES,aF]at this;omega) λai s=>?_
  rw[t.2 ai (by omega),gQ _ _ _ _ (by rw[l];omega),gQ _ _ _ _ s]
 simp only[ag,cZ,bL]
theorem Cp{l:List It}{rks:List Int}{x F:D}(k:aY 11 aJ l x)(A:aY 1 bZ rks F)(R:l.length=rks.length)(bt:l.length≤400000000)(ao:0<l.length)(L:∀i∈l,cP i.e.a1)(m:Int)(h:Y):
  lv x F (.int .i64 m) h (λd h'=>cZ (scope h h' d=some (jb 11 ((pk l (gm l.length (bK l) (fg rks) m.toNat)).map aJ),h)) (some ()))=some ():=by
 have G:=CX A h (by omega) (by omega);rw[← R]at G;have a0:bT tab cD x=some (.int .i64 (l.length:Nat)):=mh k;have al:=hP h U 1 (rks.map bZ);have s:=xu al R.symm (by omega) ao;have K:(aF h U 1 (rks.map bZ)).length=h.length+1:=by simp[-ES,aF]
 rw[K]at s;generalize B:rks++List.replicate l.length 0=b at s;have X:l.length≤b.length:=by rw[← B];simp[-ES]
 have bu:b.length≤1000000000:=by rw[← B];simp[-ES];omega
 generalize y:aF ((aF h U 1 (rks.map bZ)).set h.length .dead) U 1 (b.map bZ)=f at s;have p:f.length=h.length+2:=by rw[← y];simp[-ES,aF]
 have bc:∀c,c<h.length→f[c]?=h[c]?:=λc q=>by
  rw[← y,gQ _ _ _ _ (by simp[-ES,aF];omega),g7 (by omega),gQ _ _ _ _ q]
 have bg:f[h.length+1]?=some (.row U 1 (b.map bZ)):=by
  have:=hP ((aF h U 1 (rks.map bZ)).set h.length .dead) U 1 (b.map bZ);rw[List.length_set,K,y]at this;exact this
 have aj:dE tab cJ [1] [.aC 1 (h.length+1) 0 b.length]=some (.agg [.J,.aC 1 (h.length+1) 0 b.length]):=te _ rfl;have ak:=rG cJ 2 f [.J,.aC 1 (h.length+1) 0 b.length] rfl (by decide);have H:=vr (aF f cJ 2 [[.J,.aC 1 (h.length+1) 0 b.length]]) l.length (by omega);have u:(aF f cJ 2 [[.J,.aC 1 (h.length+1) 0 b.length]]).length=h.length+3:=by simp[-ES,aF,p]
 rw[u]at H;have bi:IntKind.wrap .i64 ((l.length:Int) - 1)=(l.length:Int) - 1:=cE (by omega) (by omega);unfold lv;simp only[G,a0,s,aj,ak,H,bs,gP,bi];generalize t:aF (aF f cJ 2 [[.J,.aC 1 (h.length+1) 0 b.length]]) U 1 (List.replicate l.length [.int .i64 0])=j;have br:j.length=h.length+4:=by rw[← t];simp[-ES,aF,p]
 have ag:j[h.length+3]?=some (.row U 1 (List.replicate l.length [.int .i64 0])):=by
  have:=hP (aF f cJ 2 [[.J,.aC 1 (h.length+1) 0 b.length]]) U 1 (List.replicate l.length [.int .i64 0]);rw[u,t]at this;exact this
 have ad:∀c,c<h.length+2→j[c]?=f[c]?:=λc q=>by
  rw[← t,gQ _ _ _ _ (by rw[u];omega),gQ _ _ _ _ (by rw[p];omega)]
 have be:j[h.length+2]?=some (.row cJ 2 [[.J,.aC 1 (h.length+1) 0 b.length]]):=by
  rw[← t,gQ _ _ _ _ (by rw[u];omega)];have:=hP f cJ 2 [[.J,.aC 1 (h.length+1) 0 b.length]]
  rwa [p]at this
 unfold kY;refine iP.2 λC=>hU.2 λ_=>?_
 rw[p];refine vd (l:=l) k (by omega) L ag (kg _ _ _) _ _ _ _ λai am bl bh bz bo v ax bv a8 ar au=>?_
 have ae:cR am (h.length+2) (h.length+1) b [] .J:=⟨by rw[v.2 _ (by omega)];exact be,by omega,⟨[],by rw[v.2 _ (by omega),ad _ (by omega),bg];simp[-ES]⟩,.inl ⟨rfl,rfl⟩,λbb Q=>by cases Q⟩
 simp only[gh,eB];unfold mu;simp only[ar];refine iP.2 λbx=>hU.2 λ_=>?_
 have bw:=v.1;refine Bk (l:=l) (by omega) L (rks:=b) (by omega) X ae (kg _ _ _) au _ _ λai an bm b0 bn af ap aq bq M a2=>?_
 have ah:an[h.length+3]?=some (.row U 1 bh):=by rw[M _ (by omega) (by omega)];exact ax
 obtain⟨bj,ba,w,E,ab,ac,aa,a6,T,a4,ay,P⟩:=Bl (l:=l) k (by omega) (rks:=b) (o:=h.length+2) (r:=h.length+1) (a:=h.length+3) (N:=h.length) (by omega) X af ap aq ah a8 (by omega) (by
  rcases a2 with g|⟨bf,bd,g,f⟩
  ·exact .inl g
  ·exact .inr ⟨bf,bd,g,by omega,by omega⟩) (by omega) (by omega) (by omega) m .any .any .any
 obtain⟨b2,b3,I⟩:=bj;simp only at ab ac T ay P;subst ab;simp only[gh,eB,ba,bs,dA,ac,dO];have a7:w=gm l.length (bK l) (fg rks) m.toNat:=sY (De (λbb Q=>by rw[← B];exact CQ (by omega)) aa) a6;have aw:aW h.length I 4 E=jb 11 ((pk l (gm l.length (bK l) (fg rks) m.toNat)).map aJ):=by
  rw[← a7];rcases uA T (aX _) (n:=3) Dm with⟨g,f⟩|g
  ·rw[g,f];rfl
  ·by_cases z:w=[]
   ·rw[a4 z,z];rfl
   ·rw[g];have a3:(pk l w).map aJ≠[]:=λaz=>by
     have bp:=mD (l:=l) aa.mem;have j:=congrArg List.length az;simp only[gw,fD]at j;exact z (fC (by omega))
    cases av:(pk l w).map aJ with
    |nil=>exact absurd av a3
    |cons a C=>rfl
 have a5:Ok h.length (jb 11 ((pk l (gm l.length (bK l) (fg rks) m.toNat)).map aJ)):=by
  generalize (pk l (gm l.length (bK l) (fg rks) m.toNat))=bk;cases bk with
  |nil=>exact .J
  | cons a C =>
   refine .sl _ _ _ λb1 A d k=>?_
   obtain⟨i,_,rfl⟩:=eE.1 A;exact uL _ i d k
 have a9:scope h I E=some (jb 11 ((pk l (gm l.length (bK l) (fg rks) m.toNat)).map aJ),h):=by
  refine mL aw a5 (by omega) λc q=>?_
  rw[P c q,M c (by omega) (by omega),v.2 c (by omega),ad c (by omega),bc c q]
 simp only[a9,cZ,bL]
theorem Di{a:List (Int × Int × aR)}{d:D}(h:aY 3 qP a d):aY 3 bW (a.map λp=>dJ.mk p.1 p.2.1 p.2.2) d:=by
 rcases h with⟨rfl,rfl⟩|⟨b,rfl⟩
 ·exact .inl ⟨rfl,rfl⟩
 ·exact .inr ⟨b,by rw[lB];rfl⟩
theorem Ba{a:List dJ}{d:D}(h:aY 3 bW a d):aY 3 qP (a.map λp=>(p.off,p.len,p.gg)) d:=by
 rcases h with⟨rfl,rfl⟩|⟨b,rfl⟩
 ·exact .inl ⟨rfl,rfl⟩
 ·exact .inr ⟨b,by rw[lB];rfl⟩
theorem AJ{row:List D}(h:m5 row):∃i:It,aJ i=row∧cP i.e.a1:=by
 obtain⟨r,s,t,a,b,c,d,f,g,q,j,u,k,rfl,l,m,n,o,p⟩:=h;exact⟨⟨r,⟨a,b,c,d,_,q,f,g,s,t,k,j,n,o,Di l,by simpa using m⟩⟩,rfl,p⟩
theorem Cs{i:It}(h:cP i.e.a1):m5 (aJ i):=⟨i.r,i.e.s7,i.e.s8,i.e.a0,i.e.a1,i.e.a2,i.e.a3,i.e.a5,i.e.a6,i.e.ld,i.e.fd,_,i.e.fs,rfl,Ba i.e.iC,by simpa using i.e.uG,i.e.jv,i.e.hl,h⟩
theorem uM:∀{b:List (List D)},(∀row∈b,m5 row)→∃l:List It,b=l.map aJ∧∀i∈l,cP i.e.a1
 |[],_=>⟨[],rfl,λi hi=>by cases hi⟩
 | row::b,h=>by
  obtain⟨i,c,h2⟩:=AJ (h row (e8 ..));obtain⟨l,d,f⟩:=uM λk g=>h k (eP _ g)
  refine⟨i::l,by rw[hD,c,d],λj a=>?_⟩;rcases e7.1 a with rfl|a
  ·exact h2
  ·exact f j a
theorem vX:∀{a:List (List D)},(∀row∈a,∃r,row=[.int .i64 r])→∃rks:List Int,a=rks.map bZ
 |[],_=>⟨[],rfl⟩
 | row::a,h=>by
  obtain⟨r,rfl⟩:=h row (e8 ..);obtain⟨d,b⟩:=vX λr c=>h r (eP _ c)
  exact⟨r::d,by rw[hD,← b];rfl⟩
theorem vY{b:Type}{z:Nat}{a:b→List D}{l:List b}{d:D}(h:k9 z d=some (l.map a)):aY z a l d:=by
 unfold k9 at h;split at h
 ·injection h with h;exact .inl ⟨rfl,List.map_eq_nil_iff.1 h.symm⟩
 ·split at h
  ·rename_i c;injection h with h;subst c;exact .inr ⟨_,by rw[h]⟩
  ·cases h
 ·cases h
theorem wo{b:Type}{z:Nat}{a:b→List D}{l:List b}{d:D}(h:aY z a l d):k9 z d=some (l.map a):=by
 rcases h with⟨rfl,rfl⟩|⟨c,rfl⟩
 ·rfl
 ·unfold k9;simp[-ES]
theorem vy(l:List It)(rks:List Int)(m:Int):qU (l.map aJ) (rks.map bZ) m=(pk l (gm l.length (bK l) (fg rks) m.toNat)).map aJ:=by
 unfold qU;rw[CC,gw,lB,lB];have a:(mb 2 ∘ aJ)=λc=>c.e.a1:=rfl
 have b:(rks.map (mb 0 ∘ bZ))=rks:=by
  have:(mb 0 ∘ bZ)=id:=rfl;rw[this];simp[-ES]
 rw[a,b]
theorem tL{l:List It}{rks:List Int}{b c:D}(f:aY 11 aJ l b)(n:aY 1 bZ rks c)(k:l.length=rks.length)(j:l.length≤400000000)(g:∀i∈l,cP i.e.a1)(m:Int)(h:Y):
  kH [b,c,.int .i64 m] h=some (jb 11 ((pk l (gm l.length (bK l) (fg rks) m.toNat)).map aJ),h):=by
 unfold kH;simp only[wo f,wo n];rw[bB,vy];refine⟨by simpa using k,by simpa using j,λo a=>?_,λo a=>?_⟩
 ·obtain⟨i,d,rfl⟩:=eE.1 a;exact Cs (g i d)
 ·obtain⟨i,d,rfl⟩:=eE.1 a;exact⟨i,rfl⟩
theorem DJ{args:List D}{h:Y}{r:D × Y}(a:kH args h=some r):mF X R cT 31 i7 args h (λd h'=>cZ (scope h h' d=some r) (some ()))=some ():=by
 unfold kH at a;split at a
 case h_2=>cases a
 rename_i w y c;split at a
 case h_2=>cases a
 rename_i x z s t;split at a
 case isFalse=>cases a
 rename_i q;injection a with a;subst a;obtain⟨e,f,k,l⟩:=q;obtain⟨j,rfl,n⟩:=uM k;obtain⟨u,rfl⟩:=vX l;rw[zX,vy];simp only[gw]at e f;have g:=vY s;have i:=vY t;rcases nh j.length with b|b
 ·have p:j=[]:=fC b;have o:u=[]:=fC (by omega);subst p;subst o;have:pk ([]:List It) (gm ([]:List It).length (bK []) (fg []) c.toNat)=[]:=by
   unfold pk;exact List.filterMap_eq_nil_iff.2 λv _=>rfl
  rw[this];exact Cq g i c h
 ·exact Cp g i e f b n c h
def bJ(a x:Int):It:=⟨[114],⟨0,a,x,x+1,[⟨x,1,[]⟩],.sl 3 true [[.int .i64 x,.int .i64 1,.str []]],0,0,[],[],[],.J,.J _ _,by simp,.mk _ _ _ _,by simp⟩⟩
theorem q8(a x:Int)(q:0≤x)(r:x≤10)(h:Y):R j0 [.int .i64 a,.int .i64 x] h=some (.agg (aJ (bJ a x)),h):=by
 have p:IntKind.wrap .i64 (x+1)=x+1:=cE (by omega) (by omega);have f:dE tab bP [0,1] [.int .i64 x,.int .i64 1]=some (.agg [.int .i64 x,.int .i64 1,.str []]):=id rfl;have g:bA tab bS 1 [0] [.agg [.int .i64 x,.int .i64 1,.str []]]=some (.sl 3 true [[.int .i64 x,.int .i64 1,.str []]]):=id rfl;have i:dE tab aE [1,2,3,4] [.int .i64 a,.int .i64 x,.int .i64 (x+1),.sl 3 true [[.int .i64 x,.int .i64 1,.str []]]]=some (.agg (bY (bJ a x).e)):=id rfl;have j:dE tab aN [0,1] [.str [114],.agg (bY (bJ a x).e)]=some (.agg (aJ (bJ a x))):=id rfl;apply Wp.val;rw[yH];simp only[r2,bs,fH,p,f,g,i,j];have k:=hP h aN 11 [[.str [],.int .i64 0,.int .i64 0,.int .i64 0,.int .i64 0,.J,.int .i64 0,.int .i64 0,.str [],.str [],.J]];simp only[cQ];refine oR k (by rfl) (by rfl) (by exact aX _) (by rfl) λb c d=>?_
 have c:b[h.length]?=some (.row aN 11 [aJ (bJ a x)]):=c;have l:aA tab b aN (.ptr h.length 0 0)=some (.agg (aJ (bJ a x))):=by
  rw[uV,eG c];rfl
 simp only[bs,l,dO];have n:scope h b (.agg (aJ (bJ a x)))=some (.agg (aJ (bJ a x)),h):=by
  refine mL (by rfl) (qG _ _) (by have:=d.1;simp[-ES,aF]at this;omega) λo m=>?_
  rw[d.2 o (by omega),gQ _ _ _ _ m]
 rw[n];exact .some rfl
theorem xQ(a:FuncId)(xs:List D)(h:Y):kA R1 (.fn (.func a) [] []) xs h=R1 a xs h:=by
 rw[xR];simp[-ES]
theorem CW(h:Y):R1 p0 [] h=some (.bool true,h):=by
 have p:=q8 1 0 (by omega) (by omega) h;have q:=q8 2 0 (by omega) (by omega) h;have r:=q8 1 1 (by omega) (by omega) h;have s:bA tab cD 3 [0,1,2] [.agg (aJ (bJ 1 0)),.agg (aJ (bJ 2 0)),.agg (aJ (bJ 1 1))]=some (.sl 11 true ([bJ 1 0,bJ 2 0,bJ 1 1].map aJ)):=id rfl;have t:bA tab aL 3 [0,1,2] [.int .i64 0,.int .i64 5,.int .i64 9]=some (.sl 1 true ([0,5,9].map bZ)):=id rfl;have C:[1,0]=gm 3 (bK [bJ 1 0,bJ 2 0,bJ 1 1]) (fg [0,5,9]) 2:=by
  have d:bK [bJ 1 0,bJ 2 0,bJ 1 1] 0=1:=rfl;have v:bK [bJ 1 0,bJ 2 0,bJ 1 1] 1=2:=rfl;have g:bK [bJ 1 0,bJ 2 0,bJ 1 1] 2=1:=rfl;have L:fg [0,5,9] 0=0:=rfl;have r1:fg [0,5,9] 1=5:=rfl;have w:eK 3 (bK [bJ 1 0,bJ 2 0,bJ 1 1]) [] 1:=⟨by omega,by simp,λi A B=>by
   obtain rfl:i=0:=by omega
   rw[d,v]at B;omega⟩
  have x:eK 3 (bK [bJ 1 0,bJ 2 0,bJ 1 1]) ([]++[1]) 0:=⟨by omega,by simp,λi A=>by omega⟩
  refine sY (m:=2) (.snoc (ps:=[1]) (.snoc (ps:=[]) .nil w λa b=>?_) x λa b=>?_) rfl
  ·obtain⟨y,_,f⟩:=b;have:a=0∨a=1∨a=2:=by omega
   unfold bM;rcases this with rfl|rfl|rfl
   ·rw[L,r1];omega
   ·omega
   ·have:=f 0 (by omega) (by rw[d,g]);simp at this
  ·obtain⟨y,z,f⟩:=b;have:a=0∨a=1∨a=2:=by omega
   unfold bM;rcases this with rfl|rfl|rfl
   ·omega
   ·simp at z
   ·have:=f 0 (by omega) (by rw[d,g]);simp at this
 have c:=tL (l:=[bJ 1 0,bJ 2 0,bJ 1 1]) (rks:=[0,5,9]) (.inr ⟨true,rfl⟩) (.inr ⟨true,rfl⟩) rfl (by simp) (λa b=>by
  simp only[e7,sP,or_false]at b;unfold cP;rcases b with rfl|rfl|rfl<;>simp[-ES,bJ]) 2 h
 rw[show([bJ 1 0,bJ 2 0,bJ 1 1]:List It).length=3 from rfl,show(2:Int).toNat=2 from rfl,← C]at c;have u:jb 11 ((pk [bJ 1 0,bJ 2 0,bJ 1 1] [1,0]).map aJ) = .sl 11 false [aJ (bJ 2 0),aJ (bJ 1 0)]:=rfl;rw[u]at c;have E:bE tab cD (.sl 11 false [aJ (bJ 2 0),aJ (bJ 1 0)]) (.int .i64 0)=some (.aG (aJ (bJ 2 0))):=id rfl;have F:bE tab cD (.sl 11 false [aJ (bJ 2 0),aJ (bJ 1 0)]) (.int .i64 1)=some (.aG (aJ (bJ 1 0))):=id rfl;have G:bT tab cD (.sl 11 false [aJ (bJ 2 0),aJ (bJ 1 0)])=some (.int .i64 2):=id rfl;have M:aD tab aE 2 (.aG (bY (bJ 1 0).e))=some (.aG (.int .i64 0::(bY (bJ 1 0).e).drop 3)):=id rfl;have N:∀(j:Int) (o:List D),aA tab h U (.aG (.int .i64 j::o))=some (.int .i64 j):=λ_ _=>id rfl
 have k:(bJ 2 0).e.a1=2:=rfl;have n:(bJ 1 0).e.a1=1:=rfl;have H:S tab .eql U (.int .i64 2) (.int .i64 2)=some (.bool true):=id rfl;have I:S tab .eql U (.int .i64 1) (.int .i64 1)=some (.bool true):=id rfl;have K:S tab .eql U (.int .i64 0) (.int .i64 0)=some (.bool true):=id rfl;rw[yG];simp only[r0,xQ,CI,p,q,r,s,t,wJ,c,bs,G,H,iU,bL,E,F,mf,nE,k,n,I,M,N,K,hQ,dO]
def fu(a:List It)(b j:Nat):Nat:=((List.range j).filter λc=>decide (bK a c=bK a b)).length
theorem pF(a:List It)(b j:Nat):fu a b (j+1)=fu a b j+if bK a j=bK a b then 1 else 0:=by
 unfold fu;rw[jN,g6,e6];congr 1;by_cases c:bK a j=bK a b
 ·simp[-ES,c]
 ·simp[-ES,c]
theorem xZ(a:List It)(b:Nat){j k:Nat}(h:j≤k):fu a b j≤fu a b k:=by
 induction k with
 |zero=>rw[show j=0 by omega];exact aX _
 | succ k d =>
  by_cases c:j=k+1
  ·rw[c];exact aX _
  ·have:=d (by omega);rw[pF];omega
theorem tD(a:List It)(b j:Nat):fu a b j≤j:=by
 unfold fu;have:=List.length_filter_le (λc=>decide (bK a c=bK a b)) (List.range j);simpa using this
theorem Bn{d:List It}{z:D}(Q:aY 11 aJ d z){x:It}{c:Nat}(o:d[c]?=some x)(ai:d.length≤1000)(R:cP x.e.a1){b m:Nat}{B:Int→Option Int}{j:Mp}(N:j b=some (.mp m B))(P:(B x.e.a1).getD 0=(fu d c c:Nat)){g:Y}{s:Ex→List D→Y→Mp→Option Unit}(u v w y:D)
  (ac:∀I k l n K L,s (.ext 2) [I,.bool true,k,l,n,K,L] g j=some ()) :
  hs (o4 (.raw (.map (some b))) (.aG (aJ x)) z (.int .i64 (d.length:Nat))) [.int .i64 0,.bool false,u,.int .i64 0,v,w,y] g j s=some ():=by
 have ae:=(aP.1 o).1;have C:=lX o;refine mn (λp A M H=>M=g∧H=j∧∃(a:Nat) (t k l n:D),A=[.int .i64 (fu d c a:Nat),.bool false,t,.int .i64 (a:Nat),k,l,n]∧p+a=c+1∧a≤c) (c+1) ⟨rfl,rfl,0,u,v,w,y,rfl,by omega,by omega⟩ ?_;rintro p A _ _ ⟨rfl,rfl,a,t,k,l,n,rfl,aj,ag⟩;have X:(a:Int)<(d.length:Nat):=by omega
 have T:(0:Int)≤(a:Int):=by omega
 obtain⟨q,f⟩:∃q,d[a]?=some q:=⟨_,bX (by omega)⟩
 have E:=lX f;have G:=ln a (by omega);have af:=tD d c a;have ad:IntKind.wrap .i64 ((fu d c a:Nat)+1:Int)=((fu d c a+1:Nat):Int):=by rw[cE (by omega) (by omega)];omega
 simp only[o4,dA,fL,hj,bs,X,iz,cW,bL,n5 Q,T,fP,f,gk,qI,tj,mf,nE,qH,pG];by_cases h:q.e.a1=x.e.a1
 ·have aa:¬(q.e.a1≠x.e.a1):=λr=>r h
  simp only[aa,iT,dT,cV];rw[vh N R];simp only[P,nx,bs,cW];by_cases F:a=c
  ·subst F;rw[o]at f;injection f with f;subst f;simp only[iz,bL,CJ,C3,Da,bs];exact ac _ _ _ _ _ _
  ·have i:=pF d c a;rw[bB (by rw[E,C];exact h)]at i;have ah:=xZ d c (show a+1≤c by omega);have ab:¬((fu d c a:Nat):Int)=(fu d c c:Nat):=by omega
   simp only[ab,iT,dT,cV,fH,G,ad,bs];unfold jF;exact iQ.2 ⟨⟨p - 1,by omega,rfl,rfl,a+1,_,_,_,_,by rw[i],by omega,by omega⟩,rfl⟩
 ·simp only[ne_eq,h,not_false_eq_true,iz,bL,fH,G,bs];have i:=pF d c a;rw[bO (by rw[E,C];exact h)]at i;have F:a≠c:=λr=>by
   subst r;rw[o]at f;injection f with f;subst f;exact h rfl
  unfold jF;exact iQ.2 ⟨⟨p - 1,by omega,rfl,rfl,a+1,_,_,_,_,by rw[i];rfl,by omega,by omega⟩,rfl⟩
theorem vL{f:Type}{l:List f}:∀{ps:List Nat},(∀k∈ps,k<l.length)→∀t:Nat,(pk l ps)[t]?=(ps[t]?).bind λk=>l[k]?
 |[],_,t=>by simp[-ES,pk]
 | k::ps,h,t=>by
  have c:=h k (e8 ..);have a:l[k]?=some l[k]:=bX c;have b:pk l (k::ps)=l[k]::pk l ps:=by
   unfold pk;rw[jg,a]
  rw[b];cases t with
  |zero=>simp[-ES,a]
  |succ t=>simpa using vL (ps:=ps) (λe d=>h e (eP _ d)) t
theorem Bm{a:List It}{r R:D}(T:aY 11 aJ a r)(a0:a.length≤1000)(au:∀i∈a,cP i.e.a1){rk:Nat→Int}{ps:List Nat}(k:cO a.length (bK a) rk ps)(ay:aY 11 aJ (pk a ps) R){b:Nat}{A:Mp}(ap:A b=some (.mp 0 λ_=>none)){g:Y}{z:Ex→List D→Y→Mp→Option Unit}(X aa af ag ah ai aj ak al ab ac ad ae:D)
  (a9:∀ds q,z (.ext 0) ds g q=some ()) :
  hs (o3 r (.raw (.map (some b))) R (.int .i64 ((pk a ps).length:Nat))) [X,aa,af,ag,ah,.int .i64 0,ai,aj,ak,al,ab,ac,ad,ae] g A z=some ():=by
 have az:=mD (l:=a) k.mem;have bl:=k.len;rw[az];refine mn (λy ds am q=>am=g∧∃(d:Nat) (B C I K L M N P Q E F G H:D),ds=[B,C,I,K,L,.int .i64 (d:Nat),M,N,P,Q,E,F,G,H]∧y+d=ps.length∧∃p j,q b=some (.mp p j)∧p≤d∧∀h,(j h).getD 0=(((ps.take d).filter λm=>decide (bK a m=h)).length:Nat)) ps.length
  ⟨rfl,0,_,_,_,_,_,_,_,_,_,_,_,_,_,rfl,by omega,0,_,ap,aX _,λh=>by simp⟩ ?_
 rintro y ds _ bc ⟨rfl,d,B,C,I,K,L,M,N,P,Q,E,F,G,H,rfl,bm,p,j,s,bk,v⟩;have aw:bT tab cD r=some (.int .i64 (a.length:Nat)):=mh T;simp only[o3,dA,fL,hj,bs];by_cases a3:d<ps.length
 ·have a6:(d:Int)<(ps.length:Nat):=by omega
  have a4:(0:Int)≤(d:Int):=by omega
  obtain⟨c,n⟩:∃m,ps[d]?=some m:=⟨_,bX a3⟩
  have aq:=k.mem c (dB n);obtain⟨f,o⟩:∃f,a[c]?=some f:=⟨_,bX aq⟩
  have a8:(pk a ps)[d]?=some f:=by rw[vL k.mem,n];exact o
  have w:=au f (dB o);have u:=lX o;obtain⟨a1,a2⟩:=k.xx d c n;have ar:=cO.kD a1 a2;have t:(j f.e.a1).getD 0=(fu a c c:Nat):=by
   rw[v,← u];unfold fu;rw[ar]
  have bj:=tD a c c;have ba:=ln d (by omega);have bb:IntKind.wrap .i64 ((fu a c c:Nat)+1:Int)=((fu a c c+1:Nat):Int):=by rw[cE (by omega) (by omega)];omega
  have ax:gR .not (.bool true)=some (.bool false):=id rfl;simp only[a6,iz,cW,bL,n5 ay,a4,fP,a8,gk,qI,tj,bs,aw];refine Bn T o a0 w s t _ _ _ _ λbd be bf bg bh bi=>?_
  simp only[gh,eB,dA,fL,ax,bs,cW,dT,cV,mf,nE,qH];rw[vh s w];simp only[t,fH,bb,bs];rw[vj s w (by unfold cP;omega) (by omega)];simp only[ba,bs];unfold jF;refine iQ.2 ⟨⟨y - 1,by omega,rfl,d+1,_,_,_,_,_,_,_,_,_,_,_,_,_,rfl,by omega,p+1,_,wF _ _ _,by omega,λh=>?_⟩,rfl⟩;have a5:ps.take (d+1)=ps.take d++[c]:=by rw[ie,n];rfl
  rw[a5,g6,e6];show(if h=f.e.a1 then some ((fu a c c+1:Nat):Int)else j h).getD 0=_;by_cases x:h=f.e.a1
  ·subst x;rw[bB rfl];have an:=v f.e.a1;rw[t]at an;have ao:([c].filter λm=>decide (bK a m=f.e.a1)).length=1:=by simp[-ES,u]
   rw[ao];show((fu a c c+1:Nat):Int)=_;omega
  ·rw[bO x,v];have:¬bK a c=h:=λav=>x (by rw[← av,u])
   simp[-ES,this]
 ·have a7:¬(d:Int)<(ps.length:Nat):=by omega
  simp only[a7,iT,cW,dT,cV];exact a9 _ _
theorem x2(w:Int)(a:0≤w)(b:w<256):jW tab ll U (.int .u8 w)=some (.int .i64 w):=by
 show some (D.int .i64 (IntKind.wrap .i64 w))=_;rw[cE (by omega) (by omega)]
theorem AV(f:List Int)(d:D)(C:gv .u8 f d)(ac:∀z∈f,0≤z∧z<256)(ad:f.length≤9223372036854775807)(w:Int)(u:0≤w)(ab:w<256):
  mF X1 R1 cT 31 i3 [d,.int .u8 w] [] (λd h'=>cZ (scope [] h' d=some (.bool true,[])) (some ()))=some ():=by
 rw[zW];obtain⟨B,A,x,al,_⟩:=B1 f d 240 [] C (by omega) (by omega) ac ad;obtain⟨a,m,o,p,h,g,i,j,M,aj,X,ag,an⟩:=B4 x 10 (by omega);have g:R jZ [.ptr 0 0 0,.int .i64 10] B=some (.bR [o,p],h):=g;have j:aY 1 bZ m p:=j;have q:∀k∈a,cP k.e.a1:=λk E=>by
  have c:=(M k E).r.a1;unfold eJ at c;unfold cP;omega
 have T:(S tab .rem U (.int .i64 w) (.int .i64 12))=some (.int .i64 (w % 12)):=by
  simp[-ES,S,e1];have c:Int.tmod w 12=w % 12:=Int.tmod_eq_emod_of_nonneg u;rw[c]
 have K:=tL i j X.symm (by omega) q (w % 12) h;obtain⟨t,N⟩:=pv (n:=a.length) (fl:=bK a) (rk:=fg m) (w % 12).toNat;generalize ak:gm a.length (bK a) (fg m) (w % 12).toNat=b at *;have P:=mD (l:=a) t.mem;have s:aY 11 aJ (pk a b) (jb 11 ((pk a b).map aJ)):=by
  cases ai:pk a b with
  |nil=>exact .inl ⟨rfl,rfl⟩
  |cons af v=>exact .inr ⟨false,rfl⟩
 generalize jb 11 ((pk a b).map aJ)=y at *;have F:bT tab cD y=some (.int .i64 ((pk a b).length:Nat)):=mh s;have G:bT tab cD o=some (.int .i64 (a.length:Nat)):=mh i;have H:jq (.int .i64 (w % 12)) (.int .i64 (a.length:Nat))=some (.int .i64 ((pk a b).length:Nat)):=by
  have c:(if((a.length:Nat):Int)<w % 12 then((a.length:Nat):Int)else w % 12)=((min (w % 12).toNat a.length:Nat):Int):=by
   split<;>omega
  rw[P,N,← c];rfl
 have L:gR .not (.bool true)=some (.bool false):=id rfl;have I:S tab .neq U (.int .i64 ((pk a b).length:Nat)) (.int .i64 ((pk a b).length:Nat))=some (.bool false):=by simp
 unfold sA;simp only[CW,L,bs,cW,dT,cV,CG,A,CH,fD,g,kF,kr,sJ,x2 w u ab,T,wJ,K,F,G,H,I];unfold kY;refine iP.2 λv=>hU.2 λ_=>?_
 refine Bm i (by omega) q t s (kg _ _ _) _ _ _ _ _ _ _ _ _ _ _ _ _ λah ae=>?_
 simp only[gh,eB,dO];have aa:scope [] h (.bool true)=some (.bool true,[]):=mL (by rfl) (.bool _) (gK _) λam Q=>by simp at Q
 simp only[aa,cZ,bL]
end Go.Proofs.Ytinlnkhheafjaaa
namespace Go.Proofs.Ytinlnkhheafjaaa
open Go.Eng Go.Pi
theorem vb:ks cT:=λ_ _ _ _ a=>jy.1 a
theorem DX:eH Try.prog X1 mV:=λj args k e g a f i c b d=>by
 unfold mV at a;split at a
 ·rename_i h;subst h;exact vg (X:=X) vk oI oj s0 vb zF (r:=(e,g)) (DJ a) c b d
 ·skip
  exact s0 _ _ _ _ _ a f i c b d
theorem xi:eH Try.prog X1 R1:=wb (X:=X1) oI oj DX (p9 p8 zO)
open Classical in
noncomputable def R2:bC:=λc args a=>if c=uv then(if mF X1 R1 cT 31 i3 args a (λb d=>cZ (scope a d b=some (.bool true,a)) (some ()))=some ()then some (.bool true,a)else none)else none
theorem xj:eH Try.prog X1 R2:=λk args b j m a l n g f i=>by
 unfold R2 at a;split at a
 ·rename_i e;subst e;split at a
  ·rename_i h;injection a with a;injection a with c d;subst c;subst d;exact vg (X:=X1) vk oI oj xi vb ur (r:=(.bool true,b)) h g f i
  ·cases a
 ·cases a
theorem AW(a:List Int)(d:D)(c:gv .u8 a d)(e:∀z∈a,0≤z∧z<256)(f:a.length≤9223372036854775807)(w:Int)(b:0≤w∧w<256):∃h',R2 uv [d,.int .u8 w] []=some (.bool true,h'):=⟨[],by
 unfold R2;rw[bB rfl,bB (AV a d c e f w b.1 b.2)]⟩
end Go.Proofs.Ytinlnkhheafjaaa

/- Laws, on plain data, about functions that the statement reaches. -/
import Derived.Test.YtehgglgadbmecaaGreatDoorL2
set_option linter.unusedSimpArgs false
set_option linter.unusedVariables false
set_option linter.unnecessarySimpa false
set_option maxRecDepth 100000
namespace Go.Proofs.YtehgglgadbmecaaGreatDoor
open Go.Eng Go.Pi
open Option (bind_some)
theorem c4d (c:Ct→Ct→Int) (cmp:D) (hc:∀ x y g,a1V R cmp [.agg (ctr x),.agg (ctr y)] g=some (.int .i64 (c x y),g)) (ob N a:Nat) (hN:N≤1000000000) {β:Type} {K:Out→Option β} {Q:β→Prop}
  (l:List Ct) (hl:l.length=N) (j:Nat) (hj:j<N) (h:Hp) (ho:h[ob]?=some (.row a0d 3 (l.map ctr))) (b:D)
  (k:∀ x y h',h'[ob]?=some (.row a0d 3 ((dn c a j l).map ctr))→Same ob h h'→Wp (K (.ext 2,[x,y],h')) Q) :
  Wp ((a0B (a6q (.msl 3 ob 0 N) (.int .i64 a) cmp) [.int .i64 j,b] h).bind K) Q:=by
 generalize hV:dn c a j l=V at k
 refine Wp.loop (fun n ds g=>∃ b,∃ j:Nat,∃ l':List Ct,n=j∧ds=[.int .i64 j,b]∧l'.length=N∧j<N∧g[ob]?=some (.row a0d 3 (l'.map ctr))∧Same ob h g∧dn c a j l'=V)
  (fun r=>r.1 = .ext 2∧(∃ x y,r.2.1=[x,y])∧r.2.2[ob]?=some (.row a0d 3 (V.map ctr))∧Same ob h r.2.2) j ⟨b,j,l,rfl,rfl,hl,hj,ho,.refl _ _,hV⟩ ?_ ?_
 ·clear ho hl hj hV l j
  rintro n ds g ⟨b,j,l,rfl,rfl,hl,hj,ho,sm,hV⟩
  simp only [a6q,a0e,a0g,bs,c9H,a1m]
  cases n with
  | zero =>
   have hq:¬ (a:Int)<((0:Nat):Int):=by omega
   have hV:l=V:=hV
   subst hV
   simp only [hq,decide_false,a1b,a2l,c9I,if_false,reduceCtorEq,bs,a0F,a0f]
   exact .some (.inr ⟨by simp,rfl,⟨_,_,rfl⟩,ho,sm⟩)
  | succ j =>
   have g1:l[j+1]?=some l[j+1]:=c9W (by omega)
   have g0:l[j]?=some l[j]:=c9W (by omega)
   unfold dn at hV
   rw [g1,g0] at hV
   simp only at hV
   generalize l[j+1]=x at g1 hV
   generalize l[j]=y at g0 hV
   by_cases ha:a<j+1
   ·have ha':(a:Int)<((j+1:Nat):Int):=by omega
    have hw:IntKind.wrap .i64 (((j+1:Nat):Int) - 1)=(j:Int):=by
     rw [wrap_i64 (by omega) (by omega)];omega
    have i1:(0:Int)≤((j+1:Nat):Int)∧((j+1:Nat):Int)<(N:Int):=by omega
    have i0:(0:Int)≤(j:Int)∧(j:Int)<(N:Int):=by omega
    have m1:(l.map ctr)[j+1]?=some (ctr x):=by rw [c9U,g1];rfl
    have m0:(l.map ctr)[j]?=some (ctr y):=by rw [c9U,g0];rfl
    simp only [ha',decide_true,a1b,a2l,if_true,a3b,i1,i0,and_self,Nat.zero_add,c9Q,a0G,hw,bs,b6k ho m1,b6k ho m0,hc,a0n,a0F]
    by_cases hlt:c x y<0
    ·rw [if_pos ⟨ha,hlt⟩] at hV
     simp only [hlt,decide_true,a0f,if_true]
     refine a2a ho m1 (by rfl) (by simp [-bind_some, ctr]) (a1Z _) fun g2 p2 s2=>?_
     rw [show spl (ctr x) 0 (a0u (.agg (ctr y)))=ctr y from id rfl,a2P] at p2
     have m2:((l.set (j+1) y).map ctr)[j]?=some (ctr y):=by
      rw [c9U,d0h (by omega),g0];rfl
     try simp only [bs,i0,and_self,if_true,Nat.zero_add,c9Q]
     refine a2a p2 m2 (by rfl) (by simp [-bind_some, ctr]) (a1Z _) fun g3 p3 s3=>?_
     rw [show spl (ctr y) 0 (a0u (.agg (ctr x)))=ctr x from id rfl,a2P] at p3
     try simp only [bs]
     exact .some (.inl ⟨rfl,j,by omega,_,j,_,rfl,rfl,by simpa using hl,by omega,p3,(sm.trans s2).trans s3,hV⟩)
    ·rw [if_neg (fun hh=>hlt hh.2)] at hV
     subst hV
     simp only [hlt,decide_false,a0f,c9I,if_false]
     exact .some (.inr ⟨by simp,rfl,⟨_,_,rfl⟩,ho,sm⟩)
   ·rw [if_neg (fun hh=>ha hh.1)] at hV
    subst hV
    have ha':¬ (a:Int)<((j+1:Nat):Int):=by omega
    simp only [ha',decide_false,a1b,a2l,c9I,if_false,reduceCtorEq,bs,a0F,a0f]
    exact .some (.inr ⟨by simp,rfl,⟨_,_,rfl⟩,ho,sm⟩)
 ·rintro ⟨x,ds,g⟩ ⟨rfl,⟨u,v,rfl⟩,h1,h2⟩
  exact k u v g h1 h2
theorem c5a (c:Ct→Ct→Int) (cmp:D) (hc:∀ x y g,a1V R cmp [.agg (ctr x),.agg (ctr y)] g=some (.int .i64 (c x y),g)) (ob N a b:Nat) (hN:N≤1000000000) (hab:a<b∨(a=b∧b≤N)) (hb:b≤N)
  (l:List Ct) (hl:l.length=N) (h:Hp) (ho:h[ob]?=some (.row a0d 3 (l.map ctr))) :
  ∃ d h',R a5f [.msl 3 ob 0 N,.int .i64 a,.int .i64 b,cmp] h=some (d,h')∧h'[ob]?=some (.row a0d 3 ((isr c a (a+1) (b - (a+1)) l).map ctr))∧Same ob h h':=by
 suffices Wp (R a5f [.msl 3 ob 0 N,.int .i64 a,.int .i64 b,cmp] h) (fun p=>p.2[ob]?=some (.row a0d 3 ((isr c a (a+1) (b - (a+1)) l).map ctr))∧Same ob h p.2) by
  obtain ⟨⟨x,h'⟩,h1,h2⟩:=this
  exact ⟨x,h',h1,h2⟩
 rw [c0r]
 have hw:=wi_ a (by omega)
 simp only [b6O,bs,c9H,a0q,hw]
 generalize hV:isr c a (a+1) (b - (a+1)) l=V
 refine Wp.loop (fun n ds g=>∃ u v w,∃ i:Nat,∃ l':List Ct,ds=[.int .i64 i,u,v,w]∧n=b - i∧l'.length=N∧g[ob]?=some (.row a0d 3 (l'.map ctr))∧Same ob h g∧isr c a i (b - i) l'=V)
  (fun r=>r.1 = .ext 0∧r.2.2[ob]?=some (.row a0d 3 (V.map ctr))∧Same ob h r.2.2) (b - (a+1)) ⟨_,_,_,a+1,l,rfl,rfl,hl,ho,.refl _ _,hV⟩ ?_ ?_
 ·rintro n ds g ⟨u,v,w,i,l',rfl,rfl,hl',ho',sm,hV⟩
  simp only [a6p,a0e,a0g,bs,c9H,a0n]
  refine Wp.dif ?_ ?_
  ·intro h0
   have h0:i<b:=by
    have:(i:Int)<(b:Int):=by simpa using h0
    omega
   have hb1:b - i=(b - (i+1))+1:=by omega
   rw [hb1] at hV
   unfold isr at hV
   have hw2:=wi_ i (by omega)
   refine c4d c cmp hc ob N a hN l' hl' i (by omega) g ho' _ fun x y g2 p2 s2=>?_
   simp only [a0m,a0x,a0l,bs,a0e,a0q,hw2]
   exact .some (.inl ⟨rfl,b - (i+1),by omega,_,_,_,i+1,_,rfl,rfl,by rw [b1Y];exact hl',p2,sm.trans s2,hV⟩)
  ·intro h0
   have h0:¬ i<b:=by
    have:¬ (i:Int)<(b:Int):=by simpa using h0
    omega
   rw [show b - i=0 by omega] at hV
   have hV:l'=V:=hV
   subst hV
   exact .some (.inr ⟨by simp,rfl,ho',sm⟩)
 ·rintro ⟨x,ds,g⟩ ⟨rfl,h1,h2⟩
  simp only [a0m,a1F,bs]
  exact .some ⟨h1,h2⟩
theorem a4B {g:Hp} {o n:Nat} {rows:List Ct} {p:Ct} (ho:g[o]?=some (.row a0d 3 (rows.map ctr))) (hp:rows[n]?=some p):a0c tab g a0d (.ptr o n 0)=some (.agg (ctr p)):=by
 have hr:(rows.map ctr)[n]?=some (ctr p):=by rw [c9U,hp];rfl
 rw [a2K,a1r ho,hr]
 rfl
theorem b8v {g:Hp} {o N:Nat} {P X M Y Q:List Ct} (hN:N≤1000000000) (hlen:(P++X++M++Y++Q).length=N) (hxy:X.length=Y.length) (ho:g[o]?=some (.row a0d 3 ((P++X++M++Y++Q).map ctr))) (cmp:D) (a b k:Int) (ha:a=P.length) (hb:b=(P.length+X.length+M.length:Nat)) (hk:k=X.length) {β:Type} {f:D × Hp→Option β} {R1:β→Prop}
  (K:∀ g',g'[o]?=some (.row a0d 3 ((P++Y++M++X++Q).map ctr))→Same o g g'→Wp (f (a0i [],g')) R1):Wp ((R a7W [.msl 3 o 0 N,.int .i64 a,.int .i64 b,.int .i64 k,cmp] g).bind f) R1:=by
 subst ha hb hk
 rw [c3u]
 simp only [b9K,bs,c9H]
 simp only [c9M] at hlen
 refine Wp.loop (fun kk ds g'=>∃ x,∃ i:Nat,ds=[.int .i64 i,x]∧kk+i=X.length∧Same o g g'∧g'[o]?=some (.row a0d 3 ((P++Y.take i++X.drop i++M++X.take i++Y.drop i++Q).map ctr)))
  (fun r=>r.1 = .ext 0∧(∃ x y,r.2.1=[x,y])∧Same o g r.2.2∧r.2.2[o]?=some (.row a0d 3 ((P++Y++M++X++Q).map ctr))) X.length ⟨_,0,rfl,rfl,⟨rfl,fun _ _=>rfl⟩,by simpa using ho⟩ ?_ ?_
 ·rintro kk ds g' ⟨x1,i,rfl,hk,sm,ho'⟩
  simp only [a9A,a0e,a0g,bs,c9H,a0n]
  refine Wp.dif ?_ ?_
  ·intro h0
   have h0:i<X.length:=dl_ h0
   obtain ⟨x,hx⟩:=gx_ h0
   obtain ⟨y,hy⟩:∃ y,Y[i]?=some y:=⟨_,c9W (by omega)⟩
   have hdx:X.drop i=x::X.drop (i+1):=by
    obtain ⟨hn,hh⟩:=c9X.1 hx
    rw [List.drop_eq_getElem_cons hn,hh]
   have hdy:Y.drop i=y::Y.drop (i+1):=by
    obtain ⟨hn,hh⟩:=c9X.1 hy
    rw [List.drop_eq_getElem_cons hn,hh]
   have hw:=wi_ i (by omega)
   have wa:IntKind.wrap .i64 ((P.length:Int)+i)=((P.length+i:Nat):Int):=by
    rw [wrap_i64 (by omega) (by omega)];omega
   have wb:IntKind.wrap .i64 (((P.length+X.length+M.length:Nat):Int)+i)=((P.length+X.length+M.length+i:Nat):Int):=by
    rw [wrap_i64 (by omega) (by omega)];omega
   have e1:P++Y.take i++X.drop i++M++X.take i++Y.drop i++Q=(P++Y.take i)++x::(X.drop (i+1)++M++X.take i++y::(Y.drop (i+1)++Q)):=by rw [hdx,hdy];simp [-bind_some]
   have e2:(P++Y.take i)++x::(X.drop (i+1)++M++X.take i++y::(Y.drop (i+1)++Q))=(P++Y.take i++x::(X.drop (i+1)++M++X.take i))++y::(Y.drop (i+1)++Q):=by simp
   have e3:(P++Y.take i)++y::(X.drop (i+1)++M++X.take i++y::(Y.drop (i+1)++Q))=(P++Y.take i++y::(X.drop (i+1)++M++X.take i))++y::(Y.drop (i+1)++Q):=by simp
   have e4:(P++Y.take i++y::(X.drop (i+1)++M++X.take i))++x::(Y.drop (i+1)++Q)=P++Y.take (i+1)++X.drop (i+1)++M++X.take (i+1)++Y.drop (i+1)++Q:=by
    rw [c9T,c9T,hx,hy];simp [-bind_some]
   have n1:(P++Y.take i).length=P.length+i:=by simp;omega
   have n2:∀ z,(P++Y.take i++z::(X.drop (i+1)++M++X.take i)).length=P.length+X.length+M.length+i:=fun z=>by simp;omega
   rw [e1] at ho'
   have la:=a4B ho' (a0I _ _ x _ n1)
   have lb:=a4B ho' (by rw [e2];exact a0I _ _ y _ (n2 x))
   have ia:a0a tab a0h (.msl 3 o 0 N) (.int .i64 ((P.length+i:Nat):Int))=some (.ptr o (P.length+i) 0):=by rw [a3b,if_pos (by omega),c9Q,Nat.zero_add]
   have ib:a0a tab a0h (.msl 3 o 0 N) (.int .i64 ((P.length+X.length+M.length+i:Nat):Int))=some (.ptr o (P.length+X.length+M.length+i) 0):=by rw [a3b,if_pos (by omega),c9Q,Nat.zero_add]
   simp only [a0q,wa,wb,ia,ib,la,lb,bs,c9H]
   have ra:(((P++Y.take i)++x::(X.drop (i+1)++M++X.take i++y::(Y.drop (i+1)++Q))).map ctr)[P.length+i]?=some (ctr x):=by rw [c9U,a0I _ _ x _ n1];rfl
   refine a2a (off:=0) (row:=ctr x) (v := .agg (ctr y)) ho' ra (by rfl) (by exact Nat.le_refl _) (a1Z _) fun g1 p1 w1=>?_
   have p1:g1[o]?=some (.row a0d 3 (((P++Y.take i++y::(X.drop (i+1)++M++X.take i))++y::(Y.drop (i+1)++Q)).map ctr)):=by
    rw [p1,show spl (ctr x) 0 (a0u (.agg (ctr y)))=ctr y from rfl,← List.map_set,a2h _ _ x y _ n1,e3]
   try simp only [bs]
   have rb:(((P++Y.take i++y::(X.drop (i+1)++M++X.take i))++y::(Y.drop (i+1)++Q)).map ctr)[P.length+X.length+M.length+i]?=some (ctr y):=by rw [c9U,a0I _ _ y _ (n2 y)];rfl
   refine a2a (off:=0) (row:=ctr y) (v := .agg (ctr x)) p1 rb (by rfl) (by exact Nat.le_refl _) (a1Z _) fun g2 p2 w2=>?_
   have p2:g2[o]?=some (.row a0d 3 ((P++Y.take (i+1)++X.drop (i+1)++M++X.take (i+1)++Y.drop (i+1)++Q).map ctr)):=by
    rw [p2,show spl (ctr y) 0 (a0u (.agg (ctr x)))=ctr x from rfl,← List.map_set,a2h _ _ y x _ (n2 y),e4]
   simp only [bs,hw]
   exact .some (.inl ⟨rfl,kk - 1,by omega,_,i+1,rfl,by omega,(sm.trans w1).trans w2,p2⟩)
  ·intro h0
   have h0:i=X.length:=by
    have:¬ (i:Int)<X.length:=by simpa using h0
    omega
   subst h0
   refine .some (.inr ⟨by simp,rfl,⟨_,_,rfl⟩,sm,?_⟩)
   rw [ho',hxy,d0f,List.drop_length,← hxy,d0f,List.drop_length]
   simp [-bind_some]
 ·rintro ⟨ex,ds,g'⟩ ⟨rfl,⟨x,y,rfl⟩,sm,p⟩
  simp only [a0m,a1F,bs]
  exact K g' p sm
theorem c5t {g:Hp} {o N:Nat} {P U V Q:List Ct} (hN:N≤1000000000) (hlen:(P++U++V++Q).length=N) (hU:0<U.length) (hV:0<V.length) (ho:g[o]?=some (.row a0d 3 ((P++U++V++Q).map ctr))) (cmp:D) (a m b:Int) (ha:a=P.length) (hm:m=(P.length+U.length:Nat)) (hb:b=(P.length+U.length+V.length:Nat)) {β:Type} {f:D × Hp→Option β} {R1:β→Prop}
  (K:∀ g',g'[o]?=some (.row a0d 3 ((P++V++U++Q).map ctr))→Same o g g'→Wp (f (a0i [],g')) R1):Wp ((R b2z [.msl 3 o 0 N,.int .i64 a,.int .i64 m,.int .i64 b,cmp] g).bind f) R1:=by
 obtain ⟨mm,hmm⟩:∃ mm:Nat,mm=P.length+U.length:=⟨_,rfl⟩
 rw [← hmm] at hm
 subst ha hm hb
 have hl:=hlen
 simp only [c9M] at hl
 have w1:IntKind.wrap .i64 ((mm:Int) - (P.length:Int))=(U.length:Int):=by rw [wrap_i64 (by omega) (by omega)];omega
 have w2:IntKind.wrap .i64 (((P.length+U.length+V.length:Nat):Int) - (mm:Int))=(V.length:Int):=by rw [wrap_i64 (by omega) (by omega)];omega
 rw [c3t]
 simp only [b9J,bs,c9H,a0G,w1,w2]
 refine Wp.loop (fun kk ds g'=>∃ x y,∃ P' U' V' Q':List Ct,ds=[.int .i64 U'.length,.int .i64 V'.length,x,y]∧kk=U'.length+V'.length∧0<U'.length∧0<V'.length∧P'.length+U'.length=mm∧P'++V'++U'++Q'=P++V++U++Q∧(P'++U'++V'++Q').length=N∧Same o g g'∧g'[o]?=some (.row a0d 3 ((P'++U'++V'++Q').map ctr)))
  (fun r=>r.1 = .ext 0∧∃ x y,∃ P' U' V' Q':List Ct,r.2.1=[.int .i64 U'.length,.int .i64 V'.length,x,y]∧U'.length=V'.length∧P'.length+U'.length=mm∧P'++V'++U'++Q'=P++V++U++Q∧(P'++U'++V'++Q').length=N∧Same o g r.2.2∧r.2.2[o]?=some (.row a0d 3 ((P'++U'++V'++Q').map ctr)))
  (U.length+V.length) ⟨_,_,P,U,V,Q,rfl,rfl,hU,hV,by omega,rfl,hlen,⟨rfl,fun _ _=>rfl⟩,ho⟩ ?_ ?_
 ·rintro kk ds g' ⟨x,y,P',U',V',Q',rfl,hk,h1,h2,h3,h4,h5,sm,ho'⟩
  have hl':=h5
  simp only [c9M] at hl'
  simp only [a9z,a0e,a0g,bs,c9H,a2u]
  refine Wp.dif ?_ ?_
  ·intro h0
   have h0:U'.length≠V'.length:=by
    have:¬ (U'.length:Int)=V'.length:=by simpa using h0
    omega
   simp only [a1m,bs]
   have wi:IntKind.wrap .i64 ((mm:Int) - (U'.length:Int))=(P'.length:Int):=by rw [wrap_i64 (by omega) (by omega)];omega
   by_cases hgt:V'.length<U'.length
   ·have hd:decide ((U'.length:Int)>(V'.length:Int))=true:=decide_eq_true (by omega)
    obtain ⟨X,M,hXM,hXl⟩:∃ X M,U'=X++M∧X.length=V'.length:=⟨U'.take V'.length,U'.drop V'.length,(List.take_append_drop _ _).symm,by simp;omega⟩
    subst hXM
    simp only [c9M] at *
    have wd:IntKind.wrap .i64 (((X.length+M.length:Nat):Int) - (V'.length:Int))=(M.length:Int):=by rw [wrap_i64 (by omega) (by omega)];omega
    simp only [hd,a0f,if_true,a0G,wi,wd,bs,c9H]
    refine b8v (P:=P') (X:=X) (M:=M) (Y:=V') (Q:=Q') hN (by simp only [c9M];omega) hXl (by simpa using ho') cmp _ _ _ rfl (by omega) (by omega) fun g1 p1 s1'=>?_
    simp only [bs,a0x,a0e,a0g]
    rw [← hXl]
    refine .some (.inl ⟨rfl,M.length+X.length,by omega,_,_,P'++V',M,X,Q',rfl,rfl,by omega,by omega,by simp only [c9M];omega,by rw [← h4];simp [-bind_some],by simp only [c9M];omega,sm.trans s1',by rw [p1]⟩)
   ·have hd:decide ((U'.length:Int)>(V'.length:Int))=false:=decide_eq_false (by omega)
    obtain ⟨M,Y,hMY,hYl⟩:∃ M Y,V'=M++Y∧Y.length=U'.length:=⟨V'.take (V'.length - U'.length),V'.drop (V'.length - U'.length),(List.take_append_drop _ _).symm,by simp;omega⟩
    subst hMY
    simp only [c9M] at *
    have we:IntKind.wrap .i64 ((mm:Int)+((M.length+Y.length:Nat):Int))=((mm+(M.length+Y.length):Nat):Int):=by rw [wrap_i64 (by omega) (by omega)];omega
    have wf':IntKind.wrap .i64 (((mm+(M.length+Y.length):Nat):Int) - (U'.length:Int))=((P'.length+U'.length+M.length:Nat):Int):=by rw [wrap_i64 (by omega) (by omega)];omega
    have wd:IntKind.wrap .i64 (((M.length+Y.length:Nat):Int) - (U'.length:Int))=(M.length:Int):=by rw [wrap_i64 (by omega) (by omega)];omega
    simp only [hd,a0f,c9I,if_false,a0G,a0q,wi,we,wf',wd,bs,c9H]
    refine b8v (P:=P') (X:=U') (M:=M) (Y:=Y) (Q:=Q') hN (by simp only [c9M];omega) hYl.symm (by simpa using ho') cmp _ _ _ rfl rfl rfl fun g1 p1 s1'=>?_
    simp only [bs,a0x,a0e,a0g]
    rw [← hYl]
    refine .some (.inl ⟨rfl,Y.length+M.length,by omega,_,_,P',Y,M,U'++Q',rfl,rfl,by omega,by omega,by omega,by rw [← h4];simp [-bind_some],by simp only [c9M];omega,sm.trans s1',by rw [p1];simp [-bind_some]⟩)
  ·intro h0
   have h0:U'.length=V'.length:=by
    have:(U'.length:Int)=V'.length:=by simpa using h0
    omega
   exact .some (.inr ⟨by simp,rfl,_,_,P',U',V',Q',rfl,h0,h3,h4,h5,sm,ho'⟩)
 ·rintro ⟨ex,ds,g'⟩ ⟨rfl,x,y,P',U',V',Q',rfl,h0,h3,h4,h5,sm,ho'⟩
  have hl':=h5
  simp only [c9M] at hl'
  have wi:IntKind.wrap .i64 ((mm:Int) - (U'.length:Int))=(P'.length:Int):=by rw [wrap_i64 (by omega) (by omega)];omega
  simp only [a0m,a0l,a0e,a0g,bs,c9H,a0G,wi]
  refine b8v (P:=P') (X:=U') (M:=[]) (Y:=V') (Q:=Q') hN (by simp only [c9M,c9Z];omega) h0 (by simpa using ho') cmp _ _ _ rfl (by simp only [c9Z];omega) rfl fun g1 p1 s1'=>?_
  simp only [bs]
  refine K g1 ?_ (sm.trans s1')
  rw [p1,← h4]
  simp [-bind_some]
theorem b5y {g:Hp} {o:Nat} {A B:List Ct} {x y:Ct} {n:Nat} (hn:A.length=n) (ho:g[o]?=some (.row a0d 3 ((A++x::y::B).map ctr))) {β:Type} {f:Hp→Option β} {Q:β→Prop}
  (K:∀ g',g'[o]?=some (.row a0d 3 ((A++y::x::B).map ctr))→Same o g g'→Wp (f g') Q):Wp ((a0s tab g a0d (.ptr o n 0) (.agg (ctr y))).bind fun g1=>(a0s tab g1 a0d (.ptr o (n+1) 0) (.agg (ctr x))).bind f) Q:=by
 have ra:((A++x::y::B).map ctr)[n]?=some (ctr x):=by rw [c9U,a0I _ _ x _ hn];rfl
 refine a2a (off:=0) (row:=ctr x) (v := .agg (ctr y)) ho ra (by rfl) (by exact Nat.le_refl _) (a1Z _) fun g1 p1 w1=>?_
 have e1:A++y::y::B=(A++[y])++y::B:=by simp
 have n1:(A++[y]).length=n+1:=by simp [-bind_some, hn]
 have p1:g1[o]?=some (.row a0d 3 (((A++[y])++y::B).map ctr)):=by
  rw [p1,show spl (ctr x) 0 (a0u (.agg (ctr y)))=ctr y from rfl,← List.map_set,a2h _ _ x y _ hn,e1]
 have rb:(((A++[y])++y::B).map ctr)[n+1]?=some (ctr y):=by rw [c9U,a0I _ _ y _ n1];rfl
 refine a2a (off:=0) (row:=ctr y) (v := .agg (ctr x)) p1 rb (by rfl) (by exact Nat.le_refl _) (a1Z _) fun g2 p2 w2=>?_
 refine K g2 ?_ (w1.trans w2)
 rw [p2,show spl (ctr y) 0 (a0u (.agg (ctr x)))=ctr x from rfl,← List.map_set,a2h _ _ y x _ n1]
 simp [-bind_some]
theorem b3K {g:Hp} {o:Nat} {A B:List Ct} {x y:Ct} {n:Nat} (hn:A.length=n) (ho:g[o]?=some (.row a0d 3 ((A++x::y::B).map ctr))) {β:Type} {f:Hp→Option β} {Q:β→Prop}
  (K:∀ g',g'[o]?=some (.row a0d 3 ((A++y::x::B).map ctr))→Same o g g'→Wp (f g') Q):Wp ((a0s tab g a0d (.ptr o (n+1) 0) (.agg (ctr x))).bind fun g1=>(a0s tab g1 a0d (.ptr o n 0) (.agg (ctr y))).bind f) Q:=by
 have e1:A++x::y::B=(A++[x])++y::B:=by simp
 have n1:(A++[x]).length=n+1:=by simp [-bind_some, hn]
 rw [e1] at ho
 have rb:(((A++[x])++y::B).map ctr)[n+1]?=some (ctr y):=by rw [c9U,a0I _ _ y _ n1];rfl
 refine a2a (off:=0) (row:=ctr y) (v := .agg (ctr x)) ho rb (by rfl) (by exact Nat.le_refl _) (a1Z _) fun g1 p1 w1=>?_
 have p1:g1[o]?=some (.row a0d 3 ((A++x::x::B).map ctr)):=by
  rw [p1,show spl (ctr y) 0 (a0u (.agg (ctr x)))=ctr x from rfl,← List.map_set,a2h _ _ y x _ n1]
  simp [-bind_some]
 have ra:((A++x::x::B).map ctr)[n]?=some (ctr x):=by rw [c9U,a0I _ _ x _ hn];rfl
 refine a2a (off:=0) (row:=ctr x) (v := .agg (ctr y)) p1 ra (by rfl) (by exact Nat.le_refl _) (a1Z _) fun g2 p2 w2=>?_
 refine K g2 ?_ (w1.trans w2)
 rw [p2,show spl (ctr x) 0 (a0u (.agg (ctr y)))=ctr y from rfl,← List.map_set,a2h _ _ x y _ hn]
theorem a3t {o N n:Nat} (h:n<N):a0a tab a0h (.msl 3 o 0 N) (.int .i64 (n:Int))=some (.ptr o n 0):=by rw [a3b,if_pos (by omega),c9Q,Nat.zero_add]
theorem c9z {g:Hp} {o N:Nat} {P A Q:List Ct} {x:Ct} (hN:N≤1000000000) (hlen:(P++x::A++Q).length=N) (ho:g[o]?=some (.row a0d 3 ((P++x::A++Q).map ctr))) (r14:Out) (hr:nth 0 r14.2.1 = .int .i64 ((P.length+A.length+1:Nat):Int)) (a:Int) (ha:a=P.length) (x1:D) {β:Type} {f:Out→Option β} {R1:β→Prop}
  (K:∀ g' b1 b2,g'[o]?=some (.row a0d 3 ((P++A++x::Q).map ctr))→Same o g g'→Wp (f (.ext 2,[b1,b2],g')) R1):Wp ((a0B (a6u (.msl 3 o 0 N) r14) [.int .i64 a,x1] g).bind f) R1:=by
 subst ha
 simp only [c9M,c9Y] at hlen
 refine Wp.loop (fun kk ds g'=>∃ y,∃ i:Nat,ds=[.int .i64 ((P.length+i:Nat):Int),y]∧kk+i=A.length∧Same o g g'∧g'[o]?=some (.row a0d 3 ((P++A.take i++x::(A.drop i++Q)).map ctr)))
  (fun r=>r.1 = .ext 2∧(∃ b1 b2,r.2.1=[b1,b2])∧Same o g r.2.2∧r.2.2[o]?=some (.row a0d 3 ((P++A++x::Q).map ctr))) A.length ⟨_,0,rfl,rfl,⟨rfl,fun _ _=>rfl⟩,by simpa using ho⟩ ?_ ?_
 ·rintro kk ds g' ⟨y1,i,rfl,hk,sm,ho'⟩
  have w0:IntKind.wrap .i64 (((P.length+A.length+1:Nat):Int) - 1)=((P.length+A.length:Nat):Int):=by rw [wrap_i64 (by omega) (by omega)];omega
  simp only [a6u,a0e,a0g,bs,c9H,hr,a0G,w0,a0n]
  refine Wp.dif ?_ ?_
  ·intro h0
   have h0:i<A.length:=by
    have:((P.length+i:Nat):Int)<((P.length+A.length:Nat):Int):=by simpa using h0
    omega
   obtain ⟨y,hy⟩:=gx_ h0
   have hdy:A.drop i=y::A.drop (i+1):=by
    obtain ⟨hn,hh⟩:=c9X.1 hy
    rw [List.drop_eq_getElem_cons hn,hh]
   have hw:IntKind.wrap .i64 (((P.length+i:Nat):Int)+1)=((P.length+i+1:Nat):Int):=by
    rw [wrap_i64 (by omega) (by omega)];omega
   have e1:P++A.take i++x::(A.drop i++Q)=(P++A.take i)++x::y::(A.drop (i+1)++Q):=by rw [hdy];simp [-bind_some]
   have e2:(P++A.take i++[x])++y::(A.drop (i+1)++Q)=(P++A.take i)++x::y::(A.drop (i+1)++Q):=by simp
   have n1:(P++A.take i).length=P.length+i:=by simp;omega
   have n2:(P++A.take i++[x]).length=P.length+i+1:=by simp;omega
   rw [e1] at ho'
   have la:=a4B ho' (a0I _ _ x _ n1)
   have lb:=a4B ho' (by rw [← e2];exact a0I _ _ y _ n2)
   have ia:=@a3t o N (P.length+i) (by omega)
   have ib:=@a3t o N (P.length+i+1) (by omega)
   simp only [a0q,hw,ia,ib,la,lb,bs,c9H]
   refine b5y n1 ho' fun g2 p2 w2=>?_
   try simp only [bs]
   refine .some (.inl ⟨rfl,kk - 1,by omega,_,i+1,rfl,by omega,sm.trans w2,?_⟩)
   rw [p2,c9T,hy]
   simp [-bind_some]
  ·intro h0
   have h0:i=A.length:=by
    have:¬ ((P.length+i:Nat):Int)<((P.length+A.length:Nat):Int):=by simpa using h0
    omega
   subst h0
   rw [d0f,List.drop_length] at ho'
   exact .some (.inr ⟨by simp,rfl,⟨_,_,rfl⟩,sm,by simpa using ho'⟩)
 ·rintro ⟨ex,ds,g'⟩ ⟨rfl,⟨b1,b2,rfl⟩,sm,p⟩
  exact K g' b1 b2 p sm
theorem c9v {g:Hp} {o N:Nat} {P A Q:List Ct} {x:Ct} (hN:N≤1000000000) (hlen:(P++A++x::Q).length=N) (ho:g[o]?=some (.row a0d 3 ((P++A++x::Q).map ctr))) (r9:Out) (hr:nth 0 r9.2.1 = .int .i64 (P.length:Int)) (m:Int) (hm:m=(P.length+A.length:Nat)) (x1:D) {β:Type} {f:Out→Option β} {R1:β→Prop}
  (K:∀ g' b1 b2,g'[o]?=some (.row a0d 3 ((P++x::A++Q).map ctr))→Same o g g'→Wp (f (.ext 6,[b1,b2],g')) R1):Wp ((a0B (a6s (.msl 3 o 0 N) r9) [.int .i64 m,x1] g).bind f) R1:=by
 subst hm
 simp only [c9M,c9Y] at hlen
 refine Wp.loop (fun kk ds g'=>∃ y,ds=[.int .i64 ((P.length+kk:Nat):Int),y]∧kk≤A.length∧Same o g g'∧g'[o]?=some (.row a0d 3 ((P++A.take kk++x::(A.drop kk++Q)).map ctr)))
  (fun r=>r.1 = .ext 6∧(∃ b1 b2,r.2.1=[b1,b2])∧Same o g r.2.2∧r.2.2[o]?=some (.row a0d 3 ((P++x::A++Q).map ctr))) A.length ⟨_,rfl,Nat.le_refl _,⟨rfl,fun _ _=>rfl⟩,by simpa using ho⟩ ?_ ?_
 ·rintro kk ds g' ⟨y1,rfl,hk,sm,ho'⟩
  simp only [a6s,a0e,a0g,bs,c9H,hr,a1m]
  refine Wp.dif ?_ ?_
  ·intro h0
   have h0:0<kk:=by
    have:((P.length+kk:Nat):Int)>(P.length:Int):=by simpa using h0
    omega
   obtain ⟨i,rfl⟩:∃ i,kk=i+1:=⟨kk - 1,by omega⟩
   obtain ⟨y,hy⟩:∃ y,A[i]?=some y:=⟨_,c9W (by omega)⟩
   have hdy:A.drop i=y::A.drop (i+1):=by
    obtain ⟨hn,hh⟩:=c9X.1 hy
    rw [List.drop_eq_getElem_cons hn,hh]
   have hw:IntKind.wrap .i64 (((P.length+(i+1):Nat):Int) - 1)=((P.length+i:Nat):Int):=by
    rw [wrap_i64 (by omega) (by omega)];omega
   have e1:P++A.take (i+1)++x::(A.drop (i+1)++Q)=(P++A.take i)++y::x::(A.drop (i+1)++Q):=by rw [c9T,hy];simp [-bind_some]
   have e2:(P++A.take i++[y])++x::(A.drop (i+1)++Q)=(P++A.take i)++y::x::(A.drop (i+1)++Q):=by simp
   have n1:(P++A.take i).length=P.length+i:=by simp;omega
   have n2:(P++A.take i++[y]).length=P.length+i+1:=by simp;omega
   rw [e1] at ho'
   have la:=a4B ho' (a0I _ _ y _ n1)
   have lb:=a4B ho' (by rw [← e2];exact a0I _ _ x _ n2)
   have ia:=@a3t o N (P.length+i) (by omega)
   have ib:=@a3t o N (P.length+(i+1)) (by omega)
   rw [show P.length+(i+1)=P.length+i+1 from rfl] at hw ib ⊢
   simp only [a0G,hw,ia,ib,la,lb,bs,c9H]
   refine b3K n1 ho' fun g2 p2 w2=>?_
   try simp only [bs]
   refine .some (.inl ⟨rfl,i,by omega,_,rfl,by omega,sm.trans w2,?_⟩)
   rw [p2,hdy]
   simp [-bind_some]
  ·intro h0
   have h0:kk=0:=by
    have:¬ ((P.length+kk:Nat):Int)>(P.length:Int):=by simpa using h0
    omega
   subst h0
   exact .some (.inr ⟨by simp,rfl,⟨_,_,rfl⟩,sm,by simpa using ho'⟩)
 ·rintro ⟨ex,ds,g'⟩ ⟨rfl,⟨b1,b2,rfl⟩,sm,p⟩
  exact K g' b1 b2 p sm
theorem c9x {g:Hp} {o N:Nat} {L:List Ct} (hN:N≤1000000000) (hlen:L.length=N) (ho:g[o]?=some (.row a0d 3 (L.map ctr))) (cmp:D) (a m b:Nat) (q:Nat→Prop) (ha:a<N) (hmb:m≤b) (hbN:b≤N) (x:Ct) (hx:L[a]?=some x)
  (hc:∀ t y,m≤t→t<b→L[t]?=some y→∃ v,a1V R cmp [.agg (ctr y),.agg (ctr x)] g=some (.int .i64 v,g)∧(v<0↔q t)) (x1 x2 x3:D) {β:Type} {f:Out→Option β} {Q:β→Prop}
  (K:∀ (c:Nat) b1 b2 b3,m≤c→c≤b→(c=m∨q (c - 1))→(c=b∨¬ q c)→Wp (f (.ext 0,[.int .i64 (c:Int),.int .i64 (c:Int),b1,b2,b3],g)) Q):Wp ((a0B (a6t (.msl 3 o 0 N) (.int .i64 (a:Int)) cmp) [.int .i64 (m:Int),.int .i64 (b:Int),x1,x2,x3] g).bind f) Q:=by
 refine Wp.loop (fun kk ds g'=>g'=g∧∃ y1 y2 y3,∃ i j:Nat,ds=[.int .i64 (i:Int),.int .i64 (j:Int),y1,y2,y3]∧kk=j - i∧m≤i∧i≤j∧j≤b∧(i=m∨q (i - 1))∧(j=b∨¬ q j))
  (fun r=>r.1 = .ext 0∧r.2.2=g∧∃ b1 b2 b3,∃ c:Nat,r.2.1=[.int .i64 (c:Int),.int .i64 (c:Int),b1,b2,b3]∧m≤c∧c≤b∧(c=m∨q (c - 1))∧(c=b∨¬ q c)) (b - m) ⟨rfl,_,_,_,m,b,rfl,rfl,Nat.le_refl _,hmb,Nat.le_refl _,.inl rfl,.inl rfl⟩ ?_ ?_
 ·rintro kk ds g' ⟨rfl,y1,y2,y3,i,j,rfl,hk,h1,h2,h3,h4,h5⟩
  simp only [a6t,a0e,a0g,bs,c9H,a0n]
  refine Wp.dif ?_ ?_
  ·intro h0
   have h0:i<j:=by
    have:(i:Int)<(j:Int):=by simpa using h0
    omega
   obtain ⟨u1,u2,u3,u4⟩:=@a3X i j (by omega) (by omega)
   obtain ⟨y,hy⟩:∃ y,L[(i+j) / 2]?=some y:=⟨_,c9W (by omega)⟩
   obtain ⟨v,hv,hvc⟩:=hc ((i+j) / 2) y (by omega) (by omega) hy
   have ia:=@a3t o N ((i+j) / 2) (by omega)
   have ib:=@a3t o N a ha
   have la:=a4B ho hy
   have lb:=a4B ho hx
   have w1:IntKind.wrap .i64 ((((i+j) / 2:Nat):Int)+1)=(((i+j) / 2+1:Nat):Int):=by rw [wrap_i64 (by omega) (by omega)];omega
   simp only [a0q,u1,a2I,u2,a2k,show ¬ (1:Int)<0 by omega,if_false,u3,a2H,u4,ia,ib,la,lb,hv,bs,a0n,c9H]
   by_cases hlt:v<0
   ·have:=hvc.1 hlt
    simp only [hlt,decide_true,a0f,if_true,w1,bs,a0x,a0e,a0g]
    exact .some (.inl ⟨rfl,j - ((i+j) / 2+1),by omega,rfl,_,_,_,_,_,rfl,rfl,by omega,by omega,by omega,.inr (by simpa using this),h5⟩)
   ·have:=fun h=>hlt (hvc.2 h)
    simp only [hlt,decide_false,a0f,c9I,if_false,bs,a0x,a0e,a0g]
    exact .some (.inl ⟨rfl,(i+j) / 2 - i,by omega,rfl,_,_,_,_,_,rfl,rfl,by omega,by omega,by omega,h4,.inr this⟩)
  ·intro h0
   have h0:¬ i<j:=by
    have:¬ (i:Int)<(j:Int):=by simpa using h0
    omega
   obtain rfl:j=i:=by omega
   exact .some (.inr ⟨by simp,rfl,rfl,_,_,_,j,rfl,h1,h3,h4,h5⟩)
 ·rintro ⟨ex,ds,g'⟩ ⟨rfl,q2,b1,b2,b3,c,rfl,k1,k2,k3,k4⟩
  simp only at q2
  subst q2
  exact K c b1 b2 b3 k1 k2 k3 k4
theorem c9t {g:Hp} {o N:Nat} {L:List Ct} (hN:N≤1000000000) (hlen:L.length=N) (ho:g[o]?=some (.row a0d 3 (L.map ctr))) (cmp:D) (m a b:Nat) (q:Nat→Prop) (hmN:m<N) (hmb:a≤b) (hbN:b≤N) (x:Ct) (hx:L[m]?=some x)
  (hc:∀ t y,a≤t→t<b→L[t]?=some y→∃ v,a1V R cmp [.agg (ctr x),.agg (ctr y)] g=some (.int .i64 v,g)∧(¬ v<0↔q t)) (x1 x2 x3:D) {β:Type} {f:Out→Option β} {Q:β→Prop}
  (K:∀ (c:Nat) b1 b2 b3,a≤c→c≤b→(c=a∨q (c - 1))→(c=b∨¬ q c)→Wp (f (.ext 4,[.int .i64 (c:Int),.int .i64 (c:Int),b1,b2,b3],g)) Q):Wp ((a0B (a6r (.msl 3 o 0 N) (.int .i64 (m:Int)) cmp) [.int .i64 (a:Int),.int .i64 (b:Int),x1,x2,x3] g).bind f) Q:=by
 refine Wp.loop (fun kk ds g'=>g'=g∧∃ y1 y2 y3,∃ i j:Nat,ds=[.int .i64 (i:Int),.int .i64 (j:Int),y1,y2,y3]∧kk=j - i∧a≤i∧i≤j∧j≤b∧(i=a∨q (i - 1))∧(j=b∨¬ q j))
  (fun r=>r.1 = .ext 4∧r.2.2=g∧∃ b1 b2 b3,∃ c:Nat,r.2.1=[.int .i64 (c:Int),.int .i64 (c:Int),b1,b2,b3]∧a≤c∧c≤b∧(c=a∨q (c - 1))∧(c=b∨¬ q c)) (b - a) ⟨rfl,_,_,_,a,b,rfl,rfl,Nat.le_refl _,hmb,Nat.le_refl _,.inl rfl,.inl rfl⟩ ?_ ?_
 ·rintro kk ds g' ⟨rfl,y1,y2,y3,i,j,rfl,hk,h1,h2,h3,h4,h5⟩
  simp only [a6r,a0e,a0g,bs,c9H,a0n]
  refine Wp.dif ?_ ?_
  ·intro h0
   have h0:i<j:=by
    have:(i:Int)<(j:Int):=by simpa using h0
    omega
   obtain ⟨u1,u2,u3,u4⟩:=@a3X i j (by omega) (by omega)
   obtain ⟨y,hy⟩:∃ y,L[(i+j) / 2]?=some y:=⟨_,c9W (by omega)⟩
   obtain ⟨v,hv,hvc⟩:=hc ((i+j) / 2) y (by omega) (by omega) hy
   have ia:=@a3t o N ((i+j) / 2) (by omega)
   have ib:=@a3t o N m hmN
   have la:=a4B ho hy
   have lb:=a4B ho hx
   have w1:IntKind.wrap .i64 ((((i+j) / 2:Nat):Int)+1)=(((i+j) / 2+1:Nat):Int):=by rw [wrap_i64 (by omega) (by omega)];omega
   simp only [a0q,u1,a2I,u2,a2k,show ¬ (1:Int)<0 by omega,if_false,u3,a2H,u4,ia,ib,la,lb,hv,bs,a0n,a2X,c9H]
   by_cases hlt:v<0
   ·have:=fun h=>(hvc.2 h) hlt
    simp only [hlt,decide_true,c9R,a0f,c9I,if_false,bs,a0x,a0e,a0g]
    exact .some (.inl ⟨rfl,(i+j) / 2 - i,by omega,rfl,_,_,_,_,_,rfl,rfl,by omega,by omega,by omega,h4,.inr this⟩)
   ·have:=hvc.1 hlt
    simp only [hlt,decide_false,c9S,a0f,if_true,w1,bs,a0x,a0e,a0g]
    exact .some (.inl ⟨rfl,j - ((i+j) / 2+1),by omega,rfl,_,_,_,_,_,rfl,rfl,by omega,by omega,by omega,.inr (by simpa using this),h5⟩)
  ·intro h0
   have h0:¬ i<j:=by
    have:¬ (i:Int)<(j:Int):=by simpa using h0
    omega
   obtain rfl:j=i:=by omega
   exact .some (.inr ⟨by simp,rfl,rfl,_,_,_,j,rfl,h1,h3,h4,h5⟩)
 ·rintro ⟨ex,ds,g'⟩ ⟨rfl,q2,b1,b2,b3,c,rfl,k1,k2,k3,k4⟩
  simp only at q2
  subst q2
  exact K c b1 b2 b3 k1 k2 k3 k4
theorem c9r {g:Hp} {o N:Nat} {L:List Ct} (hN:N≤1000000000) (hlen:L.length=N) (ho:g[o]?=some (.row a0d 3 (L.map ctr))) (cmp:D) (p a b:Nat) (q:Nat→Prop) (hmb:a≤b) (hbp:b≤p+1) (hbN:b≤N) (hpN:p<a+N)
  (hc:∀ t y z,a≤t→t<b→L[t]?=some y→L[p - t]?=some z→∃ v,a1V R cmp [.agg (ctr z),.agg (ctr y)] g=some (.int .i64 v,g)∧(¬ v<0↔q t)) (x1 x2 x3:D) {β:Type} {f:Out→Option β} {Q:β→Prop}
  (K:∀ (c:Nat) b1 b2 b3,a≤c→c≤b→(c=a∨q (c - 1))→(c=b∨¬ q c)→Wp (f (.ext 8,[.int .i64 (c:Int),.int .i64 (c:Int),b1,b2,b3],g)) Q):Wp ((a0B (a4F (.msl 3 o 0 N) cmp (.int .i64 (p:Int))) [.int .i64 (a:Int),.int .i64 (b:Int),x1,x2,x3] g).bind f) Q:=by
 refine Wp.loop (fun kk ds g'=>g'=g∧∃ y1 y2 y3,∃ i j:Nat,ds=[.int .i64 (i:Int),.int .i64 (j:Int),y1,y2,y3]∧kk=j - i∧a≤i∧i≤j∧j≤b∧(i=a∨q (i - 1))∧(j=b∨¬ q j))
  (fun r=>r.1 = .ext 8∧r.2.2=g∧∃ b1 b2 b3,∃ c:Nat,r.2.1=[.int .i64 (c:Int),.int .i64 (c:Int),b1,b2,b3]∧a≤c∧c≤b∧(c=a∨q (c - 1))∧(c=b∨¬ q c)) (b - a) ⟨rfl,_,_,_,a,b,rfl,rfl,Nat.le_refl _,hmb,Nat.le_refl _,.inl rfl,.inl rfl⟩ ?_ ?_
 ·rintro kk ds g' ⟨rfl,y1,y2,y3,i,j,rfl,hk,h1,h2,h3,h4,h5⟩
  simp only [a4F,a0e,a0g,bs,c9H,a0n]
  refine Wp.dif ?_ ?_
  ·intro h0
   have h0:i<j:=by
    have:(i:Int)<(j:Int):=by simpa using h0
    omega
   obtain ⟨u1,u2,u3,u4⟩:=@a3X i j (by omega) (by omega)
   obtain ⟨y,hy⟩:∃ y,L[(i+j) / 2]?=some y:=⟨_,c9W (by omega)⟩
   obtain ⟨z,hz⟩:∃ z,L[p - (i+j) / 2]?=some z:=⟨_,c9W (by omega)⟩
   obtain ⟨v,hv,hvc⟩:=hc ((i+j) / 2) y z (by omega) (by omega) hy hz
   have ia:=@a3t o N ((i+j) / 2) (by omega)
   have ib:=@a3t o N (p - (i+j) / 2) (by omega)
   have la:=a4B ho hy
   have lb:=a4B ho hz
   have wp':IntKind.wrap .i64 ((p:Int) - (((i+j) / 2:Nat):Int))=((p - (i+j) / 2:Nat):Int):=by rw [wrap_i64 (by omega) (by omega)];omega
   have w1:IntKind.wrap .i64 ((((i+j) / 2:Nat):Int)+1)=(((i+j) / 2+1:Nat):Int):=by rw [wrap_i64 (by omega) (by omega)];omega
   simp only [a0q,u1,a2I,u2,a2k,show ¬ (1:Int)<0 by omega,if_false,u3,a2H,u4,a0G,wp',ia,ib,la,lb,hv,bs,a0n,a2X,c9H]
   by_cases hlt:v<0
   ·have:=fun h=>(hvc.2 h) hlt
    simp only [hlt,decide_true,c9R,a0f,c9I,if_false,bs,a0x,a0e,a0g]
    exact .some (.inl ⟨rfl,(i+j) / 2 - i,by omega,rfl,_,_,_,_,_,rfl,rfl,by omega,by omega,by omega,h4,.inr this⟩)
   ·have:=hvc.1 hlt
    simp only [hlt,decide_false,c9S,a0f,if_true,w1,bs,a0x,a0e,a0g]
    exact .some (.inl ⟨rfl,j - ((i+j) / 2+1),by omega,rfl,_,_,_,_,_,rfl,rfl,by omega,by omega,by omega,.inr (by simpa using this),h5⟩)
  ·intro h0
   have h0:¬ i<j:=by
    have:¬ (i:Int)<(j:Int):=by simpa using h0
    omega
   obtain rfl:j=i:=by omega
   exact .some (.inr ⟨by simp,rfl,rfl,_,_,_,j,rfl,h1,h3,h4,h5⟩)
 ·rintro ⟨ex,ds,g'⟩ ⟨rfl,q2,b1,b2,b3,c,rfl,k1,k2,k3,k4⟩
  simp only at q2
  subst q2
  exact K c b1 b2 b3 k1 k2 k3 k4
def a6b (cmp:D) (c:Ct→Ct→Int):Prop:=∀ x y g,a1V R cmp [.agg (ctr x),.agg (ctr y)] g=some (.int .i64 (c x y),g)
theorem c1s {g:Hp} {o N:Nat} {P B Q:List Ct} {x:Ct} (hN:N≤1000000000) (hlen:(P++x::B++Q).length=N) (ho:g[o]?=some (.row a0d 3 ((P++x::B++Q).map ctr))) (cmp:D) (c:Ct→Ct→Int) (hcmp:a6b cmp c) (a m b:Int) (ha:a=(P.length:Nat)) (hm:m=(P.length+1:Nat)) (hb:b=(P.length+1+B.length:Nat)) {β:Type} {f:D × Hp→Option β} {R1:β→Prop}
  (K:∀ g' B1 B2,B=B1++B2→(B1=[]∨∃ y r,B1=r++[y]∧c y x<0)→(B2=[]∨∃ y r,B2=y::r∧¬ c y x<0)→g'[o]?=some (.row a0d 3 ((P++(B1++x::B2)++Q).map ctr))→Same o g g'→Wp (f (a0i [],g')) R1):Wp ((R a4p [.msl 3 o 0 N,.int .i64 a,.int .i64 m,.int .i64 b,cmp] g).bind f) R1:=by
 subst ha hm hb
 have hl:=hlen
 simp only [c9M,c9Y] at hl
 have w1:IntKind.wrap .i64 (((P.length+1:Nat):Int) - (P.length:Int))=1:=by rw [wrap_i64 (by omega) (by omega)];omega
 have gx:(P++x::B++Q)[P.length]?=some x:=by
  rw [show P++x::B++Q=P++x::(B++Q) by simp]
  exact a0I _ _ x _ rfl
 have gB:∀ t,(P++x::B++Q)[P.length+1+t]?=(B++Q)[t]?:=fun t=>by
  rw [show P++x::B++Q=(P++[x])++(B++Q) by simp,List.getElem?_append_right (by simp)]
  simp [-bind_some]
 rw [b7j]
 simp only [b4k,bs,c9H,a0G,w1,a0U,decide_true,a0f,if_true]
 refine c9x hN hlen ho cmp P.length (P.length+1) (P.length+1+B.length) (fun t=>∃ y,(P++x::B++Q)[t]?=some y∧c y x<0) (by omega) (by omega) (by omega) x gx (fun t y _ _ hy=>⟨c y x,hcmp y x g,fun h=>⟨y,hy,h⟩,fun ⟨y',h1,h2⟩=>by rw [hy] at h1;injection h1 with h1;rw [h1];exact h2⟩) _ _ _ fun k b1 b2 b3 k1 k2 k3 k4=>?_
 obtain ⟨t,rfl⟩:∃ t,k=P.length+1+t:=⟨k - (P.length+1),by omega⟩
 have htB:t≤B.length:=by omega
 simp only [a0m,a0l,bs,a0e,a0g,c9H]
 have eL:P++x::B++Q=P++x::B.take t++(B.drop t++Q):=by
  simp only [List.append_assoc,List.cons_append]
  rw [← List.append_assoc (B.take t),List.take_append_drop]
 have htl:(B.take t).length=t:=by simp;omega
 refine c9z (P:=P) (A:=B.take t) (Q:=B.drop t++Q) (x:=x) hN (by rw [← eL];exact hlen) (by rw [← eL];exact ho) _ (by rw [htl];show D.int _ _=_;congr 1;omega) _ rfl _ fun g1 c1 c2 p1 s1'=>?_
 simp only [a0m,a0l,bs]
 refine K g1 (B.take t) (B.drop t) (List.take_append_drop _ _).symm ?_ ?_ (by rw [p1];simp [-bind_some]) s1'
 ·rcases Nat.eq_zero_or_pos t with rfl | hpos
  ·exact .inl (by simp)
  ·right
   rcases k3 with k3 | ⟨y,hy,hlt⟩
   ·omega
   ·rw [show P.length+1+t - 1=P.length+1+(t - 1) by omega,gB,d0g (by omega)] at hy
    refine ⟨y,B.take (t - 1),?_,hlt⟩
    conv=>lhs;rw [show t=(t - 1)+1 by omega,c9T,hy]
    simp [-bind_some]
 ·rcases Nat.lt_or_ge t B.length with hlt | hge
  ·right
   obtain ⟨y,hy⟩:=gx_ hlt
   rcases k4 with k4 | k4
   ·omega
   ·refine ⟨y,B.drop (t+1),?_,fun h=>k4 ⟨y,by rw [gB,d0g hlt];exact hy,h⟩⟩
    obtain ⟨hn,hh⟩:=c9X.1 hy
    rw [List.drop_eq_getElem_cons hn,hh]
  ·exact .inl (List.drop_eq_nil_of_le hge)
theorem c1t {g:Hp} {o N:Nat} {P A Q:List Ct} {x:Ct} (hN:N≤1000000000) (hlen:(P++A++x::Q).length=N) (hA1:A.length≠1) (ho:g[o]?=some (.row a0d 3 ((P++A++x::Q).map ctr))) (cmp:D) (c:Ct→Ct→Int) (hcmp:a6b cmp c) (a m b:Int) (ha:a=(P.length:Nat)) (hm:m=(P.length+A.length:Nat)) (hb:b=(P.length+A.length+1:Nat)) {β:Type} {f:D × Hp→Option β} {R1:β→Prop}
  (K:∀ g' A1 A2,A=A1++A2→(A1=[]∨∃ y r,A1=r++[y]∧¬ c x y<0)→(A2=[]∨∃ y r,A2=y::r∧c x y<0)→g'[o]?=some (.row a0d 3 ((P++(A1++x::A2)++Q).map ctr))→Same o g g'→Wp (f (a0i [],g')) R1):Wp ((R a4p [.msl 3 o 0 N,.int .i64 a,.int .i64 m,.int .i64 b,cmp] g).bind f) R1:=by
 subst ha hm hb
 have hl:=hlen
 simp only [c9M,c9Y] at hl
 have w1:IntKind.wrap .i64 (((P.length+A.length:Nat):Int) - (P.length:Int))=A.length:=by rw [wrap_i64 (by omega) (by omega)];omega
 have w2:IntKind.wrap .i64 (((P.length+A.length+1:Nat):Int) - ((P.length+A.length:Nat):Int))=1:=by rw [wrap_i64 (by omega) (by omega)];omega
 have hd1:decide ((A.length:Int)=1)=false:=decide_eq_false (by omega)
 have gx:(P++A++x::Q)[P.length+A.length]?=some x:=a0I _ _ x _ (by simp)
 have gA:∀ t,t<A.length→(P++A++x::Q)[P.length+t]?=A[t]?:=fun t ht=>by
  rw [List.append_assoc,List.getElem?_append_right (by simp),d0g (by omega)]
  simp [-bind_some]
 rw [b7j]
 simp only [b4k,a3H,bs,c9H,a0G,w1,w2,a0U,hd1,decide_true,a0f,c9I,if_false,if_true]
 refine c9t hN hlen ho cmp (P.length+A.length) P.length (P.length+A.length) (fun t=>∃ y,(P++A++x::Q)[t]?=some y∧¬ c x y<0) (by omega) (by omega) (by omega) x gx (fun t y _ _ hy=>⟨c x y,hcmp x y g,fun h=>⟨y,hy,h⟩,fun ⟨y',h1,h2⟩=>by rw [hy] at h1;injection h1 with h1;rw [h1];exact h2⟩) _ _ _ fun k b1 b2 b3 k1 k2 k3 k4=>?_
 obtain ⟨t,rfl⟩:∃ t,k=P.length+t:=⟨k - P.length,by omega⟩
 have htA:t≤A.length:=by omega
 simp only [a0m,a0l,bs,a0e,a0g,c9H]
 have htl:(A.take t).length=t:=by simp;omega
 have eL:P++A++x::Q=(P++A.take t)++A.drop t++x::Q:=by
  rw [List.append_assoc P (A.take t),List.take_append_drop]
 have hdl:(A.drop t).length=A.length - t:=d0a
 refine c9v (P:=P++A.take t) (A:=A.drop t) (Q:=Q) (x:=x) hN (by rw [← eL];exact hlen) (by rw [← eL];exact ho) _ (by rw [c9M,htl];rfl) _ (by rw [c9M,htl,hdl];congr 1;omega) _ fun g1 c1 c2 p1 s1'=>?_
 simp only [a0m,a0l,bs]
 refine K g1 (A.take t) (A.drop t) (List.take_append_drop _ _).symm ?_ ?_ (by rw [p1];simp [-bind_some]) s1'
 ·rcases Nat.eq_zero_or_pos t with rfl | hpos
  ·exact .inl (by simp)
  ·right
   rcases k3 with k3 | ⟨y,hy,hlt⟩
   ·omega
   ·rw [show P.length+t - 1=P.length+(t - 1) by omega,gA _ (by omega)] at hy
    refine ⟨y,A.take (t - 1),?_,hlt⟩
    conv=>lhs;rw [show t=(t - 1)+1 by omega,c9T,hy]
    simp [-bind_some]
 ·rcases Nat.lt_or_ge t A.length with hlt | hge
  ·right
   obtain ⟨y,hy⟩:=gx_ hlt
   rcases k4 with k4 | k4
   ·omega
   ·refine ⟨y,A.drop (t+1),?_,Classical.byContradiction fun h=>k4 ⟨y,by rw [gA _ hlt];exact hy,h⟩⟩
    obtain ⟨hn,hh⟩:=c9X.1 hy
    rw [List.drop_eq_getElem_cons hn,hh]
  ·exact .inl (List.drop_eq_nil_of_le hge)
def a9B (c:Ct→Ct→Int) (S Pre:Ct→Ct→Prop) (cmp:D) (o N n:Nat):Prop :=
 ∀ (g:Hp) (P A B Q:List Ct) (a m b:Int),A.length+B.length≤n→(P++A++B++Q).length=N→0<A.length→0<B.length→A.Pairwise S→B.Pairwise S→(∀ x∈A,∀ y∈B,Pre x y) →
  g[o]?=some (.row a0d 3 ((P++A++B++Q).map ctr))→a=(P.length:Nat)→m=(P.length+A.length:Nat)→b=(P.length+A.length+B.length:Nat) →
  Wp (R a4p [.msl 3 o 0 N,.int .i64 a,.int .i64 m,.int .i64 b,cmp] g) fun p=>∃ C:List Ct,C.Perm (A++B)∧C.Pairwise S∧p.2[o]?=some (.row a0d 3 ((P++C++Q).map ctr))∧Same o g p.2
theorem b7d {g:Hp} {o N:Nat} {P A B Q:List Ct} (hN:N≤1000000000) (hlen:(P++A++B++Q).length=N) (hA:0<A.length) (hB:0<B.length) (ho:g[o]?=some (.row a0d 3 ((P++A++B++Q).map ctr))) (cmp:D) (c:Ct→Ct→Int) (hcmp:a6b cmp c)
  (mid s0 r0:Nat) (hmid:mid=(P.length+(P.length+A.length+B.length)) / 2) (hs:(P.length+A.length>mid∧s0+B.length=mid∧r0=mid)∨(P.length+A.length≤mid∧s0=P.length∧r0=P.length+A.length))
  (p:Int) (hp:p=(mid+(P.length+A.length) - 1:Nat)) (x1 x2 x3:D) {β:Type} {f:Out→Option β} {R1:β→Prop}
  (K:∀ (k:Nat) b1 b2 b3 A1 A2 B1 B2,A=A1++A2→B=B1++B2→k=P.length+A1.length→mid=P.length+A1.length+B1.length →
   (A1=[]∨B2=[]∨∃ x y r s,A1=r++[x]∧B2=y::s∧¬ c y x<0)→(A2=[]∨B1=[]∨∃ x y r s,B1=r++[y]∧A2=x::s∧c y x<0) →
   Wp (f (.ext 8,[.int .i64 (k:Int),.int .i64 (k:Int),b1,b2,b3],g)) R1):Wp ((a0B (a4F (.msl 3 o 0 N) cmp (.int .i64 p)) [.int .i64 (s0:Int),.int .i64 (r0:Int),x1,x2,x3] g).bind f) R1:=by
 subst hp
 have hl:=hlen
 simp only [c9M] at hl
 have gA:∀ t,P.length≤t→t<P.length+A.length→(P++A++B++Q)[t]?=A[t - P.length]?:=fun t h0 h1=>by
  rw [List.append_assoc (P++A)];exact c1Q P A _ t h0 h1
 have gB:∀ t,P.length+A.length≤t→t<P.length+A.length+B.length→(P++A++B++Q)[t]?=B[t - (P.length+A.length)]?:=fun t h0 h1=>by
  have:=c1Q (P++A) B Q t (by simpa using h0) (by simpa using h1)
  simpa using this
 obtain ⟨q,hq⟩:∃ q:Nat→Prop,∀ t,q t↔∃ y z,(P++A++B++Q)[t]?=some y∧(P++A++B++Q)[mid+(P.length+A.length) - 1 - t]?=some z∧¬ c z y<0:=⟨_,fun t=>Iff.rfl⟩
 refine c9r hN hlen ho cmp (mid+(P.length+A.length) - 1) s0 r0 q (by omega) (by omega) (by omega) (by omega)
  (fun t y z _ _ hy hz=>⟨c z y,hcmp z y g,fun h=>(hq t).2 ⟨y,z,hy,hz,h⟩,fun hh=>by
   obtain ⟨y',z',h1,h2,h3⟩:=(hq t).1 hh
   rw [hy] at h1;rw [hz] at h2;injection h1 with h1;injection h2 with h2;rw [h1,h2];exact h3⟩) _ _ _ fun k b1 b2 b3 k1 k2 k3 k4=>?_
 have hkA:k - P.length≤A.length:=by omega
 have hkB:mid - k≤B.length:=by omega
 have la:(A.take (k - P.length)).length=k - P.length:=by simp;omega
 have lb:(B.take (mid - k)).length=mid - k:=by simp;omega
 refine K k b1 b2 b3 (A.take (k - P.length)) (A.drop (k - P.length)) (B.take (mid - k)) (B.drop (mid - k)) (List.take_append_drop _ _).symm (List.take_append_drop _ _).symm (by omega) (by omega) ?_ ?_
 ·rcases k3 with k3 | k3
  ·rcases hs with ⟨h1,h2,h3⟩ | ⟨h1,h2,h3⟩
   ·right;left
    exact List.drop_eq_nil_of_le (by omega)
   ·left
    apply List.eq_nil_of_length_eq_zero
    omega
  ·by_cases hk0:k=P.length
   ·left;apply List.eq_nil_of_length_eq_zero;omega
   ·right
    by_cases hk1:B.length≤mid - k
    ·left;exact List.drop_eq_nil_of_le hk1
    ·right
     obtain ⟨y,z,hy,hz,hlt⟩:=(hq _).1 k3
     rw [gA _ (by omega) (by omega)] at hy
     rw [gB _ (by omega) (by omega)] at hz
     obtain ⟨r,hr⟩:=a6U (A:=A) (t:=k - P.length) (y:=y) (by omega) (by rw [← hy];congr 1;omega)
     obtain ⟨s,hs'⟩:=a4K (A:=B) (t:=mid - k) (y:=z) (by rw [← hz];congr 1;omega)
     exact ⟨y,z,r,s,hr,hs',hlt⟩
 ·by_cases hk0:k=P.length+A.length
  ·left;exact List.drop_eq_nil_of_le (by omega)
  ·right
   by_cases hk1:mid - k=0
   ·left;rw [hk1];rfl
   ·right
    rcases k4 with k4 | k4
    ·omega
    ·obtain ⟨y,hy⟩:∃ y,A[k - P.length]?=some y:=⟨_,c9W (by omega)⟩
     obtain ⟨z,hz⟩:∃ z,B[mid - k - 1]?=some z:=⟨_,c9W (by omega)⟩
     obtain ⟨r,hr⟩:=a6U (A:=B) (t:=mid - k) (y:=z) (by omega) hz
     obtain ⟨s,hs'⟩:=a4K (A:=A) (t:=k - P.length) (y:=y) hy
     refine ⟨y,z,r,s,hr,hs',Classical.byContradiction fun h=>k4 ((hq _).2 ⟨y,z,?_,?_,h⟩)⟩
     ·rw [gA _ (by omega) (by omega)];exact hy
     ·rw [gB _ (by omega) (by omega),← hz];congr 1;omega
theorem c1u {c:Ct→Ct→Int} {S Pre:Ct→Ct→Prop} (od:SOrd c S Pre) {cmp:D} (hcmp:a6b cmp c) {o N n:Nat} (hN:N≤1000000000) (ih:a9B c S Pre cmp o N n)
  {g:Hp} {P A B Q:List Ct} {a m b:Int} (hn:A.length+B.length≤n+1) (hlen:(P++A++B++Q).length=N) (hA:0<A.length) (hB:0<B.length) (sA:A.Pairwise S) (sB:B.Pairwise S) (hp:∀ x∈A,∀ y∈B,Pre x y)
  (ho:g[o]?=some (.row a0d 3 ((P++A++B++Q).map ctr))) (ha:a=(P.length:Nat)) (hm:m=(P.length+A.length:Nat)) (hb:b=(P.length+A.length+B.length:Nat)) :
  Wp (a3I (.msl 3 o 0 N) (.int .i64 a) (.int .i64 m) (.int .i64 b) cmp g) fun p=>∃ C:List Ct,C.Perm (A++B)∧C.Pairwise S∧p.2[o]?=some (.row a0d 3 ((P++C++Q).map ctr))∧Same o g p.2:=by
 have hl:=hlen
 simp only [c9M] at hl
 obtain ⟨mid,hmid⟩:∃ mid:Nat,mid=(P.length+(P.length+A.length+B.length)) / 2:=⟨_,rfl⟩
 obtain ⟨mm,hmm⟩:∃ mm:Nat,mm=P.length+A.length:=⟨_,rfl⟩
 obtain ⟨bb,hbb⟩:∃ bb:Nat,bb=P.length+A.length+B.length:=⟨_,rfl⟩
 rw [← hmm] at hm
 rw [← hbb] at hb
 subst ha hm hb
 obtain ⟨u1,u2,u3,u4⟩:=@a3X P.length bb (by omega) (by omega)
 rw [← show mid=(P.length+bb) / 2 by rw [hmid,hbb]] at u3 u4
 have w1:IntKind.wrap .i64 ((mid:Int)+(mm:Int))=((mid+mm:Nat):Int):=by rw [wrap_i64 (by omega) (by omega)];omega
 have w2:IntKind.wrap .i64 (((mid+mm:Nat):Int) - 1)=((mid+(P.length+A.length) - 1:Nat):Int):=by rw [wrap_i64 (by omega) (by omega)];omega
 simp only [a3I,bs,c9H,a0q,u1,a2I,u2,a2k,show ¬ (1:Int)<0 by omega,if_false,u3,a2H,u4,w1,a1m]
 refine Wp.join (P:=fun r=>r.1 = .nrm∧r.2.2=g∧∃ s0 r0:Nat,r.2.1=[.int .i64 (s0:Int),.int .i64 (r0:Int)]∧((P.length+A.length>mid∧s0+B.length=mid∧r0=mid)∨(P.length+A.length≤mid∧s0=P.length∧r0=P.length+A.length))) ?_ ?_ ?_
 ·intro h0
  have h0:mid<mm:=by
   have:(mm:Int)>(mid:Int):=by simpa using h0
   omega
  have w3:IntKind.wrap .i64 (((mid+mm:Nat):Int) - (bb:Int))=((mid - B.length:Nat):Int):=by rw [wrap_i64 (by omega) (by omega)];omega
  simp only [a0G,w3,bs]
  exact .some ⟨rfl,rfl,mid - B.length,mid,rfl,.inl ⟨by omega,by omega,rfl⟩⟩
 ·intro h0
  have h0:¬ mid<mm:=by
   have:¬ (mm:Int)>(mid:Int):=by simpa using h0
   omega
  exact .some ⟨rfl,rfl,P.length,mm,rfl,.inr ⟨by omega,rfl,hmm⟩⟩
 rintro ⟨ex,ds,g'⟩ ⟨rfl,q2,s0,r0,rfl,hs⟩
 simp only at q2
 subst q2
 simp only [a0l,a0G,w2,bs,a0e,a0g,c9H]
 refine b7d hN hlen hA hB ho cmp c hcmp mid s0 r0 hmid hs _ rfl _ _ _ fun k b1 b2 b3 A1 A2 B1 B2 eA eB ek em h1 h2=>?_
 subst eA eB
 simp only [c9M] at *
 have w4:IntKind.wrap .i64 (((mid+mm:Nat):Int) - (k:Int))=((mm+B1.length:Nat):Int):=by rw [wrap_i64 (by omega) (by omega)];omega
 simp only [a0m,a0l,bs,a0e,a0g,c9H,a0G,w4,a0n,a4b]
 rw [List.pairwise_append] at sA sB
 -- the rotation
 refine Wp.bind (P:=fun r=>r.1 = .nrm∧r.2.2[o]?=some (.row a0d 3 ((P++A1++B1++A2++B2++Q).map ctr))∧Same o g' r.2.2) ?_ ?_
 ·by_cases c1:0<A2.length
  ·have d1:decide ((k:Int)<(mm:Int))=true:=decide_eq_true (by omega)
   by_cases c2:0<B1.length
   ·have d2:decide ((mm:Int)<((mm+B1.length:Nat):Int))=true:=decide_eq_true (by omega)
    simp only [d1,d2,Bool.and_self,a0f,if_true]
    refine c5t (P:=P++A1) (U:=A2) (V:=B1) (Q:=B2++Q) hN (by simp only [c9M];omega) c1 c2 (by rw [ho];simp [-bind_some]) cmp _ _ _ (by simp only [c9M];omega) (by simp only [c9M];omega) (by simp only [c9M];omega) fun g1 p1 s1=>?_
    exact .some ⟨rfl,by simp only [p1];simp [-bind_some],s1⟩
   ·have e2:B1=[]:=List.eq_nil_of_length_eq_zero (by omega)
    subst e2
    have d2:decide ((mm:Int)<((mm+([]:List Ct).length:Nat):Int))=false:=decide_eq_false (by simp)
    simp only [d1,d2,Bool.and_false,a0f,c9I,if_false]
    exact .some ⟨rfl,by simp only [ho];simp [-bind_some],.refl _ _⟩
  ·have e2:A2=[]:=List.eq_nil_of_length_eq_zero (by omega)
   subst e2
   have d1:decide ((k:Int)<(mm:Int))=false:=decide_eq_false (by simp only [c9Z] at *;omega)
   simp only [d1,Bool.false_and,a0f,c9I,if_false]
   exact .some ⟨rfl,by simp only [ho];simp [-bind_some],.refl _ _⟩
 rintro ⟨ex,ds,g1⟩ ⟨rfl,p1,s1⟩
 simp only [a0l,bs,c9H,a0n,a4b]
 -- the first half
 refine Wp.bind (P:=fun r=>r.1 = .nrm∧∃ C1:List Ct,C1.Perm (A1++B1)∧C1.Pairwise S∧r.2.2[o]?=some (.row a0d 3 ((P++C1++(A2++B2++Q)).map ctr))∧Same o g' r.2.2) ?_ ?_
 ·by_cases c1:0<A1.length
  ·have d1:decide (((P.length:Nat):Int)<(k:Int))=true:=decide_eq_true (by omega)
   by_cases c2:0<B1.length
   ·have d2:decide ((k:Int)<(mid:Int))=true:=decide_eq_true (by omega)
    simp only [d1,d2,Bool.and_self,a0f,if_true]
    refine Wp.bind (ih g1 P A1 B1 (A2++B2++Q) _ _ _ (by omega) (by simp only [c9M];omega) c1 c2 sA.1 sB.1 (fun x hx y hy=>hp x (by simp [-bind_some, hx]) y (by simp [-bind_some, hy])) (by rw [p1];simp [-bind_some]) rfl (by omega) (by omega)) ?_
    rintro ⟨d,g2⟩ ⟨C,q1,q2,q3,q4⟩
    exact .some ⟨rfl,C,q1,q2,q3,s1.trans q4⟩
   ·have e2:B1=[]:=List.eq_nil_of_length_eq_zero (by omega)
    subst e2
    have d2:decide ((k:Int)<(mid:Int))=false:=decide_eq_false (by simp only [c9Z] at *;omega)
    simp only [d1,d2,Bool.and_false,a0f,c9I,if_false]
    exact .some ⟨rfl,A1,by simp,sA.1,by simp only [p1];simp [-bind_some],s1⟩
  ·have e2:A1=[]:=List.eq_nil_of_length_eq_zero (by omega)
   subst e2
   have d1:decide (((P.length:Nat):Int)<(k:Int))=false:=decide_eq_false (by simp only [c9Z] at *;omega)
   simp only [d1,Bool.false_and,a0f,c9I,if_false]
   exact .some ⟨rfl,B1,by simp,sB.1,by simp only [p1];simp [-bind_some],s1⟩
 rintro ⟨ex,ds,g2⟩ ⟨rfl,C1,r1,r2,p2,s2⟩
 have lC1:C1.length=A1.length+B1.length:=by rw [r1.length_eq];simp [-bind_some]
 simp only [a0l,bs,c9H,a0n,a4b]
 -- the second half
 refine Wp.bind (P:=fun r=>r.1 = .nrm∧∃ C2:List Ct,C2.Perm (A2++B2)∧C2.Pairwise S∧r.2.2[o]?=some (.row a0d 3 ((P++(C1++C2)++Q).map ctr))∧Same o g' r.2.2) ?_ ?_
 ·by_cases c1:0<A2.length
  ·have d1:decide ((mid:Int)<((mm+B1.length:Nat):Int))=true:=decide_eq_true (by omega)
   by_cases c2:0<B2.length
   ·have d2:decide (((mm+B1.length:Nat):Int)<(bb:Int))=true:=decide_eq_true (by omega)
    simp only [d1,d2,Bool.and_self,a0f,if_true]
    refine Wp.bind (ih g2 (P++C1) A2 B2 Q _ _ _ (by omega) (by simp only [c9M];omega) c1 c2 sA.2.1 sB.2.1 (fun x hx y hy=>hp x (by simp [-bind_some, hx]) y (by simp [-bind_some, hy])) (by rw [p2];simp [-bind_some]) (by simp only [c9M];omega) (by simp only [c9M];omega) (by simp only [c9M];omega)) ?_
    rintro ⟨d,g3⟩ ⟨C,q1,q2,q3,q4⟩
    exact .some ⟨rfl,C,q1,q2,by rw [q3];simp [-bind_some],s2.trans q4⟩
   ·have e2:B2=[]:=List.eq_nil_of_length_eq_zero (by omega)
    subst e2
    have d2:decide (((mm+B1.length:Nat):Int)<(bb:Int))=false:=decide_eq_false (by simp only [c9Z] at *;omega)
    simp only [d1,d2,Bool.and_false,a0f,c9I,if_false]
    exact .some ⟨rfl,A2,by simp,sA.2.1,by simp only [p2];simp [-bind_some],s2⟩
  ·have e2:A2=[]:=List.eq_nil_of_length_eq_zero (by omega)
   subst e2
   have d1:decide ((mid:Int)<((mm+B1.length:Nat):Int))=false:=decide_eq_false (by simp only [c9Z] at *;omega)
   simp only [d1,Bool.false_and,a0f,c9I,if_false]
   exact .some ⟨rfl,B2,by simp,sB.2.1,by simp only [p2];simp [-bind_some],s2⟩
 rintro ⟨ex,ds,g3⟩ ⟨rfl,C2,r3,r4,p3,s3⟩
 simp only [a1F,bs]
 obtain ⟨v1,v2⟩:=b6g od (List.pairwise_append.2 sA) (List.pairwise_append.2 sB) hp h1 h2 r1 r2 r3 r4
 exact .some ⟨C1++C2,v1,v2,p3,s3⟩
theorem b8u {c:Ct→Ct→Int} {S Pre:Ct→Ct→Prop} (od:SOrd c S Pre) {cmp:D} (hcmp:a6b cmp c) {o N:Nat} (hN:N≤1000000000):∀ n,a9B c S Pre cmp o N n
 | 0=>fun g P A B Q a m b h0 _ h1=>by omega
 | n + 1 => fun g P A B Q a m b h0 hlen hA hB sA sB hp ho ha hm hb=>by
  have ih:=b8u od hcmp (o:=o) hN n
  have hl:=hlen
  simp only [c9M] at hl
  by_cases c1:A.length=1
  ·obtain ⟨x,rfl⟩:=List.length_eq_one_iff.1 c1
   have := c1s (g:=g) (o:=o) (N:=N) (P:=P) (B:=B) (Q:=Q) (x:=x) hN (by simpa using hlen) (by simpa using ho) cmp c hcmp a m b ha (by rw [hm];rfl) (by rw [hb];rfl) (f:=some) (R1:=fun p=>∃ C:List Ct,C.Perm ([x]++B)∧C.Pairwise S∧p.2[o]?=some (.row a0d 3 ((P++C++Q).map ctr))∧Same o g p.2)
    (fun g' B1 B2 e h1 h2 p1 s1 => .some ⟨B1++x::B2,by rw [e];exact List.perm_middle,by
     subst e
     rw [List.pairwise_append] at sB ⊢
     refine ⟨sB.1,List.pairwise_cons.2 ⟨?_,sB.2.1⟩,?_⟩
     ·rcases h2 with rfl | ⟨y,r,rfl,hy⟩
      ·intro z hz;cases hz
      ·have hxy:=od.ge x y (hp x (by simp) y (by simp)) hy
       intro z hz
       rcases d0c.1 hz with rfl | hz
       ·exact hxy
       ·exact od.tr _ _ _ hxy ((List.pairwise_cons.1 sB.2.1).1 z hz)
     ·have hx1:∀ u∈B1,S u x:=by
        rcases h1 with rfl | ⟨y,r,rfl,hy⟩
        ·intro z hz;cases hz
        ·have hyx:=od.lt x y (hp x (by simp) y (by simp)) hy
         intro z hz
         rcases d0d.1 hz with hz | hz
         ·exact od.tr _ _ _ ((List.pairwise_append.1 sB.1).2.2 z hz y (by simp)) hyx
         ·simp at hz;subst hz;exact hyx
      intro u hu v hv
      rcases d0c.1 hv with rfl | hv
      ·exact hx1 u hu
      ·exact sB.2.2 u hu v hv,by rw [p1],s1⟩)
   rwa [show ∀ x:Option (D × Hp),x.bind some=x from fun x=>by cases x <;> rfl] at this
  ·by_cases c2:B.length=1
   ·obtain ⟨x,rfl⟩:=List.length_eq_one_iff.1 c2
    have:=c1t (g:=g) (o:=o) (N:=N) (P:=P) (A:=A) (Q:=Q) (x:=x) hN (by simpa using hlen) c1 (by simpa using ho) cmp c hcmp a m b ha (by rw [hm]) (by rw [hb];rfl) (f:=some) (R1:=fun p=>∃ C:List Ct,C.Perm (A++[x])∧C.Pairwise S∧p.2[o]?=some (.row a0d 3 ((P++C++Q).map ctr))∧Same o g p.2)
     (fun g' A1 A2 e h1 h2 p1 s1 => .some ⟨A1++x::A2,by rw [e];exact List.perm_middle.trans (by simpa using (List.perm_append_comm (l₁:=[x]) (l₂:=A1++A2))),b3s od (by rw [← e];exact sA) (fun y hy=>hp y (by rw [e];exact hy) x (by simp)) h2 h1,by rw [p1],s1⟩)
    rwa [show ∀ x:Option (D × Hp),x.bind some=x from fun x=>by cases x <;> rfl] at this
   ·have r:=c1u od hcmp hN ih h0 hlen hA hB sA sB hp ho ha hm hb
    rw [b7j]
    have v1:IntKind.wrap .i64 (m - a)=(A.length:Int):=by rw [hm,ha,wrap_i64 (by omega) (by omega)];omega
    have v2:IntKind.wrap .i64 (b - m)=(B.length:Int):=by rw [hm,hb,wrap_i64 (by omega) (by omega)];omega
    have d1:decide ((A.length:Int)=1)=false:=decide_eq_false (by omega)
    have d2:decide ((B.length:Int)=1)=false:=decide_eq_false (by omega)
    simp only [b4k,a3H,bs,a0G,v1,v2,a0U,d1,d2,a0f,c9I,if_false]
    exact r
theorem b2N {c:Ct→Ct→Int} {S Pre:Ct→Ct→Prop} (od:SOrd c S Pre) {cmp:D} (hcmp:a6b cmp c) {o N:Nat} (hN:N≤1000000000) {g:Hp} {P A Q:List Ct} (hlen:(P++A++Q).length=N) (hA:A.Pairwise Pre)
  (ho:g[o]?=some (.row a0d 3 ((P++A++Q).map ctr))) (a b:Int) (ha:a=P.length) (hb:b=(P.length+A.length:Nat)) :
  Wp (R a5f [.msl 3 o 0 N,.int .i64 a,.int .i64 b,cmp] g) fun p=>∃ C:List Ct,C.Perm A∧C.Pairwise S∧p.2[o]?=some (.row a0d 3 ((P++C++Q).map ctr))∧Same o g p.2:=by
 subst ha hb
 have hl:=hlen
 simp only [c9M] at hl
 obtain ⟨d,h',e,p1,s1⟩:=c5a c cmp hcmp o N P.length (P.length+A.length) hN (by omega) (by omega) _ hlen g ho
 refine ⟨(d,h'),e,?_⟩
 cases A with
 | nil =>
  refine ⟨[],by simp,List.Pairwise.nil,?_,s1⟩
  rw [p1]
  simp [-bind_some, isr]
 | cons x A =>
  obtain ⟨C,q1,q2,q3⟩:=b2P od P Q A [x] (by simp) (fun u hu v hv=>by simp at hu;subst hu;exact (List.pairwise_cons.1 hA).1 v hv) (List.pairwise_cons.1 hA).2
  refine ⟨C,q2,q3,?_,s1⟩
  rw [p1]
  have e1:P.length+(x::A).length - (P.length+1)=A.length:=by simp;omega
  rw [e1]
  have e2:P++x::A++Q=P++[x]++A++Q:=by simp
  rw [e2]
  exact congrArg (fun z:List Ct=>some (Ob.row a0d 3 (z.map ctr))) q1
theorem c5s {c:Ct→Ct→Int} {S Pre:Ct→Ct→Prop} (od:SOrd c S Pre) {cmp:D} (hcmp:a6b cmp c) {o N:Nat} (hN:N≤1000000000) {g:Hp} {l:List Ct} (hl:l.length=N) (hpre:l.Pairwise Pre)
  (ho:g[o]?=some (.row a0d 3 (l.map ctr))):Wp (R b0r [.msl 3 o 0 N,.int .i64 N,cmp] g) fun p=>∃ C:List Ct,C.Perm l∧C.Pairwise S∧p.2[o]?=some (.row a0d 3 (C.map ctr))∧Same o g p.2:=by
 rw [c0q]
 simp only [b6N,bs,c9H]
 refine Wp.loop (fun n ds g'=>∃ u,∃ X Y:List Ct,ds=[.int .i64 (X.length:Nat),.int .i64 ((X.length+20:Nat):Int),u]∧n=Y.length∧(X++Y).Perm l∧Y.Pairwise Pre∧CtxB S Pre 20 X Y∧g'[o]?=some (.row a0d 3 ((X++Y).map ctr))∧Same o g g')
  (fun r=>r.1 = .ext 0∧∃ u,∃ X Y:List Ct,r.2.1=[.int .i64 (X.length:Nat),.int .i64 ((X.length+20:Nat):Int),u]∧Y.length<20∧(X++Y).Perm l∧Y.Pairwise Pre∧CtxB S Pre 20 X Y∧r.2.2[o]?=some (.row a0d 3 ((X++Y).map ctr))∧Same o g r.2.2)
  l.length ⟨_,[],l,rfl,rfl,by simp,hpre,CtxB.nil,by simpa using ho,.refl _ _⟩ ?_ ?_
 ·rintro n ds g' ⟨u,X,Y,rfl,rfl,hp,hY,hc,ho',sm⟩
  have hXY:X.length+Y.length=N:=by rw [← hl,← hp.length_eq];simp [-bind_some]
  simp only [a6n,a0e,a0g,bs,c9H,a2t]
  refine Wp.dif ?_ ?_
  ·intro h0
   have h0:20≤Y.length:=by
    have:((X.length+20:Nat):Int)≤(N:Int):=by simpa using h0
    omega
   obtain ⟨A,Y',rfl,hA⟩:∃ A Y',Y=A++Y'∧A.length=20:=⟨Y.take 20,Y.drop 20,(List.take_append_drop _ _).symm,by simp;omega⟩
   obtain ⟨y1,y2,y3⟩:=a8j hY
   simp only [c9M] at hXY h0
   refine Wp.bind (b2N od hcmp hN (P:=X) (A:=A) (Q:=Y') (by simp only [c9M];omega) y1 (by rw [ho'];simp [-bind_some]) _ _ rfl (by omega)) ?_
   rintro ⟨d,g2⟩ ⟨C,q1,q2,q3,q4⟩
   have lC:C.length=20:=by rw [q1.length_eq,hA]
   have w1:IntKind.wrap .i64 (((X.length+20:Nat):Int)+20)=((X.length+20+20:Nat):Int):=by rw [wrap_i64 (by omega) (by omega)];omega
   simp only [a0q,w1,bs]
   have eX:(X++C).length=X.length+20:=by simp [-bind_some, lC]
   refine .some (.inl ⟨rfl,Y'.length,by simp only [c9M];omega,_,X++C,Y',by rw [eX],rfl,?_,y2,hc.step q1 lC q2 y3,q3,sm.trans q4⟩)
   refine List.Perm.trans ?_ hp
   rw [List.append_assoc]
   exact (q1.append_right Y').append_left X
  ·intro h0
   have h0:¬ 20≤Y.length:=by
    have:¬ ((X.length+20:Nat):Int)≤(N:Int):=by simpa using h0
    omega
   exact .some (.inr ⟨by simp,rfl,_,X,Y,rfl,by omega,hp,hY,hc,ho',sm⟩)
 rintro ⟨ex,ds,g1⟩ ⟨rfl,u,X,Y,rfl,hYl,hp,hY,hc,ho1,s1⟩
 have hXY:X.length+Y.length=N:=by rw [← hl,← hp.length_eq];simp [-bind_some]
 simp only [a0m,a0l,a0e,a0g,bs]
 refine Wp.bind (b2N od hcmp hN (P:=X) (A:=Y) (Q:=[]) (by simp only [c9M,c9Z];omega) hY (by simpa using ho1) _ _ rfl (by omega)) ?_
 rintro ⟨d,g2⟩ ⟨C,q1,q2,q3,q4⟩
 have bl:Blk S Pre 20 (X++C):=hc.done q1 (by rw [q1.length_eq];omega) q2
 have hpZ:(X++C).Perm l:=(q1.append_left X).trans hp
 have q3:g2[o]?=some (.row a0d 3 ((X++C).map ctr)):=by simpa using q3
 have s2:Same o g g2:=s1.trans q4
 generalize X++C=Z at bl hpZ q3
 clear q1 q2 hc hY ho1 s1 q4
 simp only [bs,c9H]
 refine Wp.loop (fun n ds g'=>∃ u1 u2 u3 u4 u5 u6,∃ k:Nat,∃ Z:List Ct,ds=[.int .i64 (k:Int),u1,u2,u3,u4,u5,u6]∧n=N - k∧0<k∧k≤2000000000∧Z.Perm l∧Blk S Pre k Z∧g'[o]?=some (.row a0d 3 (Z.map ctr))∧Same o g g')
  (fun r=>r.1 = .ext 2∧∃ u1 u2 u3 u4 u5 u6 u7,r.2.1=[u1,u2,u3,u4,u5,u6,u7]∧∃ Z:List Ct,Z.Perm l∧Z.Pairwise S∧r.2.2[o]?=some (.row a0d 3 (Z.map ctr))∧Same o g r.2.2)
  (N - 20) ⟨_,_,_,_,_,_,20,Z,rfl,rfl,by omega,by omega,hpZ,bl,q3,s2⟩ ?_ ?_
 ·clear q3 s2 bl hpZ Z hXY hp
  rintro n ds g3 ⟨u1,u2,u3,u4,u5,u6,k,Z,rfl,rfl,k0,k1,hp,bl,ho3,s3⟩
  have lZ:Z.length=N:=by rw [hp.length_eq,hl]
  simp only [a6o,a0e,a0g,bs,c9H,a0n]
  refine Wp.dif ?_ ?_
  ·intro h0
   have h0:k<N:=by
    have:(k:Int)<(N:Int):=by simpa using h0
    omega
   have w1:IntKind.wrap .i64 ((2:Int)*(k:Int))=((2*k:Nat):Int):=by rw [wrap_i64 (by omega) (by omega)];omega
   simp only [a4I,w1,bs,c9H]
   refine Wp.loop (fun n ds g'=>∃ u,∃ X Y:List Ct,ds=[.int .i64 (X.length:Nat),.int .i64 ((X.length+2*k:Nat):Int),u]∧n=Y.length∧(X++Y).Perm l∧Blk S Pre k Y∧CtxB S Pre (2*k) X Y∧g'[o]?=some (.row a0d 3 ((X++Y).map ctr))∧Same o g g')
    (fun r=>r.1 = .ext 4∧∃ u v,∃ X Y:List Ct,r.2.1=[.int .i64 (X.length:Nat),u,v]∧Y.length<2*k∧(X++Y).Perm l∧Blk S Pre k Y∧CtxB S Pre (2*k) X Y∧r.2.2[o]?=some (.row a0d 3 ((X++Y).map ctr))∧Same o g r.2.2)
    N ⟨u5,[],Z,by simp,lZ.symm,by simpa using hp,bl,CtxB.nil,by simpa using ho3,s3⟩ ?_ ?_
   ·rintro n ds g4 ⟨u,X,Y,rfl,rfl,hp4,bl4,hc4,ho4,s4⟩
    have hXY:X.length+Y.length=N:=by rw [← hl,← hp4.length_eq];simp [-bind_some]
    simp only [a9x,a0e,a0g,bs,c9H,a2t]
    refine Wp.dif ?_ ?_
    ·intro h1
     have h1:2*k≤Y.length:=by
      have:((X.length+2*k:Nat):Int)≤(N:Int):=by simpa using h1
      omega
     obtain ⟨A,Y1,rfl,lA,sA,pA,bY1⟩:=bl4.fst (by omega)
     simp only [c9M] at hXY h1
     obtain ⟨B,Y2,rfl,lB,sB,pB,bY2⟩:=bY1.fst (by omega)
     simp only [c9M] at hXY h1
     have w2:IntKind.wrap .i64 ((X.length:Int)+(k:Int))=((X.length+A.length:Nat):Int):=by rw [wrap_i64 (by omega) (by omega)];omega
     simp only [a0q,w2,bs,c9H]
     refine Wp.bind (b8u od hcmp hN (A.length+B.length) g4 X A B Y2 _ _ _ (Nat.le_refl _) (by simp only [c9M];omega) (by omega) (by omega) sA sB (fun x hx y hy=>pA x hx y (by simp [-bind_some, hy])) (by rw [ho4];simp [-bind_some]) rfl rfl (by omega)) ?_
     rintro ⟨d,g5⟩ ⟨C,q1,q2,q3,q4⟩
     have lC:C.length=2*k:=by rw [q1.length_eq,c9M];omega
     have w3:IntKind.wrap .i64 (((X.length+2*k:Nat):Int)+((2*k:Nat):Int))=((X.length+2*k+2*k:Nat):Int):=by rw [wrap_i64 (by omega) (by omega)];omega
     simp only [a4I,a0q,w1,w3,bs]
     have eX:(X++C).length=X.length+2*k:=by simp [-bind_some, lC]
     refine .some (.inl ⟨rfl,Y2.length,by simp only [c9M];omega,_,X++C,Y2,by rw [eX],rfl,?_,bY2,CtxB.step (A:=A++B) (by rw [List.append_assoc];exact hc4) q1 lC q2 (fun x hx y hy=>?_),q3,s4.trans q4⟩)
     ·refine List.Perm.trans ?_ hp4
      rw [List.append_assoc,← List.append_assoc A B Y2]
      exact (q1.append_right Y2).append_left X
     ·rcases d0d.1 hx with hx | hx
      ·exact pA x hx y (by simp [-bind_some, hy])
      ·exact pB x hx y hy
    ·intro h1
     have h1:¬ 2*k≤Y.length:=by
      have:¬ ((X.length+2*k:Nat):Int)≤(N:Int):=by simpa using h1
      omega
     exact .some (.inr ⟨by simp,rfl,_,_,X,Y,rfl,by omega,hp4,bl4,hc4,ho4,s4⟩)
   rintro ⟨ex,ds,g4⟩ ⟨rfl,u,v,X,Y,rfl,hYl,hp4,bl4,hc4,ho4,s4⟩
   have hXY:X.length+Y.length=N:=by rw [← hl,← hp4.length_eq];simp [-bind_some]
   have w2:IntKind.wrap .i64 ((X.length:Int)+(k:Int))=((X.length+k:Nat):Int):=by rw [wrap_i64 (by omega) (by omega)];omega
   have w4:IntKind.wrap .i64 ((k:Int)*2)=((2*k:Nat):Int):=by rw [wrap_i64 (by omega) (by omega)];omega
   simp only [a0m,a0l,a0e,a0g,bs,a0q,w2,a0n,c9H]
   refine Wp.bind (P:=fun r=>r.1 = .nrm∧∃ Z:List Ct,Z.Perm l∧Blk S Pre (2*k) Z∧r.2.2[o]?=some (.row a0d 3 (Z.map ctr))∧Same o g r.2.2) ?_ ?_
   ·by_cases hm:X.length+k<N
    ·have d1:decide (((X.length+k:Nat):Int)<(N:Int))=true:=decide_eq_true (by omega)
     obtain ⟨A,B,rfl,lA,sA,pA,bB⟩:=bl4.fst (by omega)
     simp only [c9M] at hXY hYl
     have sB:B.Pairwise S:=bB.all (by omega)
     simp only [d1,a0f,if_true]
     refine Wp.bind (b8u od hcmp hN (A.length+B.length) g4 X A B [] _ _ _ (Nat.le_refl _) (by simp only [c9M,c9Z];omega) (by omega) (by omega) sA sB pA (by rw [ho4];simp [-bind_some]) rfl (by omega) (by omega)) ?_
     rintro ⟨d,g5⟩ ⟨C,q1,q2,q3,q4⟩
     refine .some ⟨rfl,X++C,(q1.append_left X).trans hp4,hc4.done q1 (by rw [q1.length_eq,c9M];omega) q2,by simpa using q3,s4.trans q4⟩
    ·have d1:decide (((X.length+k:Nat):Int)<(N:Int))=false:=decide_eq_false (by omega)
     simp only [d1,a0f,c9I,if_false]
     exact .some ⟨rfl,X++Y,hp4,hc4.done (List.Perm.refl _) (by omega) (bl4.all (by omega)),ho4,s4⟩
   rintro ⟨ex,ds,g5⟩ ⟨rfl,Z2,hp5,bl5,ho5,s5⟩
   simp only [a0l,bs,w4]
   exact .some (.inl ⟨rfl,N - 2*k,by omega,_,_,_,_,_,_,2*k,Z2,rfl,rfl,by omega,by omega,hp5,bl5,ho5,s5⟩)
  ·intro h0
   have h0:¬ k<N:=by
    have:¬ (k:Int)<(N:Int):=by simpa using h0
    omega
   exact .some (.inr ⟨by simp,rfl,_,_,_,_,_,_,_,rfl,Z,hp,bl.all (by omega),ho3,s3⟩)
 rintro ⟨ex,ds,g3⟩ ⟨rfl,u1,u2,u3,u4,u5,u6,u7,rfl,Z3,hp3,sZ,ho3,s3⟩
 simp only [a0m,a1F,bs]
 exact .some ⟨Z3,hp3,sZ,ho3,s3⟩
def ctc (c:Ct):Cn:=(c.k,c.n,c.e)
theorem c0c (c:Ct):a0b tab a0d 0 (.fptr (ctr c))=some (.fptr (ctr c)):=id rfl
theorem c1B (c:Ct):a0b tab a0d 1 (.fptr (ctr c))=some (.fptr [.int .i64 c.n,.int .i64 c.e]):=id rfl
theorem c6l (c:Ct):a0b tab a0d 2 (.fptr (ctr c))=some (.fptr [.int .i64 c.e]):=id rfl
theorem c0d (c:Ct) (h:Hp):a0c tab h a0E (.fptr (ctr c))=some c.kd:=by
 have h1:=a0T c.hk
 show a0c tab h a0E (.fptr [c.kd,.int .i64 c.n,.int .i64 c.e])=_
 generalize c.kd=a at h1
 cases a <;> first | rfl | (simp [-bind_some, D.one] at h1)
theorem c0e (n e:Int) (h:Hp):a0c tab h ty3 (.fptr [.int .i64 n,.int .i64 e])=some (.int .i64 n):=id rfl
theorem c6m (e:Int) (h:Hp):a0c tab h ty3 (.fptr [.int .i64 e])=some (.int .i64 e):=id rfl
theorem ctL (c:Ct) (h:Hp):a0c tab h a0d (.fptr (ctr c))=some (.agg (ctr c)):=id rfl
theorem b4G (c:Ct):a1H (.agg (ctr c))=some (.fptr (ctr c)):=a1I _
theorem b1T (c:Ct):a7s 3 (.agg (ctr c))=some (.fptr (ctr c)):=a6x 3 _ rfl
def RdCt (h:Hp) (l:List Ct) (d:D):Prop:=SlOf 3 ctr l d∨∃ ob tl,d = .msl 3 ob 0 l.length∧h[ob]?=some (.row a0d 3 (l.map ctr++tl))
theorem a4k {h:Hp} {l:List Ct} {d:D} (hd:RdCt h l d):a0w tab a0h d=some (.int .i64 l.length):=by
 rcases hd with hd | ⟨ob,tl,rfl,_⟩
 ·exact a6V hd
 ·exact a3V _ _ _ _
theorem a5V {h:Hp} {l:List Ct} {d:D} (hd:RdCt h l d) (i:Nat) (p:Ct) (hp:l[i]?=some p):∃ q,a0a tab a0h d (.int .i64 i)=some q∧a0c tab h a0d q=some (.agg (ctr p)):=by
 have hi:=(c9X.1 hp).1
 rcases hd with hd | ⟨ob,tl,rfl,ho⟩
 ·exact ⟨.fptr (ctr p),by rw [b7F hd];simp [-bind_some, hp],ctL p h⟩
 ·have hr:(l.map ctr++tl)[i]?=some (ctr p):=by rw [d0g (by simpa using hi),c9U,hp];rfl
  exact ⟨.ptr ob i 0,by rw [a3b,if_pos (by omega)];simp [-bind_some],by rw [a2K,a1r ho,hr];rfl⟩
theorem c1e (x:Ct) (key:List Str) (dk:D) (h:Hp) (hk:SlOf 1 (fun s=>[D.str s]) key dk) (hl:key.length≤1000000):R a7T [.agg (ctr x),dk] h=some (.int .i64 (a0Y x.k key),h):=by
 rw [c3n]
 simp only [b9D,b4G,bs,c0c,c0d,b3B x.k key x.kd dk h x.hk hk x.hkl hl,a0r]
def cM (x y:Ct):Int:=if a4x x.n y.n=0 then a0Y x.k y.k else a4x x.n y.n
theorem c6a (a b:Int):orI [a,b]=if a=0 then b else a:=by
 unfold orI orI orI
 split
 ·split
  ·rename_i h2;exact h2.symm
  ·rfl
 ·rfl
theorem c4X (x y:Ct) (h:Hp):R a7U [.agg (ctr x),.agg (ctr y)] h=some (.int .i64 (cM x y),h):=by
 rw [c3p]
 have hs:SlOf 1 inr [a4x x.n y.n,a0Y x.k y.k] (.sl 1 true [[.int .i64 (a4x x.n y.n)],[.int .i64 (a0Y x.k y.k)]]) := .inr ⟨true,rfl⟩
 simp only [b9F,b4G,bs,c1B,c0e,s90,c0c,c0d,b3B x.k y.k x.kd y.kd h x.hk y.hk x.hkl y.hkl,b1I,s89 _ _ h hs (by simp),c6a,a1l,a0r]
 rfl
theorem c1f (x m:Ct) (h:Hp):R a5d [.agg (ctr x),.fptr (ctr m)] h=some (.bool (decide (a0Y x.k m.k=0)),h):=by
 rw [c3r]
 simp only [b9H,b4G,bs,c0c,c0d,b3B x.k m.k x.kd m.kd h x.hk m.hk x.hkl m.hkl,a0U,a0r]
theorem c4V (S:List Ct) (d:D) (key:List Str) (dk:D) (h:Hp) (hS:RdCt h S d) (hk:SlOf 1 (fun s=>[D.str s]) key dk) (hkl:key.length≤1000000) (hl:S.length≤1000000) (asc:CAsc (S.map ctc)) :
  ∃ (i:Nat) (b:Bool),i≤S.length∧R b0o [d,dk,.fn (.func a7T) [] []] h=some (.tup [.int .i64 i,.bool b],h)∧(b=true↔∃ c,S[i]?=some c∧c.k=key)∧(∀ j c,j<i→S[j]?=some c→a0Y c.k key<0)∧(∀ j c,i≤j→S[j]?=some c→¬ a0Y c.k key<0):=by
 suffices Wp (R b0o [d,dk,.fn (.func a7T) [] []] h) (fun p=>∃ (i:Nat) (b:Bool),i≤S.length∧p=(.tup [.int .i64 i,.bool b],h)∧(b=true↔∃ c,S[i]?=some c∧c.k=key)∧(∀ j c,j<i→S[j]?=some c→a0Y c.k key<0)∧(∀ j c,i≤j→S[j]?=some c→¬ a0Y c.k key<0)) by
  obtain ⟨p,h1,i,b,h2,rfl,h3⟩:=this
  exact ⟨i,b,h2,h1,h3⟩
 have ord:∀ (i j:Nat) (x y:Ct),i<j→S[i]?=some x→S[j]?=some y→a0Y x.k y.k<0:=fun i j x y hij hx hy=>by
  have hi:=(c9X.1 hx).1
  have hj:=(c9X.1 hy).1
  have:=List.pairwise_iff_getElem.1 asc i j (by simpa using hi) (by simpa using hj) hij
  simp only [List.getElem_map] at this
  rw [c9W hi] at hx
  rw [c9W hj] at hy
  injection hx with hx
  injection hy with hy
  rw [hx,hy] at this
  exact this
 rw [c3m]
 simp only [b9C,a4k hS,bs,c9H]
 refine Wp.loop (fun k ds g=>g=h∧∃ x y z,∃ lo hi:Nat,ds=[.int .i64 lo,.int .i64 hi,x,y,z]∧k+lo=hi∧hi≤S.length∧(∀ j c,j<lo→S[j]?=some c→a0Y c.k key<0)∧(∀ j c,hi≤j→S[j]?=some c→¬ a0Y c.k key<0))
  (fun r=>r.1 = .ext 0∧r.2.2=h∧∃ lo:Nat,nth 0 r.2.1 = .int .i64 lo∧lo≤S.length∧(∀ j c,j<lo→S[j]?=some c→a0Y c.k key<0)∧(∀ j c,lo≤j→S[j]?=some c→¬ a0Y c.k key<0)) S.length ⟨rfl,_,_,_,0,S.length,rfl,by omega,Nat.le_refl _,fun j c hj=>by omega,fun j c hj hc=>by have:=(c9X.1 hc).1;omega⟩ ?_ ?_
 ·rintro k ds g ⟨rfl,x,y,z,lo,hi,rfl,hk0,hhi,h1,h2⟩
  simp only [a9u,a0e,a0g,bs,c9H,a0n]
  refine Wp.dif ?_ ?_
  ·intro h0
   have h0:lo<hi:=by
    have:(lo:Int)<(hi:Int):=by simpa using h0
    omega
   obtain ⟨m,hm⟩:∃ m,m=(lo+hi) / 2:=⟨_,rfl⟩
   obtain ⟨u1,u2,u3,u4⟩:=@a3X lo hi (by omega) (by omega)
   rw [← hm] at u3 u4
   have u5:=wi_ m (by omega)
   obtain ⟨c,hc⟩:∃ c,S[m]?=some c:=⟨_,c9W (by omega)⟩
   obtain ⟨q,hq,lq⟩:=a5V hS m c hc
   simp only [a0q,u1,a2I,u2,a2k,show ¬ (1:Int)<0 by omega,if_false,u3,a2H,u4,hq,lq,bs,a1w,List.nil_append,List.append_nil,List.cons_append,c1e c key dk g hk hkl,a0n]
   by_cases hlt:a0Y c.k key<0
   ·simp only [hlt,decide_true,a0f,if_true,u5,bs,a0x,a0e,a0g]
    refine .some (.inl ⟨rfl,hi - (m+1),by omega,rfl,_,_,_,m+1,hi,rfl,by omega,hhi,fun j x hj hx=>?_,h2⟩)
    rcases Nat.lt_or_ge j m with hjm | hjm
    ·exact a4h (ord j m x c hjm hx hc) hlt
    ·have:j=m:=by omega
     subst this
     rw [hc] at hx
     injection hx with hx
     rw [← hx];exact hlt
   ·simp only [hlt,decide_false,a0f,c9I,if_false,bs,a0x,a0e,a0g]
    refine .some (.inl ⟨rfl,m - lo,by omega,rfl,_,_,_,lo,m,rfl,by omega,by omega,h1,fun j x hj hx hh=>?_⟩)
    rcases Nat.lt_or_ge m j with hjm | hjm
    ·exact hlt (a4h (ord m j c x hjm hc hx) hh)
    ·have:j=m:=by omega
     subst this
     rw [hc] at hx
     injection hx with hx
     rw [← hx] at hh
     exact hlt hh
  ·intro h0
   have h0:¬ lo<hi:=by
    have:¬ (lo:Int)<(hi:Int):=by simpa using h0
    omega
   have:lo=hi:=by omega
   exact .some (.inr ⟨by simp,rfl,rfl,lo,rfl,by omega,h1,fun j c hj hc=>h2 j c (by omega) hc⟩)
 ·rintro ⟨ex,ds,g⟩ ⟨rfl,rfl,i,hi,hil,h1,h2⟩
  simp only at hi
  simp only [a0m,a0l,bs,a0e,a0g,hi,a0n]
  by_cases h0:i<S.length
  ·obtain ⟨c,hc⟩:=gx_ h0
   obtain ⟨q,hq,lq⟩:=a5V hS i c hc
   have d0:decide ((i:Int)<(S.length:Int))=true:=decide_eq_true (by omega)
   simp only [d0,a1b,a2l,if_true,bs,hq,lq,a1w,List.nil_append,List.append_nil,List.cons_append,c1e c key dk g hk hkl,a0U,a0F,a2e]
   refine .some ⟨i,decide (a0Y c.k key=0),hil,rfl,?_,h1,h2⟩
   rw [decide_eq_true_iff,a1G]
   constructor
   ·intro e;exact ⟨c,hc,e⟩
   ·rintro ⟨c',hc',e⟩
    rw [hc] at hc'
    injection hc' with hc'
    rw [hc'];exact e
  ·have d0:decide ((i:Int)<(S.length:Int))=false:=decide_eq_false (by omega)
   simp only [d0,a1b,a2l,b6f,reduceCtorEq,c9I,if_false,bs,a0F,a2e]
   refine .some ⟨i,false,hil,rfl,?_,h1,h2⟩
   constructor
   ·intro e;cases e
   ·rintro ⟨c',hc',e⟩
    have:=(c9X.1 hc').1
    omega
theorem c1l (l:List Ct) (d:D) (h:Hp) (hd:SlOf 3 ctr l d) (hl:l.length≤1000000):∃ d' h',R a7R [d] h=some (d',h')∧h.length≤h'.length∧(∀ q,q<h.length→h'[q]?=h[q]?) ∧
  ((l=[]∧(d' = .nils∨d' = .sl 3 true []))∨∃ ob,h.length≤ob∧d' = .msl 3 ob 0 l.length∧h'[ob]?=some (.row a0d 3 (l.map ctr))):=by
 rw [c3h]
 have hrow:=a2q h hd
 by_cases hn:d = .nils
 ·subst hn
  have hl0:l=[]:=by
   rcases hd with ⟨_,h2⟩ | ⟨b,h2⟩
   ·simpa using h2
   ·cases h2
  subst hl0
  exact ⟨.nils,h,by
   have hne:a0j tab .eql a0h .nils .nils=some (.bool true):=id rfl
   simp [-bind_some, b6J,hne],Nat.le_refl _,fun _ _=>rfl,.inl ⟨rfl,.inl rfl⟩⟩
 ·obtain ⟨x',h',e,hl',hq,ho⟩:=a6v (T:=tab) (t:=a0h) (i:=ti1229) (j:=ti1237) (h:=h) (id rfl) (id rfl) (id rfl) (by decide) (y:=d) hrow (a2i (by have:ti1237.by_=40:=rfl;rw [this,c9N];omega) (by rw [c9N];omega))
  have e':a0p tab h a0h a0h (.sl 3 true []) d=some (x',h'):=e
  have hne:a0j tab .eql a0h d .nils=some (.bool false):=by
   rcases hd with ⟨h2,_⟩ | ⟨b,rfl⟩
   ·exact absurd h2 hn
   ·exact id rfl
  refine ⟨x',h',?_,hl',hq,?_⟩
  ·simp only [b6J,bs,hne,a0f,c9I,if_false,b4u,e',a0r]
  ·rcases ho with ⟨rfl,hn⟩ | ⟨rfl,hn⟩ | ⟨ob,h1,rfl,h2⟩
   ·have:l=[]:=by simpa using hn
    exact .inl ⟨this,.inr rfl⟩
   ·have:l=[]:=by simpa using hn
    exact .inl ⟨this,.inl rfl⟩
   ·exact .inr ⟨ob,h1,by rw [c9N];rfl,h2⟩
theorem c2r {x y:Ct} (h:a0Y y.k x.k<0):cM x y<0↔x.n<y.n:=by
 have hk:¬ a0Y x.k y.k<0:=by rw [a1Q];omega
 unfold cM a4x
 by_cases h1:x.n<y.n
 ·simp [-bind_some, h1]
 ·by_cases h2:y.n<x.n
  ·simp [-bind_some, h1,h2]
  ·simp [-bind_some, h1,h2,hk]
theorem a6w {S:List Ct} (asc:CAsc (S.map ctc)) (i j:Nat) (x y:Ct) (hij:i<j) (hx:S[i]?=some x) (hy:S[j]?=some y):a0Y x.k y.k<0:=by
 have hi:=(c9X.1 hx).1
 have hj:=(c9X.1 hy).1
 have:=List.pairwise_iff_getElem.1 asc i j (by simpa using hi) (by simpa using hj) hij
 simp only [List.getElem_map] at this
 rw [c9W hi] at hx
 rw [c9W hj] at hy
 injection hx with hx
 injection hy with hy
 rw [hx,hy] at this
 exact this
theorem b7c (n0:Nat) (h:Hp) (n:Nat) (c:Ct):∀ d∈ctr c,frz n0 h (n+1) d=d:=fun d hd=>by
 simp only [ctr,d0c,List.not_mem_nil,or_false] at hd
 rcases hd with rfl | rfl | rfl
 ·exact a4m _ _ _ c.hk
 ·exact a4e _ _ _ _ _
 ·exact a4e _ _ _ _ _
theorem b5U (n:Nat) (c:Ct):∀ d∈ctr c,Ok n d:=fun d hd=>by
 simp only [ctr,d0c,List.not_mem_nil,or_false] at hd
 rcases hd with rfl | rfl | rfl
 ·exact a4s _ c.hk
 ·exact .int _ _
 ·exact .int _ _
theorem c3Q {S:List Ct} {i:Nat} {c:Ct} (h:S[i]?=some c):(((S.map ctc)[i]?).getD ([],0,0)).2.1=c.n:=by
 rw [c9U,h];rfl
theorem c4W (S:List Ct) (d:D) (h:Hp) (hS:RdCt h S d) (hl:S.length≤1000000) (hne:0<S.length) (asc:CAsc (S.map ctc)) :
  ∃ m,S[lst (S.map ctc) S.length]?=some m∧R b0p [d,.fn (.func a7U) [] []] h=some (.agg (ctr m),h):=by
 suffices Wp (R b0p [d,.fn (.func a7U) [] []] h) (fun p=>∃ m,S[lst (S.map ctc) S.length]?=some m∧p=(.agg (ctr m),h)) by
  obtain ⟨p,h1,m,h2,rfl⟩:=this
  exact ⟨m,h2,h1⟩
 have r0:(a0K h a0d 3 [[.nils,.int .i64 0,.int .i64 0]])[h.length]?=some (.row a0d 3 [[.nils,.int .i64 0,.int .i64 0]]):=a1n _ _ _ _
 have l0:(a0K h a0d 3 [[.nils,.int .i64 0,.int .i64 0]]).length=h.length+1:=a3d _ _ _ _
 have k0:∀ q,q<h.length→(a0K h a0d 3 [[.nils,.int .i64 0,.int .i64 0]])[q]?=h[q]?:=fun q hq=>a1h _ _ _ _ hq
 have hlss:decide ((S.length:Int)<1)=false:=decide_eq_false (by omega)
 obtain ⟨c0,hc0⟩:∃ c,S[0]?=some c:=⟨_,c9W hne⟩
 -- counters are read as well where more was laid
 have rdg:∀ {g:Hp},h.length≤g.length→(∀ q,q<h.length→g[q]?=h[q]?)→RdCt g S d:=fun {g} h1 h2=>by
  rcases hS with hS | ⟨ob,tl,rfl,ho⟩
  ·exact .inl hS
  ·exact .inr ⟨ob,tl,rfl,by rw [h2 ob (c9X.1 ho).1];exact ho⟩
 rw [c3o]
 simp only [b9E,a4k hS,bs,a0n,hlss,a0f,c9I,if_false,a0l,c9H]
 generalize a0K h a0d 3 [[.nils,.int .i64 0,.int .i64 0]]=g0 at *
 have R0:=rdg (g:=g0) (by omega) k0
 obtain ⟨q0,hq0,lq0⟩:=a5V R0 0 c0 hc0
 have hq0:a0a tab a0h d (.int .i64 0)=some q0:=hq0
 have r1:(a0K g0 a0d 3 [[.nils,.int .i64 0,.int .i64 0]])[h.length+1]?=some (.row a0d 3 [[.nils,.int .i64 0,.int .i64 0]]):=by rw [← l0];exact a1n _ _ _ _
 have ln1:(a0K g0 a0d 3 [[.nils,.int .i64 0,.int .i64 0]]).length=h.length+2:=by rw [a3d,l0]
 have k1:∀ q,q<h.length+1→(a0K g0 a0d 3 [[.nils,.int .i64 0,.int .i64 0]])[q]?=g0[q]?:=fun q hq=>a1h _ _ _ _ (by omega)
 simp only [hq0,lq0,bs,l0,c9H]
 generalize a0K g0 a0d 3 [[.nils,.int .i64 0,.int .i64 0]]=g1 at *
 refine a2a (kk:=0) (off:=0) (row:=[.nils,.int .i64 0,.int .i64 0]) (v := .agg (ctr c0)) r1 (by rfl) (by rfl) (by exact Nat.le_refl _) (a1Z c0) fun g2 p2 s2=>?_
 have p2:g2[h.length+1]?=some (.row a0d 3 [ctr c0]):=p2
 try simp only [bs]
 refine Wp.loop (fun k ds g=>∃ i:Nat,∃ x y c,ds=[.int .i64 i,x,y]∧k+i=S.length∧1≤i∧S[lst (S.map ctc) i]?=some c∧lst (S.map ctc) i<i∧g[h.length+1]?=some (.row a0d 3 [ctr c])∧Same (h.length+1) g1 g)
  (fun r=>r.1 = .ext 0∧∃ c,S[lst (S.map ctc) S.length]?=some c∧r.2.2[h.length+1]?=some (.row a0d 3 [ctr c])∧Same (h.length+1) g1 r.2.2) (S.length - 1) ⟨1,_,_,c0,rfl,by omega,Nat.le_refl _,?_,?_,p2,s2⟩ ?_ ?_
 ·have:lst (S.map ctc) 1=0:=by unfold lst lst;simp [-bind_some]
  rw [this];exact hc0
 ·have:lst (S.map ctc) 1=0:=by unfold lst lst;simp [-bind_some]
  rw [this];omega
 ·rintro k ds g ⟨i,x,y,c,rfl,hk,hi1,hc,hlt,pg,sg⟩
  have Rg:=rdg (g:=g) (by have:=sg.1;omega) fun q hq=>by rw [sg.2 q (by omega),k1 q (by omega),k0 q hq]
  simp only [a9v,a0e,a0g,bs,c9H,a4k Rg,a0n]
  refine Wp.dif ?_ ?_
  ·intro h0
   have h0:i<S.length:=by
    have:(i:Int)<(S.length:Int):=by simpa using h0
    omega
   have hw:=wi_ i (by omega)
   obtain ⟨u,hu⟩:=gx_ h0
   obtain ⟨q,hq,lq⟩:=a5V Rg i u hu
   have ldc:a0c tab g a0d (.ptr (h.length+1) 0 0)=some (.agg (ctr c)):=by rw [a2K,a1r pg];rfl
   have hcm:=c2r (a6w asc _ i c u hlt hc hu)
   have hst:lst (S.map ctc) (i+1)=if u.n<c.n then i else lst (S.map ctc) i:=by
    conv=>lhs;unfold lst
    rw [c3Q hu,c3Q hc]
   simp only [hq,lq,ldc,bs,a1w,List.nil_append,List.append_nil,c4X u c g,a0n]
   by_cases hn:u.n<c.n
   ·have hd1:decide (cM u c<0)=true:=decide_eq_true (hcm.2 hn)
    simp only [hd1,a0f,if_true,hq,lq,bs,c9H]
    refine a2a (kk:=0) (off:=0) (row:=ctr c) (v := .agg (ctr u)) pg (by rfl) (by rfl) (by exact Nat.le_refl _) (a1Z u) fun g5 p5 s5=>?_
    have p5:g5[h.length+1]?=some (.row a0d 3 [ctr u]):=p5
    simp only [bs,a0x,a0l,a0q,hw]
    refine .some (.inl ⟨rfl,k - 1,by omega,i+1,_,_,u,rfl,by omega,by omega,by rw [hst,if_pos hn];exact hu,by rw [hst,if_pos hn];omega,p5,sg.trans s5⟩)
   ·have hd1:decide (cM u c<0)=false:=decide_eq_false fun hh=>hn (hcm.1 hh)
    simp only [hd1,a0f,c9I,if_false,bs,a0x,a0l,a0q,hw]
    exact .some (.inl ⟨rfl,k - 1,by omega,i+1,_,_,c,rfl,by omega,by omega,by rw [hst,if_neg hn];exact hc,by rw [hst,if_neg hn];omega,pg,sg⟩)
  ·intro h0
   have h0:i=S.length:=by
    have:¬ (i:Int)<(S.length:Int):=by simpa using h0
    omega
   subst h0
   exact .some (.inr ⟨by simp,rfl,c,hc,pg,sg⟩)
 ·rintro ⟨ex,ds,g⟩ ⟨rfl,c,hc,pg,sg⟩
  simp only at pg sg
  have ldc:a0c tab g a0d (.ptr (h.length+1) 0 0)=some (.agg (ctr c)):=by rw [a2K,a1r pg];rfl
  have r9:g[h.length]?=some (.row a0d 3 [[.nils,.int .i64 0,.int .i64 0]]):=by rw [sg.2 _ (by omega),k1 _ (by omega)];exact r0
  simp only [a0m,a0l,bs,ldc]
  refine a2a (kk:=0) (off:=0) (row:=[.nils,.int .i64 0,.int .i64 0]) (v := .agg (ctr c)) r9 (by rfl) (by rfl) (by exact Nat.le_refl _) (a1Z c) fun g9 p9 s9=>?_
  have p9:g9[h.length]?=some (.row a0d 3 [ctr c]):=p9
  have ld9:a0c tab g9 a0d (.ptr h.length 0 0)=some (.agg (ctr c)):=by rw [a2K,a1r p9];rfl
  have fk:frz h.length g9 3 c.kd=c.kd:=a4m _ _ _ c.hk
  simp only [bs,ld9,a0r]
  rw [a1s (d' := .agg (ctr c)) (by
   show D.agg [frz h.length g9 3 c.kd,_,_]=_
   rw [fk];rfl) (.agg _ fun d hd=>b5U _ c d hd) (by have:=s9.1;have:=sg.1;omega) (fun q hq=>by rw [s9.2 q (by omega),sg.2 q (by omega),k1 q (by omega),k0 q hq])]
  exact .some ⟨c,hc,rfl⟩
theorem kne {S:List Ct} (asc:CAsc (S.map ctc)) {i j:Nat} {x y:Ct} (hij:i≠j) (hx:S[i]?=some x) (hy:S[j]?=some y):¬ a0Y x.k y.k=0:=by
 rcases Nat.lt_or_gt_of_ne hij with h | h
 ·have:=a6w asc i j x y h hx hy;omega
 ·have:=a6w asc j i y x h hy hx;rw [a1Q] at this;omega
theorem c4Z (S:List Ct) (d:D) (m:Ct) (p:Nat) (h:Hp) (hS:RdCt h S d) (hl:S.length≤1000000) (asc:CAsc (S.map ctc)) (hp:S[p]?=some m) :
  R b0s [d,.fn (.func a5d) [] [.fptr (ctr m)]] h=some (.int .i64 p,h):=by
 suffices Wp (R b0s [d,.fn (.func a5d) [] [.fptr (ctr m)]] h) (fun q=>q=(.int .i64 p,h)) by
  obtain ⟨q,h1,rfl⟩:=this
  exact h1
 have hpl:=(c9X.1 hp).1
 rw [c3s]
 simp only [b9I,a4k hS,bs,c9H]
 refine Wp.loop (fun k ds g=>g=h∧∃ i:Nat,∃ a b x y,ds=[a,b,.int .i64 i,x,y]∧k+i=S.length∧i≤p)
  (fun r=>r.1 = .ret∧r.2.2=h∧nth 0 r.2.1 = .int .i64 p) S.length ⟨rfl,0,_,_,_,_,rfl,rfl,by omega⟩ ?_ ?_
 ·rintro k ds g ⟨rfl,i,a,b,x,y,rfl,hk,hi⟩
  have hw:=wi_ i (by omega)
  obtain ⟨u,hu⟩:∃ u,S[i]?=some u:=⟨_,c9W (by omega)⟩
  obtain ⟨q,hq,lq⟩:=a5V hS i u hu
  have hlt:decide ((i:Int)<(S.length:Int))=true:=decide_eq_true (by omega)
  simp only [a9y,a0e,a0g,bs,c9H,a0n,hlt,a0f,if_true,hq,lq,a1w,List.nil_append,List.append_nil,List.cons_append,c1f u m g]
  by_cases he:i=p
  ·subst he
   rw [hp] at hu
   injection hu with hu
   subst hu
   have:decide (a0Y m.k m.k=0)=true:=decide_eq_true (a1R _)
   simp only [this,a0f,if_true]
   exact .some (.inr ⟨by simp,rfl,rfl,rfl⟩)
  ·have:decide (a0Y u.k m.k=0)=false:=decide_eq_false (kne asc he hu hp)
   simp only [this,a0f,c9I,if_false,a0q,hw,bs]
   exact .some (.inl ⟨rfl,k - 1,by omega,rfl,i+1,_,_,_,_,rfl,by omega,by omega⟩)
 ·rintro ⟨ex,ds,g⟩ ⟨rfl,rfl,hi⟩
  simp only at hi
  simp only [a3j,a3i,a2Y,bs,a0e,hi,a0r]
  exact .some rfl
theorem c6o {h:Hp} {ob L:Nat} {rows:List (List D)} (ho:h[ob]?=some (.row a0d 3 rows)) (hr:rows.length=L+1):a4U tab h a0h (.msl 3 ob L 1)=some (.tup [],h.set ob (.row a0d 3 (rows.take L++[[.nils,.int .i64 0,.int .i64 0]]))):=by
 have t1:tab a0h=some ti1229:=id rfl
 have t2:ti1229.td = .sl a0d:=id rfl
 have t3:tab a0d=some ti1237:=id rfl
 have t4:ti1237.sz=3:=id rfl
 have t5:ti1237.zero=[.nils,.int .i64 0,.int .i64 0]:=id rfl
 have hd:rows.drop (L+1)=[]:=List.drop_of_length_le (by omega)
 have b:Nat.blt 0 ti1237.sz=true:=by decide
 have hd':∀ x,a4U tab h a0h x=(match Nat.blt 0 ti1237.sz,x with
       | true,.nils=>some (.tup [],h)
       | true,.sl _ _ []=>some (.tup [],h)
       | true,.msl _ _ _ 0=>some (.tup [],h)
       | true,.msl sz o r n=>match h[o]? with
        | some (.row U z rows)=>if sz=ti1237.sz∧z=sz then some (.tup [],h.set o (.row U z (rows.take r++List.replicate n ti1237.zero++rows.drop (r+n)))) else none
        | _=>none
       | _,_=>none):=fun x=>by
  simp only [a4U,t1,t2,t3]
  rfl
 have b3:Nat.blt 0 3=true:=by decide
 rw [hd']
 simp [-bind_some, b3,ho,t4,t5,hd]
theorem c4Y (S:List Ct) (ob:Nat) (m:Ct) (p:Nat) (h:Hp) (ho:h[ob]?=some (.row a0d 3 (S.map ctr))) (hl:S.length≤1000000) (asc:CAsc (S.map ctc)) (hp:S[p]?=some m) :
  ∃ h' tl,R b0q [.msl 3 ob 0 S.length,.fn (.func a5d) [] [.fptr (ctr m)]] h=some (.msl 3 ob 0 (S.eraseIdx p).length,h')∧h'[ob]?=some (.row a0d 3 ((S.eraseIdx p).map ctr++[tl]))∧Same ob h h':=by
 suffices Wp (R b0q [.msl 3 ob 0 S.length,.fn (.func a5d) [] [.fptr (ctr m)]] h) (fun q=>q.1 = .msl 3 ob 0 (S.eraseIdx p).length∧∃ tl,q.2[ob]?=some (.row a0d 3 ((S.eraseIdx p).map ctr++[tl]))∧Same ob h q.2) by
  obtain ⟨⟨x,h'⟩,h1,rfl,tl,h2⟩:=this
  exact ⟨h',tl,h1,h2⟩
 have hpl:=(c9X.1 hp).1
 have hEl:(S.eraseIdx p).length+1=S.length:=by rw [List.length_eraseIdx,if_pos hpl];omega
 have hEp:∀ j,p<j→j<S.length→(S.eraseIdx p)[j - 1]?=S[j]?:=fun j h1 h2=>by
  rw [List.getElem?_eraseIdx,if_neg (by omega)]
  congr 1;omega
 have hEt:(S.eraseIdx p).take p=S.take p:=by
  apply List.ext_getElem?
  intro i
  rw [List.getElem?_take,List.getElem?_take]
  split
  ·rw [List.getElem?_eraseIdx,if_pos (by omega)]
  ·rfl
 generalize S.eraseIdx p=E at *
 have rdS:RdCt h S (.msl 3 ob 0 S.length) := .inr ⟨ob,[],rfl,by simpa using ho⟩
 have hne:¬ ((p:Int) = -1):=by omega
 have hw:=wi_ p (by omega)
 rw [c3q]
 simp only [b9G,c4Z S _ m p h rdS hl asc hp,bs,a0U,hne,decide_false,a0f,c9I,if_false,a0q,hw,c9H]
 refine Wp.loop (fun k ds g=>∃ j:Nat,∃ a b c,ds=[.int .i64 (j:Nat),.int .i64 ((j+1:Nat):Int),a,b,c]∧k+(j+1)=S.length∧p≤j∧g[ob]?=some (.row a0d 3 ((E.take j++S.drop j).map ctr))∧Same ob h g)
  (fun r=>r.1 = .ext 0∧nth 0 r.2.1 = .int .i64 E.length∧r.2.2[ob]?=some (.row a0d 3 ((E++S.drop E.length).map ctr))∧Same ob h r.2.2) (S.length - (p+1)) ⟨p,_,_,_,rfl,by omega,Nat.le_refl _,by rw [hEt,List.take_append_drop];exact ho,.refl _ _⟩ ?_ ?_
 ·rintro k ds g ⟨j,a,b,c,rfl,hk,hj,hg,sg⟩
  simp only [a9w,a0e,a0g,bs,c9H,a3V,a0n]
  refine Wp.dif ?_ ?_
  ·intro h0
   have h0:j+1<S.length:=by
    have:((j+1:Nat):Int)<(S.length:Int):=by simpa using h0
    omega
   obtain ⟨u,hu⟩:∃ u,S[j+1]?=some u:=⟨_,c9W h0⟩
   have w1:=wi_ j (by omega)
   have w2:IntKind.wrap .i64 (((j+1:Nat):Int)+1)=((j+1+1:Nat):Int):=by rw [wrap_i64 (by omega) (by omega)];omega
   have htl:(E.take j).length=j:=by rw [d0b];omega
   have hrow:(E.take j++S.drop j)[j+1]?=some u:=by
    rw [List.getElem?_append_right (by omega),htl,List.getElem?_drop,← hu]
    congr 1;omega
   have hrowj:((E.take j++S.drop j).map ctr)[j]?=some (((E.take j++S.drop j).map ctr)[j]'(by simp;omega)):=c9W _
   have hq:a0a tab a0h (.msl 3 ob 0 S.length) (.int .i64 ((j+1:Nat):Int))=some (.ptr ob (j+1) 0):=by rw [a3b,if_pos (by omega)];simp [-bind_some]
   have hq2:a0a tab a0h (.msl 3 ob 0 S.length) (.int .i64 (j:Int))=some (.ptr ob j 0):=by rw [a3b,if_pos (by omega)];simp [-bind_some]
   have lq:a0c tab g a0d (.ptr ob (j+1) 0)=some (.agg (ctr u)):=by rw [a2K,a1r hg,c9U,hrow];rfl
   have hdec:decide (a0Y u.k m.k=0)=false:=decide_eq_false (kne asc (by omega) hu hp)
   simp only [hq,lq,bs,b1T,ctL,a1w,List.nil_append,List.append_nil,List.cons_append,c1f u m g,hdec,a2X,c9S,a0f,if_true,hq2,c9H]
   refine a2a (kk:=j) (off:=0) (v := .agg (ctr u)) hg hrowj (by rfl) (by
    have:∀ r∈(E.take j++S.drop j).map ctr,r.length=3:=fun r hr=>by
     obtain ⟨x,_,rfl⟩:=d0e.1 hr;rfl
    rw [this _ (List.getElem_mem _)];exact Nat.le_refl _) (a1Z u) fun g5 p5 s5=>?_
   have hset:((E.take j++S.drop j).map ctr).set j (spl (((E.take j++S.drop j).map ctr)[j]'(by simp;omega)) 0 (a0u (.agg (ctr u))))=(E.take (j+1)++S.drop (j+1)).map ctr:=by
    have e1:spl (((E.take j++S.drop j).map ctr)[j]'(by simp;omega)) 0 (a0u (.agg (ctr u)))=ctr u:=by
     rw [List.getElem_map]
     generalize (E.take j++S.drop j)[j]'(by simp;omega)=v
     rfl
    have hEj:E[j]?=some u:=by
     have:=hEp (j+1) (by omega) h0
     rw [Nat.add_sub_cancel] at this
     rw [this];exact hu
    rw [e1,← List.map_set]
    congr 1
    rw [c9T,hEj]
    rw [List.set_append_right _ _ (by omega),htl,Nat.sub_self]
    have hdj:S.drop j=S[j]'(by omega)::S.drop (j+1):=List.drop_eq_getElem_cons (by omega)
    rw [hdj,List.set_cons_zero]
    simp [-bind_some]
   rw [hset] at p5
   simp only [bs,a0q,w1,a0x,a0l,a0e,w2]
   exact .some (.inl ⟨rfl,k - 1,by omega,j+1,_,_,_,rfl,by omega,by omega,p5,sg.trans s5⟩)
  ·intro h0
   have h0:j+1=S.length:=by
    have:¬ ((j+1:Nat):Int)<(S.length:Int):=by simpa using h0
    omega
   have hjE:j=E.length:=by omega
   subst hjE
   exact .some (.inr ⟨by simp,rfl,rfl,by rw [d0f] at hg;exact hg,sg⟩)
 ·rintro ⟨ex,ds,g⟩ ⟨rfl,hi,hg,sg⟩
  simp only at hi hg sg
  have hlo:a0y tab a0h true false false [.msl 3 ob 0 S.length,.int .i64 (E.length:Nat)]=some (.msl 3 ob (0+E.length) (S.length - E.length)):=c0Q (T:=tab) (t:=a0h) (i:=ti1229) (j:=ti1237) (id rfl) (id rfl) (id rfl) (id rfl) (by decide) (by omega) (Nat.zero_le _)
  have hhi:a0y tab a0h false true false [.msl 3 ob 0 S.length,.int .i64 (E.length:Nat)]=some (.msl 3 ob 0 E.length):=b3h (T:=tab) (t:=a0h) (i:=ti1229) (j:=ti1237) (id rfl) (id rfl) (id rfl) (id rfl) (by decide) (by omega)
  have e1:S.length - E.length=1:=by omega
  rw [Nat.zero_add,e1] at hlo
  have hcl:=c6o hg (L:=E.length) (by simp;omega)
  have hct:((E++S.drop E.length).map ctr).take E.length=E.map ctr:=by rw [← List.map_take,List.take_left' rfl]
  rw [hct] at hcl
  have hob:=(c9X.1 hg).1
  simp only [a0m,a0l,bs,a0e,hi,hlo,hcl,hhi,a0r]
  refine .some ⟨rfl,_,by simp [-bind_some, hob];rfl,sg.trans ⟨by simp,fun q hq=>?_⟩⟩
  rw [d0h (fun e=>hq e.symm)]
theorem a8z:∀ (S:List Cn) (x:Cn) (i:Nat),(∀ j c,j<i→S[j]?=some c→a0Y c.1 x.1<0)→(∀ j c,i≤j→S[j]?=some c→¬ a0Y c.1 x.1<0)→a8y S x=S.take i++x::S.drop i
 | [],x,i,_,_=>by simp [-bind_some, a8y]
 | y::r,x,0,_,h2=>by
  have:=h2 0 y (Nat.le_refl _) rfl
  rw [a3M,if_neg this];rfl
 | y::r,x,i+1,h1,h2=>by
  have:=h1 0 y (by omega) rfl
  rw [a3M,if_pos this,a8z r x i (fun j c hj hc=>h1 (j+1) c (by omega) hc) fun j c hj hc=>h2 (j+1) c (by omega) hc]
  rfl
theorem b7U {α:Type} {z:Nat} {f:α→List D} {l:List α} {d:D} (hd:SlOf z f l d):a1H d=some (.fptr [d]):=by
 rcases hd with ⟨rfl,_⟩ | ⟨b,rfl⟩
 ·exact b1f
 ·exact b5o _ _ _
theorem c5u {e:Nat} {h:Hp} {x:D} (hx:x.one=true):b8T e 1 h x=some (.ptr h.length 0 0,a0K h e 1 [[x]]):=by
 obtain ⟨h1,h2⟩:=a1d hx
 simp [-bind_some, b8T,h1,h2]
theorem c1c (l:List Str) (d:D) (h:Hp) (hd:SlOf 1 (fun s=>[D.str s]) l d) (hl:l.length≤1000000):∃ d',R b0m [d] h=some (d',h)∧SlOf 1 (fun s=>[D.str s]) l d':=by
 rw [c3j]
 have hrow:=a2q h hd
 by_cases hn:d = .nils
 ·subst hn
  have hl0:l=[]:=by
   rcases hd with ⟨_,h2⟩ | ⟨b,h2⟩
   ·simpa using h2
   ·cases h2
  subst hl0
  refine ⟨.nils,?_,.nils _ _⟩
  have hne:a0j tab .eql a0E .nils .nils=some (.bool true):=id rfl
  simp only [b6M,hne,bs,a0f,if_true,a0r]
  exact a1s rfl .nils (Nat.le_refl _) fun _ _=>rfl
 ·obtain ⟨x',h',e,hl',hq,ho⟩:=a6v (T:=tab) (t:=a0E) (i:=b8q) (j:=ti9) (h:=h) (id rfl) (id rfl) (id rfl) (by decide) (y:=d) hrow (a2i (by have:ti9.by_=16:=rfl;rw [this,c9N];omega) (by rw [c9N];omega))
  have e':a0p tab h a0E a0E (.sl 1 true []) d=some (x',h'):=e
  have hne:a0j tab .eql a0E d .nils=some (.bool false):=by
   rcases hd with ⟨h2,_⟩ | ⟨b,rfl⟩
   ·exact absurd h2 hn
   ·exact id rfl
  have hs4:SlOf 1 (fun s=>[D.str s]) l (frz h.length h' 4 x'):=by
   rcases ho with ⟨rfl,hn⟩ | ⟨rfl,hn⟩ | ⟨ob,h1,rfl,h2⟩
   ·have:l=[]:=by simpa using hn
    subst this
    exact .inr ⟨true,rfl⟩
   ·have:l=[]:=by simpa using hn
    subst this
    exact .nils _ _
   ·exact a2f (n:=3) (.inr ⟨ob,h1,by rw [c9N];rfl,h2⟩) (Nat.le_refl _) fun a _ y hy=>by simp at hy;subst hy;exact a4f _ _ _ _
  refine ⟨_,?_,hs4⟩
  simp only [b6M,bs,hne,a0f,c9I,if_false,b9X,e',a0r]
  exact a1s rfl (a4s _ hs4) hl' hq
theorem c1d (S:List Ct) (x:D) (o:Nat) (key:List Str) (dk:D) (g:Hp) (hg:g[o]?=some (.row a0h 1 [[x]])) (hS:RdCt g S x) (hk:SlOf 1 (fun s=>[D.str s]) key dk) (hkl:key.length≤1000000) (hl:S.length≤1000000) (asc:CAsc (S.map ctc)) :
  ∃ (i:Nat) (b:Bool),i≤S.length∧R b2x [.ptr o 0 0,.fptr [dk]] g=some (.tup [.int .i64 i,.bool b],g)∧(b=true↔∃ c,S[i]?=some c∧c.k=key)∧(∀ j c,j<i→S[j]?=some c→a0Y c.k key<0)∧(∀ j c,i≤j→S[j]?=some c→¬ a0Y c.k key<0):=by
 obtain ⟨i,b,h1,e,h2⟩:=c4V S x key dk g hS hk hkl hl asc
 refine ⟨i,b,h1,?_,h2⟩
 have ld:a0c tab g a0h (.ptr o 0 0)=some x:=by rw [a8M,a1r hg];rfl
 rw [c3l]
 simp only [b9B,ld,c5W,bs,e,a1c,c9K,c9L,a2e]
def LvC (g:Hp) (n0:Nat) (S:List Ct) (x:D):Prop:=(S=[]∧(x = .nils∨x = .sl 3 true []))∨∃ ob tl,n0≤ob∧x = .msl 3 ob 0 S.length∧g[ob]?=some (.row a0d 3 (S.map ctr++tl))
theorem LvC.rdc {g:Hp} {n0:Nat} {S:List Ct} {x:D} (h:LvC g n0 S x):RdCt g S x:=by
 rcases h with ⟨rfl,rfl | rfl⟩ | ⟨ob,tl,_,h1,h2⟩
 ·exact .inl (.nils _ _)
 ·exact .inl (.inr ⟨true,rfl⟩)
 ·exact .inr ⟨ob,tl,h1,h2⟩
theorem LvC.one {g:Hp} {n0:Nat} {S:List Ct} {x:D} (h:LvC g n0 S x):x.one=true:=by
 rcases h with ⟨_,rfl | rfl⟩ | ⟨ob,tl,_,rfl,_⟩ <;> rfl
theorem LvC.keep {g g':Hp} {n0:Nat} {S:List Ct} {x:D} (h:LvC g n0 S x) (hk:∀ q,n0≤q→q<g.length→g'[q]?=g[q]?):LvC g' n0 S x:=by
 rcases h with h | ⟨ob,tl,h0,h1,h2⟩
 ·exact .inl h
 ·exact .inr ⟨ob,tl,h0,h1,by rw [hk ob h0 (c9X.1 h2).1];exact h2⟩
theorem c5V {g:Hp} {n0:Nat} {S:List Ct} {x:D} (hx:LvC g n0 S x) (hn:n0≤g.length) (hl:S.length≤1000000) (i:Nat) (hi:i≤S.length) (c:Ct) :
  ∃ x' g',R a5e [x,.int .i64 i,.sl 3 true [ctr c]] g=some (x',g')∧Own g' n0 a0d 3 ((S.take i++c::S.drop i).map ctr) x'∧g.length≤g'.length∧∀ q,q<n0→g'[q]?=g[q]?:=by
 have hz:ti1237.sz=3:=id rfl
 have hby:ti1237.by_=40:=id rfl
 have hlim:lim (S.length+1) ti1237.by_=true:=a2i (by rw [hby];omega) (by omega)
 rcases hx with ⟨rfl,hx⟩ | ⟨ob,tl,hob,rfl,ho⟩
 ·have hi0:i=0:=by simpa using hi
  subst hi0
  have hlim1:lim 1 ti1237.by_=true:=hlim
  have e:R a5e [x,.int .i64 ((0:Nat):Int),.sl 3 true [ctr c]] g=some (.msl 3 g.length 0 1,a0K g a0d 3 [ctr c]):=by
   rw [a7k]
   rcases hx with rfl | rfl <;> simp [-bind_some, a8A,b1W,hz,hlim1]
  exact ⟨_,_,e,.inr ⟨g.length,hn,rfl,a1n _ _ _ _⟩,by rw [a3d];omega,fun q hq=>a1h _ _ _ _ (by omega)⟩
 ·have hlt:=(c9X.1 ho).1
  have hkn:(i:Int)≤(S.length:Int):=by omega
  have hrows:(S.map ctr).take i++ctr c::(S.map ctr).drop i=(S.take i++c::S.drop i).map ctr:=by simp
  have hlen:(S.take i++c::S.drop i).length=S.length+1:=by simp;omega
  cases tl with
  | nil =>
   rw [List.append_nil] at ho
   have e:R a5e [.msl 3 ob 0 S.length,.int .i64 i,.sl 3 true [ctr c]] g=some (.msl 3 g.length 0 (S.length+1),a0K (g.set ob .dead) a0d 3 ((S.map ctr).take i++ctr c::(S.map ctr).drop i)):=by
    rw [a7k]
    simp [-bind_some, a8A,b1W,ho,hz,hlim,hkn]
   rw [hrows] at e
   refine ⟨_,_,e,.inr ⟨g.length,hn,by rw [c9N,hlen],?_⟩,by rw [a3d];simp [-bind_some],fun q hq=>?_⟩
   ·have:=a1n (g.set ob .dead) a0d 3 ((S.take i++c::S.drop i).map ctr)
    rw [List.length_set] at this
    exact this
   ·rw [a1h _ _ _ _ (by simp;omega),d0h (by omega)]
  | cons t r =>
   have hn1:S.length<(S.map ctr++t::r).length:=by simp
   have htk:(S.map ctr++t::r).take S.length=S.map ctr:=by rw [List.take_left' (by simp)]
   have hg1:(a0K (g.set ob .dead) a0d 3 (S.map ctr))[g.length]?=some (.row a0d 3 (S.map ctr)):=by
    have:=a1n (g.set ob .dead) a0d 3 (S.map ctr)
    rw [List.length_set] at this
    exact this
   have hl1:(a0K (g.set ob .dead) a0d 3 (S.map ctr)).length=g.length+1:=by rw [a3d];simp [-bind_some]
   have hl9:∀ q,q<g.length→q≠ob→(a0K (g.set ob .dead) a0d 3 (S.map ctr))[q]?=g[q]?:=fun q hq hne=>by
    rw [a1h _ _ _ _ (by simp;omega),d0h (fun e=>hne e.symm)]
   have e:R a5e [.msl 3 ob 0 S.length,.int .i64 i,.sl 3 true [ctr c]] g=b1W a0d ti1237 [.msl 3 g.length 0 S.length,.int .i64 i,.sl 3 true [ctr c]] (a0K (g.set ob .dead) a0d 3 (S.map ctr)):=by
    rw [a7k]
    simp only [a8A,ho,hn1,and_self,if_true,htk]
   generalize a0K (g.set ob .dead) a0d 3 (S.map ctr)=G at *
   have e2:b1W a0d ti1237 [.msl 3 g.length 0 S.length,.int .i64 i,.sl 3 true [ctr c]] G=some (.msl 3 G.length 0 (S.length+1),a0K (G.set g.length .dead) a0d 3 ((S.map ctr).take i++ctr c::(S.map ctr).drop i)):=by
    simp [-bind_some, b1W,hg1,hz,hlim,hkn]
   rw [e2,hl1] at e
   rw [hrows] at e
   refine ⟨_,_,e,.inr ⟨g.length+1,by omega,by rw [c9N,hlen],?_⟩,by rw [a3d,List.length_set,hl1];omega,fun q hq=>?_⟩
   ·have:=a1n (G.set g.length .dead) a0d 3 ((S.take i++c::S.drop i).map ctr)
    rw [List.length_set,hl1] at this
    exact this
   ·rw [a1h _ _ _ _ (by rw [List.length_set,hl1];omega),d0h (by omega)]
    exact hl9 q (by omega) (by omega)
theorem b7G {S:List Ct} (asc:CAsc (S.map ctc)) {key:List Str} {i:Nat} {b:Bool} (hb:b=true↔∃ c,S[i]?=some c∧c.k=key) (h1:∀ j c,j<i→S[j]?=some c→a0Y c.k key<0) (h2:∀ j c,i≤j→S[j]?=some c→¬ a0Y c.k key<0):b=true↔key∈(S.map ctc).map (·.1):=by
 have hk:(S.map ctc).map (·.1)=S.map Ct.k:=by rw [List.map_map];rfl
 rw [hb,hk]
 constructor
 ·rintro ⟨c,hc,rfl⟩
  exact d0e.2 ⟨c,c9V hc,rfl⟩
 ·intro h
  obtain ⟨c,hc,e⟩:=d0e.1 h
  obtain ⟨j,hj⟩:=List.mem_iff_getElem?.1 hc
  refine ⟨c,?_,e⟩
  rcases Nat.lt_trichotomy j i with h3 | h3 | h3
  ·have:=h1 j c h3 hj
   rw [e,a1R] at this;omega
  ·rw [← h3];exact hj
  ·have hil:=(c9X.1 hj).1
   obtain ⟨u,hu⟩:∃ u,S[i]?=some u:=⟨_,c9W (by omega)⟩
   have h4:=a6w asc i j u c h3 hu hj
   rw [e] at h4
   exact absurd h4 (h2 i u (Nat.le_refl _) hu)
theorem b6Y {S:List Ct} (asc:CAsc (S.map ctc)) {i:Nat} {c:Ct} (hc:S[i]?=some c) (c':Ct) (hk:c'.k=c.k) (w:Int) (hn:c'.n=c.n+w) (he:c'.e=c.e):(S.set i c').map ctc=a6y (S.map ctc) c.k w:=by
 apply List.ext_getElem?
 intro j
 unfold a6y
 rw [List.map_map,c9U,c9U,List.getElem?_set]
 by_cases h:i=j
 ·subst h
  have:=(c9X.1 hc).1
  rw [if_pos rfl,if_pos this,hc]
  show some (ctc c')=some (if (ctc c).1=c.k then _ else _)
  rw [if_pos (show (ctc c).1=c.k from rfl)]
  show some (c'.k,c'.n,c'.e)=some (c.k,c.n+w,c.e)
  rw [hk,hn,he]
 ·rw [if_neg h]
  cases hj:S[j]? with
  | none=>rfl
  | some u =>
   show some (ctc u)=some (if (ctc u).1=c.k then _ else _)
   rw [if_neg]
   intro e
   exact kne asc h hc hj ((a1G _ _).2 e.symm)
theorem a8f {α β:Type} (f:α→β):∀ (l:List α) (i:Nat),(l.eraseIdx i).map f=(l.map f).eraseIdx i
 | [],_=>rfl
 | x::r,0=>rfl
 | x::r,i+1=>by simp [-bind_some, a8f f r i]
theorem c4T (S:List Ct) (d:D) (size:Int) (key:List Str) (dk:D) (w:Int) (h:Hp) (hd:SlOf 3 ctr S d) (hk:SlOf 1 (fun s=>[D.str s]) key dk) (hkl:key.length≤1000000) (hl:S.length≤100000) (asc:CAsc (S.map ctc)) (hs:1≤size)
  (hw:∀ c∈S,IntKind.wrap .i64 (c.n+w)=c.n+w) :
  ∃ (S':List Ct) (d':D),R a5c [d,.int .i64 size,dk,.int .i64 w] h=some (d',h)∧SlOf 3 ctr S' d'∧S'.map ctc=obs size (S.map ctc) key w:=by
 suffices Wp (R a5c [d,.int .i64 size,dk,.int .i64 w] h) (fun p=>p.2=h∧∃ S':List Ct,SlOf 3 ctr S' p.1∧S'.map ctc=obs size (S.map ctc) key w) by
  obtain ⟨⟨x,h'⟩,h1,rfl,S',h2⟩:=this
  exact ⟨S',x,h1,h2⟩
 have r0:(a0K h a0h 1 [[d]])[h.length]?=some (.row a0h 1 [[d]]):=a1n _ _ _ _
 have l0:(a0K h a0h 1 [[d]]).length=h.length+1:=a3d _ _ _ _
 have k0:∀ q,q<h.length→(a0K h a0h 1 [[d]])[q]?=h[q]?:=fun q hq=>a1h _ _ _ _ hq
 -- the end
 have fin:∀ (g:Hp) (x:D) (S':List Ct) {β:Type},Own g h.length a0d 3 (S'.map ctr) x→h.length≤g.length→(∀ q,q<h.length→g[q]?=h[q]?)→S'.map ctc=obs size (S.map ctc) key w→Wp (scope h g (a0i [x])) (fun p=>p.2=h∧∃ S':List Ct,SlOf 3 ctr S' p.1∧S'.map ctc=obs size (S.map ctc) key w):=fun g x S' β ow hl hb hc=>by
  have hso:=a2f (n0:=h.length) (n:=3) ow (Nat.le_refl _) (fun a _=>b7c _ g 2 a)
  rw [a0r,a1s (d':=frz h.length g 4 x) rfl (a1j hso fun a _=>b5U _ a) hl hb]
  exact .some ⟨rfl,S',hso,hc⟩
 rw [c3g]
 have ld0:a0c tab (a0K h a0h 1 [[d]]) a0h (.ptr h.length 0 0)=some d:=by rw [a8M,a1r r0];rfl
 simp only [b9y,c5u (a0T hd),b7U hk,bs,ld0,c9H]
 generalize a0K h a0h 1 [[d]]=g0 at *
 obtain ⟨x,g1,e1,l1,k1,hx⟩:=c1l S d g0 hd (by omega)
 have lv1:LvC g1 (h.length+1) S x:=by
  rcases hx with hx | ⟨ob,q1,q2,q3⟩
  ·exact .inl hx
  ·exact .inr ⟨ob,[],by omega,q2,by simpa using q3⟩
 have ox:=a1d lv1.one
 simp only [e1,bs]
 refine b3U (kk:=0) (off:=0) (row:=[d]) (v:=x) (by rw [k1 _ (by omega)];exact r0) (by rfl) (by rw [ox.1];rfl) (by simp) ox.2 fun g2 p2 s2=>?_
 rw [ox.1] at p2
 have p2:g2[h.length]?=some (.row a0h 1 [[x]]):=p2
 have len2:h.length+1≤g2.length:=by have:=s2.1;omega
 have old2:∀ q,q<h.length→g2[q]?=h[q]?:=fun q hq=>by rw [s2.2 q (by omega),k1 q (by omega),k0 q hq]
 have lv2:LvC g2 (h.length+1) S x:=lv1.keep fun q h1 _=>s2.2 q (by omega)
 obtain ⟨i,b,hi,e3,hb,hlo,hhi⟩:=c1d S x h.length key dk g2 p2 lv2.rdc hk hkl (by omega) asc
 have hmem:=b7G asc hb hlo hhi
 have ldx:∀ {g:Hp} {y:D},g[h.length]?=some (.row a0h 1 [[y]])→a0c tab g a0h (.ptr h.length 0 0)=some y:=fun {g y} hg=>by rw [a8M,a1r hg];rfl
 simp only [bs,a1w,List.nil_append,List.append_nil,List.cons_append,e3,a1c,c9K,c9L,c9H]
 cases b with
 | true =>
  obtain ⟨c,hc,hck⟩:=hb.1 rfl
  have hiS:=(c9X.1 hc).1
  rcases hx with ⟨rfl,_⟩ | ⟨ob,hob,rfl,ho⟩
  ·simp at hiS
  have ho:g2[ob]?=some (.row a0d 3 (S.map ctr)):=by rw [s2.2 _ (by omega)];exact ho
  have hix:a0a tab a0h (.msl 3 ob 0 S.length) (.int .i64 i)=some (.ptr ob i 0):=by rw [a3b,if_pos (by omega)];simp [-bind_some]
  have hrow:(S.map ctr)[i]?=some (ctr c):=by rw [c9U,hc];rfl
  have hld:a0c tab g2 ty3 (.ptr ob i (0+1))=some (.int .i64 c.n):=by rw [c8J,a1r ho,hrow];rfl
  simp only [a0f,if_true,ldx p2,bs,hix,a7K,hld,a0q,hw c (c9V hc),c9H]
  refine b8U (kk:=i) (off:=0+1) (row:=ctr c) (v := .int .i64 (c.n+w)) ho hrow (by rfl) (by simp [-bind_some, ctr]) (by rfl) fun g3 p3 s3=>?_
  obtain ⟨c',hc'⟩:∃ c':Ct,c'=⟨c.k,c.kd,c.hk,c.hkl,c.n+w,c.e⟩:=⟨_,rfl⟩
  have hset:(S.map ctr).set i (spl (ctr c) (0+1) (a0u (.int .i64 (c.n+w))))=(S.set i c').map ctr:=by
   have:spl (ctr c) (0+1) (a0u (.int .i64 (c.n+w)))=ctr c':=by rw [hc'];rfl
   rw [this,List.map_set]
  rw [hset] at p3
  have p3x:g3[h.length]?=some (.row a0h 1 [[.msl 3 ob 0 S.length]]):=by rw [s3.2 _ (by omega)];exact p2
  simp only [bs,ldx p3x]
  refine fin g3 _ (S.set i c') (β:=Unit) (.inr ⟨ob,by omega,by simp,p3⟩) (by have:=s3.1;omega) (fun q hq=>by rw [s3.2 q (by omega),old2 q hq]) ?_
  unfold obs
  rw [if_pos (hmem.1 rfl),← hck]
  exact b6Y asc hc c' (by rw [hc']) w (by rw [hc']) (by rw [hc'])
 | false =>
  have hnk:key∉(S.map ctc).map (·.1):=fun hh=>by have:=hmem.2 hh;cases this
  obtain ⟨kd,e4,hkd⟩:=c1c key dk g2 hk hkl
  obtain ⟨c0,hc0⟩:∃ c0:Ct,c0=⟨key,kd,hkd,hkl,w,0⟩:=⟨_,rfl⟩
  have hb0:a0P tab a0d [0,1] [kd,.int .i64 w]=some (.agg (ctr c0)):=by rw [hc0];exact b0P kd w (a0T hkd)
  have r5:(a0K g2 a0d 3 [[.nils,.int .i64 0,.int .i64 0]])[g2.length]?=some (.row a0d 3 [[.nils,.int .i64 0,.int .i64 0]]):=a1n _ _ _ _
  have l5:(a0K g2 a0d 3 [[.nils,.int .i64 0,.int .i64 0]]).length=g2.length+1:=a3d _ _ _ _
  have k5:∀ q,q<g2.length→(a0K g2 a0d 3 [[.nils,.int .i64 0,.int .i64 0]])[q]?=g2[q]?:=fun q hq=>a1h _ _ _ _ hq
  simp only [a0f,c9I,if_false,c5W,bs,e4,hb0,c9H]
  generalize a0K g2 a0d 3 [[.nils,.int .i64 0,.int .i64 0]]=g5 at *
  refine a2a (kk:=0) (off:=0) (row:=[.nils,.int .i64 0,.int .i64 0]) (v := .agg (ctr c0)) r5 (by rfl) (by rfl) (by exact Nat.le_refl _) (a1Z c0) fun g6 p6 s6=>?_
  have p6:g6[g2.length]?=some (.row a0d 3 [ctr c0]):=p6
  have p6x:g6[h.length]?=some (.row a0h 1 [[x]]):=by rw [s6.2 _ (by omega),k5 _ (by omega)];exact p2
  have lv6:LvC g6 (h.length+1) S x:=lv2.keep fun q h1 h2=>by rw [s6.2 q (by omega),k5 q h2]
  have old6:∀ q,q<h.length→g6[q]?=h[q]?:=fun q hq=>by rw [s6.2 q (by omega),k5 q (by omega),old2 q hq]
  have len6:g2.length+1≤g6.length:=by have:=s6.1;omega
  have hst:=a1R key
  try simp only [bs]
  simp only [ldx p6x,bs,a4k lv6.rdc,a9N]
  by_cases hroom:(S.length:Int)<size
  ·have hge:decide ((S.length:Int)≥size)=false:=decide_eq_false (by omega)
   have hc0l:a0c tab g6 a0d (.ptr g2.length 0 0)=some (.agg (ctr c0)):=by rw [a2K,a1r p6];rfl
   have hlit:a0A tab a0h 1 [0] [.agg (ctr c0)]=some (.sl 3 true [ctr c0]):=id rfl
   obtain ⟨x9,g9,e9,o9,l9,k9⟩:=c5V lv6 (by omega) (by omega) i hi c0
   simp only [hge,a1b,b6f,reduceCtorEq,c9I,c9J,if_false,bs,a0F,a0f,a0l,ldx p6x,a0e,hc0l,hlit,e9]
   refine fin g9 x9 _ (β:=Unit) (o9.from (by omega)) (by omega) (fun q hq=>by rw [k9 q (by omega),old6 q hq]) ?_
   have hcc:ctc c0=(key,w,0):=by rw [hc0];rfl
   have hat:=a8z (S.map ctc) (key,w,0) i (fun j c hj hcj=>?_) (fun j c hj hcj=>?_)
   ·unfold obs
    rw [if_neg hnk,if_pos (by rw [c9N];exact hroom),hat]
    simp [-bind_some, hcc]
   ·rw [c9U] at hcj
    cases hu:S[j]? with
    | none=>rw [hu] at hcj;cases hcj
    | some u=>rw [hu] at hcj;cases hcj;exact hlo j u hj hu
   ·rw [c9U] at hcj
    cases hu:S[j]? with
    | none=>rw [hu] at hcj;cases hcj
    | some u=>rw [hu] at hcj;cases hcj;exact hhi j u hj hu
  ·have hge:decide ((S.length:Int)≥size)=true:=decide_eq_true (by omega)
   have hgt:decide ((S.length:Int)>0)=true:=decide_eq_true (by omega)
   have hlp:0<S.length:=by omega
   rcases hx with ⟨rfl,_⟩ | ⟨ob,hob,rfl,ho⟩
   ·simp at hlp
   have ho6:g6[ob]?=some (.row a0d 3 (S.map ctr)):=by
    have:=s2.1
    have h9:=(c9X.1 ho).1
    rw [s6.2 _ (by omega),k5 _ (by omega),s2.2 _ (by omega)];exact ho
   obtain ⟨m,hm,e7⟩:=c4W S _ g6 lv6.rdc (by omega) hlp asc
   have hmn:a6Z (S.map ctc)=m.n:=by
    unfold a6Z
    rw [c9N]
    exact c3Q hm
   have hwm:=hw m (c9V hm)
   simp only [hge,hgt,a1b,if_true,bs,ldx p6x,a3V,a1m,a0F,a0f,e7,b1T,c1B,c0e,a0q,hwm,a7K,c9H]
   refine b8U (kk:=0) (off:=0+1) (row:=ctr c0) (v := .int .i64 (m.n+w)) p6 (by rfl) (by rfl) (by simp [-bind_some, ctr]) (by rfl) fun g7 p7 s7=>?_
   simp only [bs,c0e,a1l,b2k,c9H]
   refine b8U (kk:=0) (off:=0+2) (row:=[kd,.int .i64 (m.n+w),.int .i64 0]) (v := .int .i64 m.n) (by rw [hc0] at p7;exact p7) (by rfl) (by rfl) (by simp) (by rfl) fun g8 p8 s8=>?_
   obtain ⟨c1,hc1⟩:∃ c1:Ct,c1=⟨key,kd,hkd,hkl,m.n+w,m.n⟩:=⟨_,rfl⟩
   have p8:g8[g2.length]?=some (.row a0d 3 [ctr c1]):=by rw [hc1];exact p8
   have h9:=(c9X.1 ho).1
   have hs21:=s2.1
   have p8x:g8[h.length]?=some (.row a0h 1 [[.msl 3 ob 0 S.length]]):=by rw [s8.2 _ (by omega),s7.2 _ (by omega)];exact p6x
   have ho8:g8[ob]?=some (.row a0d 3 (S.map ctr)):=by rw [s8.2 _ (by omega),s7.2 _ (by omega)];exact ho6
   obtain ⟨g10,tl,e10,p10,s10⟩:=c4Y S ob m _ g8 ho8 (by omega) asc hm
   have hmp:=(c9X.1 hm).1
   have hEc:(S.eraseIdx (lst (S.map ctc) S.length)).map ctc=(S.map ctc).eraseIdx (lst (S.map ctc) S.length):=a8f ctc S _
   have hEa:CAsc ((S.eraseIdx (lst (S.map ctc) S.length)).map ctc):=by rw [hEc];exact asc.sublist (List.eraseIdx_sublist _ _)
   have hEl:(S.eraseIdx (lst (S.map ctc) S.length)).length≤S.length:=(List.eraseIdx_sublist _ _).length_le
   simp only [bs,ldx p8x,e10]
   obtain ⟨E,hE⟩:∃ E,E=S.eraseIdx (lst (S.map ctc) S.length):=⟨_,rfl⟩
   rw [← hE] at p10 hEc hEa hEl ⊢
   have p10x:g10[h.length]?=some (.row a0h 1 [[.msl 3 ob 0 S.length]]):=by rw [s10.2 _ (by omega)];exact p8x
   refine b3U (kk:=0) (off:=0) (row:=[.msl 3 ob 0 S.length]) (v := .msl 3 ob 0 E.length) p10x (by rfl) (by rfl) (by simp) (by rfl) fun g11 p11 s11=>?_
   have p11:g11[h.length]?=some (.row a0h 1 [[.msl 3 ob 0 E.length]]):=p11
   have lv11:LvC g11 (h.length+1) E (.msl 3 ob 0 E.length) := .inr ⟨ob,[tl],by omega,rfl,by rw [s11.2 _ (by omega)];exact p10⟩
   obtain ⟨i2,b2,hi2,e12,hb2,hlo2,hhi2⟩:=c1d E _ h.length key dk g11 p11 lv11.rdc hk hkl (by omega) hEa
   have p11c:g11[g2.length]?=some (.row a0d 3 [ctr c1]):=by rw [s11.2 _ (by omega),s10.2 _ (by omega)];exact p8
   have hc1l:a0c tab g11 a0d (.ptr g2.length 0 0)=some (.agg (ctr c1)):=by rw [a2K,a1r p11c];rfl
   have hlit:a0A tab a0h 1 [0] [.agg (ctr c1)]=some (.sl 3 true [ctr c1]):=id rfl
   have l7:=s7.1
   have l8:=s8.1
   have l10:=s10.1
   have l11:=s11.1
   obtain ⟨x13,g13,e13,o13,l13,k13⟩:=c5V lv11 (by omega) (by omega) i2 hi2 c1
   simp only [bs,a1w,List.nil_append,List.append_nil,List.cons_append,e12,a1c,c9K,c9L,a0l,a0e,ldx p11,hc1l,hlit,e13]
   refine fin g13 x13 _ (β:=Unit) (o13.from (by omega)) (by omega) (fun q hq=>by rw [k13 q (by omega),s11.2 q (by omega),s10.2 q (by omega),s8.2 q (by omega),s7.2 q (by omega),old6 q hq]) ?_
   have hcc:ctc c1=(key,a6Z (S.map ctc)+w,a6Z (S.map ctc)):=by rw [hc1,hmn];rfl
   have hat:=a8z (E.map ctc) (key,a6Z (S.map ctc)+w,a6Z (S.map ctc)) i2 (fun j c hj hcj=>?_) (fun j c hj hcj=>?_)
   ·unfold obs
    rw [if_neg hnk,if_neg (by rw [c9N];exact hroom),c9N,← hEc,hat]
    simp [-bind_some, hcc]
   ·rw [c9U] at hcj
    cases hu:E[j]? with
    | none=>rw [hu] at hcj;cases hcj
    | some u=>rw [hu] at hcj;cases hcj;exact hlo2 j u hj hu
   ·rw [c9U] at hcj
    cases hu:E[j]? with
    | none=>rw [hu] at hcj;cases hcj
    | some u=>rw [hu] at hcj;cases hcj;exact hhi2 j u hj hu
theorem b1K (S:List Cn) (c:Cn):a3Z (S++[c])=a3Z S+c.2.1:=by simp [-bind_some, a3Z]
theorem a2s:∀ (S:List Cn) (i:Nat),(∀ c∈S,0≤c.2.1)→0≤a3Z (S.take i)∧a3Z (S.take i)≤a3Z S
 | [],i,_=>by simp [-bind_some, a3Z]
 | x::r,0,h=>by
  have h1:=(a2s r r.length fun c hc=>h c (by simp [-bind_some, hc])).1
  rw [d0f] at h1
  have h2:=h x (by simp)
  simp only [List.take_zero,a3Z,List.map_nil,List.sum_nil,c9P,List.sum_cons] at h1 ⊢
  omega
 | x::r,i+1,h=>by
  obtain ⟨h1,h3⟩:=a2s r i fun c hc=>h c (by simp [-bind_some, hc])
  have h2:=h x (by simp)
  simp only [List.take_succ_cons,a3Z,c9P,List.sum_cons] at h1 h3 ⊢
  omega
theorem b4w {S:List Cn} (h:∀ c∈S,0≤c.2.1) {c:Cn} (hc:c∈S):c.2.1≤a3Z S:=by
 obtain ⟨i,hi⟩:=List.mem_iff_getElem?.1 hc
 have h1:=(a2s S i h).1
 have h2:=(a2s S (i+1) h).2
 rw [c9T,hi] at h2
 have:a3Z (S.take i++(some c).toList)=a3Z (S.take i)+c.2.1:=b1K _ _
 omega
theorem c5E (e:Ev) (nm:Str) (h:Hp) (h0:0≤e.a0) (h9:e.a0≤9) (hn:b1p nm):R1 a7V [.agg (evr e),.str nm] h=some (.tup [.str (b3Q e nm).1,.bool (b3Q e nm).2],h):=by
 rw [c9D]
 have h1:=s75 nm e h
 unfold evr at h1 ⊢
 unfold c0i b3Q dig
 simp only
 by_cases c1:nm=[64,104,111,115,116]
 ·rw [if_pos c1,if_pos c1,if_pos ⟨h0,h9⟩]
 ·rw [if_neg c1,if_neg c1,if_neg hn.1,if_neg hn.2.1,if_neg hn.2.2]
  by_cases c2:nm=[64,116,114,97,99,101]
  ·rw [if_pos c2,if_pos c2]
  ·rw [if_neg c2,if_neg c2]
   by_cases c3:nm=[64,115,116,114,101,97,109]
   ·rw [if_pos c3,if_pos c3]
   ·rw [if_neg c3,if_neg c3,h1]
    rfl
theorem c5D (ns:List Str) (dn:D) (e:Ev) (h:Hp) (hd:SlOf 1 (fun s=>[D.str s]) ns dn) (hl:ns.length≤1000) (h0:0≤e.a0) (h9:e.a0≤9) (hn:∀ n∈ns,b1p n):∃ d',R1 b0n [dn,.agg (evr e)] h=some (d',h)∧SlOf 1 (fun s=>[D.str s]) (a3E ns e) d':=by
 suffices Wp (R1 b0n [dn,.agg (evr e)] h) (fun p=>p.2=h∧SlOf 1 (fun s=>[D.str s]) (a3E ns e) p.1) by
  obtain ⟨⟨x,h'⟩,h1,rfl,h2⟩:=this
  exact ⟨x,h1,h2⟩
 rw [c3k]
 have hL:∀ g,a0c tab g a0R (.fptr (evr e))=some (.agg (evr e)):=fun g=>id rfl
 simp only [b9A,a1I,bs,a2c hd,c9H]
 refine Wp.loop (fun k ds g=>∃ x a b c,∃ i:Nat,ds=[x,a,b,.int .i64 (i:Int),c]∧k+i=ns.length∧Own g h.length ty9 1 ((a3E (ns.take i) e).map fun s=>[D.str s]) x∧h.length≤g.length∧(∀ q,q<h.length→g[q]?=h[q]?))
  (fun r=>r.1 = .ext 0∧∃ x,nth 0 r.2.1=x∧Own r.2.2 h.length ty9 1 ((a3E ns e).map fun s=>[D.str s]) x∧h.length≤r.2.2.length∧(∀ q,q<h.length→r.2.2[q]?=h[q]?)) ns.length
  ⟨_,_,_,_,0,rfl,rfl,Own.nils _ _ _ _,Nat.le_refl _,fun _ _=>rfl⟩ ?_ ?_
 ·rintro k ds g ⟨x,a,b,c,i,rfl,hk,ow,hlen,hq⟩
  simp only [a9t,a0e,a0g,bs,c9H,a0n]
  refine Wp.dif ?_ ?_
  ·intro hlt
   have hlt:i<ns.length:=dl_ hlt
   obtain ⟨u,hu⟩:=gx_ hlt
   have hw:=wi_ i (by omega)
   simp only [hL,a6S hd,Int.natCast_nonneg,if_true,c9Q,hu,Option.map_some,bs,a5l,c5E e u g h0 h9 (hn u (c9V hu)),a1c,c9K,c9L,a9I]
   refine b8A (n0:=h.length) hlen ow (a1e _ _ _ _) (by simp [-bind_some, a3E];omega) fun x9 g2 o2 l2 b2 _ _=>?_
   simp only [bs,a0q,hw]
   refine .some (.inl ⟨rfl,k - 1,by omega,_,_,_,_,i+1,rfl,by omega,?_,by show h.length≤g2.length;omega,fun q hq'=>by rw [b2 q hq'];exact hq q hq'⟩)
   have:(a3E (ns.take (i+1)) e).map (fun s=>[D.str s])=(a3E (ns.take i) e).map (fun s=>[D.str s])++[[D.str (b3Q e u).1]]:=by
    rw [c9T,hu];simp [-bind_some, a3E]
   rw [this];exact o2
  ·intro hge
   have hge:ns.length≤i:=by
    have:¬ (i:Int)<ns.length:=by simpa using hge
    omega
   rw [List.take_of_length_le hge] at ow
   exact .some (.inr ⟨by simp,rfl,_,rfl,ow,hlen,hq⟩)
 ·rintro ⟨ex,ds,g⟩ ⟨rfl,x,hx,ow,hlen,hq⟩
  simp only at hx ow hlen hq
  simp only [a0m,a0l,bs,a0e,hx,a0r]
  have hs:=a2f (n0:=h.length) (n:=3) ow (Nat.le_refl _) fun s _ y hy=>by simp at hy;subst hy;exact a4f _ _ _ _
  have hsc:scope h g x=some (frz h.length g 4 x,h):=a1s rfl (a4s _ hs) hlen hq
  rw [hsc]
  exact .some ⟨rfl,hs⟩
def obE (ns:List Str) (l:List Ev):List Ob1:=l.map fun e=>(a3E ns e,e.a6)
def EvW (l:List Ev):Prop:=∀ e∈l,0≤e.a0∧e.a0≤9∧b1n e.fs∧0≤e.a6∧e.a6≤5040
theorem EvW.wok {l:List Ev} (h:EvW l) (ns:List Str):WOK (obE ns l):=fun p hp=>by
 obtain ⟨e,he,rfl⟩:=d0e.1 hp
 exact (h e he).2.2.2
theorem b5T (ns:List Str) (l:List Ev):b4F ns l=a7w (obE ns l):=by
 unfold b4F a7w obE
 rw [List.foldl_map]
theorem b6z {size:Int} (hs:1≤size) {ps:List Ob1} (h:WOK ps) (hl:ps.length≤1000):CAsc (skO size ps)∧(∀ c∈skO size ps,0≤c.2.1∧c.2.1≤5040000)∧a3Z (skO size ps)=b1m ps∧a3Z (skO size ps)≤5040000∧((skO size ps).length:Int)≤size:=by
 have S:=c1g hs ps h
 have h1:=a9b h
 have hn:∀ c∈skO size ps,0≤c.2.1:=fun c hc=>by have:=(S.bd c hc).1;have:=b4m h c.1;omega
 refine ⟨S.asc,fun c hc=>⟨hn c hc,?_⟩,S.sum,by rw [S.sum];omega,S.len⟩
 have:=b4w hn hc
 rw [S.sum] at this
 omega
theorem b5w (size:Int) (ps:List Ob1) (p:Ob1):skO size (ps++[p])=obs size (skO size ps) p.1 p.2:=by simp [-bind_some, skO]
theorem c5C {ns:List Str} {dn:D} (C:CtOK ns dn) (l:List Ev) (dl:D) (size:Int) (h:Hp) (hd:SlOf 10 evr l dl) (hl:l.length≤1000) (he:EvW l) (hs:1≤size) (hs9:size≤100000) :
  ∃ (S:List Ct) (d:D),R1 a7P [.int .i64 size,dn,dl] h=some (d,h)∧SlOf 3 ctr S d∧S.map ctc=skO size (obE ns l):=by
 suffices Wp (R1 a7P [.int .i64 size,dn,dl] h) (fun p=>p.2=h∧∃ S:List Ct,SlOf 3 ctr S p.1∧S.map ctc=skO size (obE ns l)) by
  obtain ⟨⟨x,h'⟩,h1,rfl,S,h2⟩:=this
  exact ⟨S,x,h1,h2⟩
 have hL:∀ (e:Ev) g,a0c tab g a0R (.fptr (evr e))=some (.agg (evr e)):=fun e g=>id rfl
 have hB:∀ (e:Ev),a7s 10 (.agg (evr e))=some (.fptr (evr e)):=fun e=>a6x 10 _ rfl
 have hF:∀ (e:Ev),a0b tab a0R 6 (.fptr (evr e))=some (.fptr [.int .i64 e.a6,.str e.s7,.str e.s8,e.fd]):=fun e=>id rfl
 have hW:∀ (e:Ev) g,a0c tab g ty3 (.fptr [.int .i64 e.a6,.str e.s7,.str e.s8,e.fd])=some (.int .i64 e.a6):=fun e g=>id rfl
 rw [c3f]
 simp only [b9x,bs,b2S hd,c9H]
 refine Wp.loop (fun k ds g=>g=h∧∃ i:Nat,∃ x a b,∃ S:List Ct,ds=[x,a,.int .i64 i,b]∧k+i=l.length∧SlOf 3 ctr S x∧S.map ctc=skO size (obE ns (l.take i)))
  (fun r=>r.1 = .ext 0∧r.2.2=h∧∃ S:List Ct,SlOf 3 ctr S (nth 0 r.2.1)∧S.map ctc=skO size (obE ns l)) l.length ⟨rfl,0,.nils,_,_,[],rfl,rfl,.nils _ _,rfl⟩ ?_ ?_
 ·rintro k ds g ⟨rfl,i,x,a,b,S,rfl,hk,hS,hc⟩
  simp only [a9s,a0e,a0g,bs,c9H,a0n]
  refine Wp.dif ?_ ?_
  ·intro h0
   have h0:i<l.length:=by
    have:(i:Int)<(l.length:Int):=by simpa using h0
    omega
   have hw:=wi_ i (by omega)
   obtain ⟨e,hee⟩:=gx_ h0
   have hem:=he e (c9V hee)
   obtain ⟨kd,e1,hkd⟩:=c5D ns dn e g C.hd C.hl hem.1 hem.2.1 C.hn
   have hkl:(a3E ns e).length≤1000000:=by unfold a3E;rw [c9N];have:=C.hl;omega
   have hwp:WOK (obE ns (l.take i)):=EvW.wok (fun x hx=>he x (List.mem_of_mem_take hx)) ns
   have hlp:(obE ns (l.take i)).length≤1000:=by unfold obE;rw [c9N,d0b];omega
   obtain ⟨f1,f2,f3,f4,f5⟩:=b6z hs hwp hlp
   rw [← hc] at f1 f2 f5
   obtain ⟨S',d',e2,hS',hc'⟩:=c4T S x size (a3E ns e) kd e.a6 g hS hkd hkl (by rw [c9N] at f5;omega) f1 hs (fun c hcm=>by
    have:=f2 (ctc c) (d0e.2 ⟨c,hcm,rfl⟩)
    have h3:(ctc c).2.1=c.n:=rfl
    rw [h3] at this
    exact wrap_i64 (by omega) (by omega))
   simp only [b5h hd,Int.natCast_nonneg,if_true,c9Q,hee,Option.map_some,bs,hL,hB,e1,hF,hW,b8d,e2,a1l,a0q,hw]
   refine .some (.inl ⟨rfl,k - 1,by omega,rfl,i+1,_,_,_,S',rfl,by omega,hS',?_⟩)
   rw [hc',hc]
   have:obE ns (l.take (i+1))=obE ns (l.take i)++[(a3E ns e,e.a6)]:=by
    unfold obE
    rw [c9T,hee,c9O];rfl
   rw [this,b5w]
  ·intro h0
   have h0:i=l.length:=by
    have:¬ (i:Int)<(l.length:Int):=by simpa using h0
    omega
   subst h0
   rw [d0f] at hc
   exact .some (.inr ⟨by simp,rfl,rfl,S,hS,hc⟩)
 ·rintro ⟨ex,ds,g⟩ ⟨rfl,rfl,S,hS,hc⟩
  simp only at hS
  simp only [a0m,a0l,bs,a0e,a0r]
  exact .some ⟨rfl,S,hS,hc⟩
def cB (x y:Ct):Int:=if a4x y.n x.n=0 then a0Y x.k y.k else a4x y.n x.n
theorem c4U (x y:Ct) (h:Hp):R a5N [.agg (ctr x),.agg (ctr y)] h=some (.int .i64 (cB x y),h):=by
 rw [c3i]
 have hs:SlOf 1 inr [a4x y.n x.n,a0Y x.k y.k] (.sl 1 true [[.int .i64 (a4x y.n x.n)],[.int .i64 (a0Y x.k y.k)]]) := .inr ⟨true,rfl⟩
 simp only [b9z,b4G,bs,c1B,c0e,s90,c0c,c0d,b3B x.k y.k x.kd y.kd h x.hk y.hk x.hkl y.hkl,b1I,s89 _ _ h hs (by simp),c6a,a1l,a0r]
 rfl
theorem c2o:a6b (.fn (.func a5N) [] []) cB:=fun x y g=>by rw [a1w];exact c4U x y g
def bS (x y:Ct):Prop:=¬ cB y x<0
theorem b9Y (x y:Ct):cB x y<0↔(y.n<x.n∨(x.n=y.n∧a0Y x.k y.k<0)):=by
 unfold cB
 by_cases h:a4x y.n x.n=0
 ·rw [if_pos h]
  rw [a3O] at h
  constructor
  ·intro h2;exact .inr ⟨h.symm,h2⟩
  ·rintro (h2 | ⟨_,h2⟩)
   ·omega
   ·exact h2
 ·rw [if_neg h,b1Q]
  rw [a3O] at h
  constructor
  ·intro h2;exact .inl h2
  ·rintro (h2 | ⟨h2,_⟩)
   ·exact h2
   ·exact absurd h2.symm h
theorem b5S (x y:Ct):bS x y↔(y.n<x.n∨(x.n=y.n∧a0Y x.k y.k≤0)):=by
 unfold bS
 rw [b9Y,a1Q]
 omega
theorem c2l:SOrd cB bS (fun _ _=>True) where
 tr:=fun x y z h k=>by
  rw [b5S] at *
  rcases h with h | ⟨h,h2⟩
  ·rcases k with k | ⟨k,k2⟩
   ·left;omega
   ·left;omega
  ·rcases k with k | ⟨k,k2⟩
   ·left;omega
   ·right;exact ⟨by omega,b6i h2 k2⟩
 lt:=fun x y _ h=>by
  unfold bS
  rw [b9Y] at *
  have:=a1Q x.k y.k
  omega
 ge:=fun x y _ h=>h
abbrev RC:=List Str × List Int × Int
def a2U (c:Ct):RC:=(c.k,[c.n],c.e)
def rT (a b:RC):Prop:=b.2.1.head?.getD 0<a.2.1.head?.getD 0∨(a.2.1.head?.getD 0=b.2.1.head?.getD 0∧a0Y a.1 b.1≤0)
theorem c8O {x y:Ct} (h:bS x y):rT (a2U x) (a2U y):=(b5S x y).1 h
theorem c8P {x y:Rw} (h:rS x y):rT (a2n x) (a2n y):=(b0G x y).1 h
theorem b8f {a b:RC} (h:rT a b) (k:rT b a):a.1=b.1:=by
 unfold rT at h k
 rw [a1Q] at k
 rw [← a1G]
 omega
theorem b3u:∀ {C E:List RC},C.Pairwise rT→E.Pairwise rT→C.Perm E→(C.map (·.1)).Nodup→C=E
 | [],E,_,_,hp,_=>by rw [List.nil_perm.1 hp]
 | x::C,[],_,_,hp,_=>by cases List.perm_nil.1 hp
 | x::C,y::E,hC,hE,hp,hn=>by
  rw [List.pairwise_cons] at hC hE
  rw [c9P,List.nodup_cons] at hn
  have hxy:x=y:=by
   apply Classical.byContradiction
   intro hne
   have hx:x∈E:=by
    have:x∈y::E:=hp.mem_iff.1 (by simp)
    rcases d0c.1 this with h | h
    ·exact absurd h hne
    ·exact h
   have hy:y∈C:=by
    have:y∈x::C:=hp.mem_iff.2 (by simp)
    rcases d0c.1 this with h | h
    ·exact absurd h.symm hne
    ·exact h
   have:=b8f (hC.1 y hy) (hE.1 x hx)
   exact hn.1 (by rw [this];exact d0e.2 ⟨y,hy,rfl⟩)
  subst hxy
  rw [b3u hC.2 hE.2 ((List.perm_cons x).1 hp) hn.2]
theorem c5r {cmp:D} (hcmp:a6b cmp cB) {o N:Nat} (hN:N≤1000000000) {g:Hp} {l:List Ct} (hl:l.length=N) (ho:g[o]?=some (.row a0d 3 (l.map ctr))) :
  ∃ d g',∃ C:List Ct,R a7S [.msl 3 o 0 N,cmp] g=some (d,g')∧C.Perm l∧C.Pairwise bS∧g'[o]?=some (.row a0d 3 (C.map ctr))∧Same o g g':=by
 obtain ⟨⟨d,g'⟩,e,C,q1,q2,q3,q4⟩:=c5s c2l hcmp hN hl (List.pairwise_of_forall fun _ _=>trivial) ho
 refine ⟨a0i [],g',C,?_,q1,q2,q3,q4⟩
 rw [c0o]
 simp only [b6K,bs,a3V,e]
theorem c1b (d cmp:D) (h:Hp) (hd:SlOf 3 ctr [] d):∃ x,R a7S [d,cmp] h=some (x,h):=by
 have hl:a0w tab a0h d=some (.int .i64 0):=a6V hd
 have h65:∃ x,R a5f [d,.int .i64 0,.int .i64 0,cmp] h=some (x,h):=by
  rw [c0r]
  refine ⟨a0i [],?_⟩
  simp only [b6O,bs,c9H,a0q,show IntKind.wrap .i64 ((0:Int)+1)=1 from rfl]
  rw [a1i]
  simp [-bind_some, a6p]
 obtain ⟨x,h65⟩:=h65
 have h63:∃ x,R b0r [d,.int .i64 0,cmp] h=some (x,h):=by
  rw [c0q]
  refine ⟨a0i [],?_⟩
  simp only [b6N,bs,c9H]
  rw [a1i]
  have h20:¬ (20:Int)≤0:=by omega
  have h21:¬ (20:Int)<0:=by omega
  simp only [a6n,a0e,a0g,bs,a2t,h20,decide_false,a0f,c9I,if_false,a0m,a0l,h65]
  rw [a1i]
  simp only [a6o,a0e,a0g,bs,a0n,h21,decide_false,a0f,c9I,if_false,a0m,a1F]
 obtain ⟨y,h63⟩:=h63
 refine ⟨a0i [],?_⟩
 rw [c0o]
 simp only [b6K,bs,hl,h63]
theorem RdCt.keep {h h':Hp} {l:List Ct} {d:D} (hd:RdCt h l d) (hq:∀ q,q<h.length→h'[q]?=h[q]?):RdCt h' l d:=by
 rcases hd with hd | ⟨ob,tl,rfl,ho⟩
 ·exact .inl hd
 ·exact .inr ⟨ob,tl,rfl,by rw [hq ob (c9X.1 ho).1];exact ho⟩
end Go.Proofs.YtehgglgadbmecaaGreatDoor

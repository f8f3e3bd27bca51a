/- Laws, on plain data, about functions that the statement reaches. -/
import Derived.Test.YtjmndhbabkjebaaGreatDoorL2
set_option linter.unusedSimpArgs false
set_option linter.unusedVariables false
set_option linter.unnecessarySimpa false
set_option maxRecDepth 100000
namespace Go.Proofs.YtjmndhbabkjebaaGreatDoor
open Go.Eng Go.Pi
open Option (bind_some)
theorem c2P {i:It} (h:ItR i) (hb:(a1r i).length≤20000) (r:List Int):a5N 0 (a2N i++r)=(0,((a2N i).length:Int),a1m i)∧a1X (((a2N i++r).take (num ((a2N i++r).take 4)).toNat).drop 4,false)=a1m i:=by
 have hw:IntKind.wrap .u64 (((a1r i).length:Int)+4)=((a1r i).length:Int)+4:=a1w (by omega) (by omega)
 obtain ⟨P,hP⟩:∃ P,P=a3B 4 (IntKind.wrap .u64 (((a1r i).length:Int)+4)):=⟨_,rfl⟩
 obtain ⟨C,hC⟩:∃ C,C=a3B 4 (a2t (a5y i)):=⟨_,rfl⟩
 have hPl:P.length=4:=by rw [hP,a1b]
 have hCl:C.length=4:=by rw [hC,a1b]
 have hH:a5y i=P++a1r i:=by rw [hP];rfl
 have hHl:(a5y i).length=(a1r i).length+4:=by rw [hH,d7h];omega
 have hE:a2N i++r=a5y i++(C++r):=by rw [hC];simp [-bind_some, a2N]
 have hE2:a2N i++r=P++(a1r i++(C++r)):=by rw [hE,hH];simp [-bind_some]
 have hnP:num P=(((a1r i).length+4:Nat):Int):=by rw [hP,hw,a5r 4 _ (by omega),a6E];omega
 have hcr:=a3A (a5y i)
 have hnC:num C=a2t (a5y i):=by rw [hC,a5r 4 _ hcr.1,a6E];omega
 have t4:(a2N i++r).take 4=P:=by rw [hE2];exact List.take_left' hPl
 have tn:(a2N i++r).take ((a1r i).length+4)=a5y i:=by rw [hE];exact List.take_left' hHl
 have dn:(a2N i++r).drop ((a1r i).length+4)=C++r:=by rw [hE];exact List.drop_left' hHl
 have tc:(C++r).take 4=C:=List.take_left' hCl
 have d4:(a5y i).drop 4=a1r i:=by rw [hH];exact List.drop_left' hPl
 obtain ⟨v1,v2⟩:=c1i h []
 rw [List.append_nil] at v1 v2
 have hEl:(a2N i++r).length=(a1r i).length+8+r.length:=by rw [d7h,a3y]
 refine ⟨?_,by rw [t4,hnP,d7l,tn,d4];exact v1⟩
 unfold a5N
 rw [if_neg (by omega),t4,hnP,if_neg (by omega),d7l,tn,dn,tc,hnC,if_neg (by simp),d4,v1,v2,if_neg (by simp),a3y]
 have e:4+(((a1r i).length+4:Nat):Int)=(((a1r i).length+8:Nat):Int):=by omega
 rw [e]
theorem b0u:∀ (ls:List Lin) (a b:Int),mch a ls b→0≤a→b≤1000000→∀ l∈ls,LnR l∧l.txt.length≤200
 | [],a,b,_,_,_,l,hl=>by cases hl
 | x::r,a,b,h,h0,h1,l,hl=>by
  obtain ⟨g1,g2,g3,g4,g5⟩:=h
  have hle:=a5G r _ _ g5
  rcases d7x.1 hl with rfl | hl
  ·exact ⟨⟨by unfold I64;omega,by unfold I64;omega,by omega⟩,g4⟩
  ·exact b0u r _ _ g5 (by omega) (by omega) l hl
theorem d1S {i:It} (h:ItK i):ItR i∧(a1r i).length≤20000:=by
 have l3:=h.l3
 have f4:=h.fs
 obtain ⟨ch,a0,a9,l1⟩:=h.ch
 have hle:=a5G _ _ _ ch
 have tx:=b0u _ _ _ ch a0 (by omega)
 have hh:i.r.length≤32∧i.e.s7.length≤32∧i.e.s8.length≤32∧I64 i.e.a0∧I64 i.e.a1∧I64 i.e.a5∧I64 i.e.a6∧∀ p∈i.e.fs,p.1.length≤1000∧p.2.length≤1000:=by
  rcases h with ⟨hr,g⟩ | g
  ·have h1:=g.h0;have h2:=g.h2;have h3:=g.f0;have h4:=g.f2;have h5:=g.t0;have h6:=g.t9
   have hw:=(show ∀ s∈lt82_14,(-10000:Int)≤s∧s≤10000 by decide) _ g.wt
   refine ⟨by rw [hr];simp [-bind_some],(show ∀ s∈lt98_15,s.length≤32 by decide) _ g.tr,(show ∀ s∈lt98_16,s.length≤32 by decide) _ g.st,by unfold I64;omega,by unfold I64;omega,by unfold I64;omega,by unfold I64;omega,fun p hp=>⟨?_,(show ∀ s∈lt98_18,s.length≤1000 by decide) _ (g.fs.2 p hp)⟩⟩
   exact (show ∀ s∈lt98_17,s.length≤1000 by decide) _ (g.fs.1.subset (d7z.2 ⟨p,hp,rfl⟩))
  ·have h1:=g.h0;have h2:=g.h2;have h3:=g.f0;have h4:=g.f2;have h5:=g.t0;have h6:=g.w0
   exact ⟨(show ∀ s∈lt98_35,s.length≤32 by decide) _ g.r,by rw [g.tr];simp [-bind_some],by rw [g.st];simp [-bind_some],by unfold I64;omega,by unfold I64;omega,by unfold I64;omega,by unfold I64;omega,fun p hp=>by rw [g.fs] at hp;cases hp⟩
 obtain ⟨r1,r2,r3,r4,r5,r6,r7,r8⟩:=hh
 refine ⟨⟨by omega,r4,r5,by unfold I64;omega,by unfold I64;omega,by omega,fun l hl=>(tx l hl).1,r6,r7,by omega,by omega,by omega,fun p hp=>by have:=r8 p hp;omega⟩,?_⟩
 have h1:=a2E lnB 220 i.e.ls (fun l hl=>by
  have:=(tx l hl).2
  simp only [lnB,d7h,a1k,a1z];omega)
 have h2:(i.e.fs.map fdB).flatten.length≤i.e.fs.length*2008:=a2E fdB 2008 i.e.fs (fun p hp=>by
  have:=r8 p hp
  simp only [fdB,d7h,a1z];omega)
 have h8:(i.e.fs.length*2008:Nat)≤4*2008:=Nat.mul_le_mul_right _ f4
 have h9:(i.e.ls.length*220:Nat)≤3*220:=Nat.mul_le_mul_right _ l3
 simp only [a1r,a4k,a3o,d7h,a1k,a1z,a1G]
 omega
theorem a4w {α:Type} (A B:List α) (x y:α) (n:Nat) (hn:A.length=n):(A++x::B).set n y=A++y::B:=by
 subst hn
 rw [List.set_append_right _ _ (Nat.le_refl _)]
 simp [-bind_some]
theorem a2j {α:Type} (A B:List α) (x:α) (n:Nat) (hn:A.length=n):(A++x::B)[n]?=some x:=by
 subst hn
 simp [-bind_some]
theorem b6l {g:Hp} {o n:Nat} {rows:List (Str × Str)} {p:Str × Str} (ho:g[o]?=some (.row a0x 2 (rows.map fld))) (hp:rows[n]?=some p):a0b tab g a0x (.ptr o n 0)=some (.agg (fld p)):=by
 have hr:(rows.map fld)[n]?=some (fld p):=by rw [d7p,hp];rfl
 rw [b4A,a0I ho,hr]
 rfl
theorem c4A {g:Hp} {o N:Nat} {P X M Y Q:List (Str × Str)} (hN:N≤1000000000) (hlen:(P++X++M++Y++Q).length=N) (hxy:X.length=Y.length) (ho:g[o]?=some (.row a0x 2 ((P++X++M++Y++Q).map fld))) (cmp:D) (a b k:Int) (ha:a=P.length) (hb:b=(P.length+X.length+M.length:Nat)) (hk:k=X.length) {β:Type} {f:D × Hp→Option β} {R1:β→Prop}
  (K:∀ g',g'[o]?=some (.row a0x 2 ((P++Y++M++X++Q).map fld))→Same o g g'→Wp (f (a0k [],g')) R1):Wp ((R b1m [.msl 2 o 0 N,.int .i64 a,.int .i64 b,.int .i64 k,cmp] g).bind f) R1:=by
 subst ha hb hk
 rw [d0g]
 simp only [c5s,bs,d7c]
 simp only [d7h] at hlen
 refine Wp.loop (fun kk ds g'=>∃ x,∃ i:Nat,ds=[.int .i64 i,x]∧kk+i=X.length∧Same o g g'∧g'[o]?=some (.row a0x 2 ((P++Y.take i++X.drop i++M++X.take i++Y.drop i++Q).map fld)))
  (fun r=>r.1 = .ext 0∧(∃ x y,r.2.1=[x,y])∧Same o g r.2.2∧r.2.2[o]?=some (.row a0x 2 ((P++Y++M++X++Q).map fld))) X.length ⟨_,0,rfl,rfl,⟨rfl,fun _ _=>rfl⟩,by simpa using ho⟩ ?_ ?_
 ·rintro kk ds g' ⟨x1,i,rfl,hk,sm,ho'⟩
  simp only [b3g,a0g,a0q,bs,d7c,a0n]
  refine Wp.dif ?_ ?_
  ·intro h0
   have h0:i<X.length:=dl_ h0
   obtain ⟨x,hx⟩:=gx_ h0
   obtain ⟨y,hy⟩:∃ y,Y[i]?=some y:=⟨_,d7r (by omega)⟩
   have hdx:X.drop i=x::X.drop (i+1):=by
    obtain ⟨hn,hh⟩:=d7s.1 hx
    rw [List.drop_eq_getElem_cons hn,hh]
   have hdy:Y.drop i=y::Y.drop (i+1):=by
    obtain ⟨hn,hh⟩:=d7s.1 hy
    rw [List.drop_eq_getElem_cons hn,hh]
   have hw:=wi_ i (by omega)
   have wa:IntKind.wrap .i64 ((P.length:Int)+i)=((P.length+i:Nat):Int):=by
    rw [wrap_i64 (by omega) (by omega)];omega
   have wb:IntKind.wrap .i64 (((P.length+X.length+M.length:Nat):Int)+i)=((P.length+X.length+M.length+i:Nat):Int):=by
    rw [wrap_i64 (by omega) (by omega)];omega
   have e1:P++Y.take i++X.drop i++M++X.take i++Y.drop i++Q=(P++Y.take i)++x::(X.drop (i+1)++M++X.take i++y::(Y.drop (i+1)++Q)):=by rw [hdx,hdy];simp [-bind_some]
   have e2:(P++Y.take i)++x::(X.drop (i+1)++M++X.take i++y::(Y.drop (i+1)++Q))=(P++Y.take i++x::(X.drop (i+1)++M++X.take i))++y::(Y.drop (i+1)++Q):=by simp
   have e3:(P++Y.take i)++y::(X.drop (i+1)++M++X.take i++y::(Y.drop (i+1)++Q))=(P++Y.take i++y::(X.drop (i+1)++M++X.take i))++y::(Y.drop (i+1)++Q):=by simp
   have e4:(P++Y.take i++y::(X.drop (i+1)++M++X.take i))++x::(Y.drop (i+1)++Q)=P++Y.take (i+1)++X.drop (i+1)++M++X.take (i+1)++Y.drop (i+1)++Q:=by
    rw [d7o,d7o,hx,hy];simp [-bind_some]
   have n1:(P++Y.take i).length=P.length+i:=by simp;omega
   have n2:∀ z,(P++Y.take i++z::(X.drop (i+1)++M++X.take i)).length=P.length+X.length+M.length+i:=fun z=>by simp;omega
   rw [e1] at ho'
   have la:=b6l ho' (a2j _ _ x _ n1)
   have lb:=b6l ho' (by rw [e2];exact a2j _ _ y _ (n2 x))
   have ia:a0c tab a1e (.msl 2 o 0 N) (.int .i64 ((P.length+i:Nat):Int))=some (.ptr o (P.length+i) 0):=by rw [a8J,if_pos (by omega),d7l,Nat.zero_add]
   have ib:a0c tab a1e (.msl 2 o 0 N) (.int .i64 ((P.length+X.length+M.length+i:Nat):Int))=some (.ptr o (P.length+X.length+M.length+i) 0):=by rw [a8J,if_pos (by omega),d7l,Nat.zero_add]
   simp only [a0t,wa,wb,ia,ib,la,lb,bs,d7c]
   have ra:(((P++Y.take i)++x::(X.drop (i+1)++M++X.take i++y::(Y.drop (i+1)++Q))).map fld)[P.length+i]?=some (fld x):=by rw [d7p,a2j _ _ x _ n1];rfl
   refine a5J (off:=0) (row:=fld x) (v := .agg (fld y)) ho' ra (by rfl) (by exact Nat.le_refl _) (by rfl) fun g1 p1 w1=>?_
   have p1:g1[o]?=some (.row a0x 2 (((P++Y.take i++y::(X.drop (i+1)++M++X.take i))++y::(Y.drop (i+1)++Q)).map fld)):=by
    rw [p1,show spl (fld x) 0 (a0B (.agg (fld y)))=fld y from rfl,← List.map_set,a4w _ _ x y _ n1,e3]
   try simp only [bs]
   have rb:(((P++Y.take i++y::(X.drop (i+1)++M++X.take i))++y::(Y.drop (i+1)++Q)).map fld)[P.length+X.length+M.length+i]?=some (fld y):=by rw [d7p,a2j _ _ y _ (n2 y)];rfl
   refine a5J (off:=0) (row:=fld y) (v := .agg (fld x)) p1 rb (by rfl) (by exact Nat.le_refl _) (by rfl) fun g2 p2 w2=>?_
   have p2:g2[o]?=some (.row a0x 2 ((P++Y.take (i+1)++X.drop (i+1)++M++X.take (i+1)++Y.drop (i+1)++Q).map fld)):=by
    rw [p2,show spl (fld y) 0 (a0B (.agg (fld x)))=fld x from rfl,← List.map_set,a4w _ _ y x _ (n2 y),e4]
   simp only [bs,hw]
   exact .some (.inl ⟨rfl,kk - 1,by omega,_,i+1,rfl,by omega,(sm.trans w1).trans w2,p2⟩)
  ·intro h0
   have h0:i=X.length:=by
    have:¬ (i:Int)<X.length:=by simpa using h0
    omega
   subst h0
   refine .some (.inr ⟨by simp,rfl,⟨_,_,rfl⟩,sm,?_⟩)
   rw [ho',hxy,d7A,List.drop_length,← hxy,d7A,List.drop_length]
   simp [-bind_some]
 ·rintro ⟨ex,ds,g'⟩ ⟨rfl,⟨x,y,rfl⟩,sm,p⟩
  simp only [a0r,a2S,bs]
  exact K g' p sm
theorem d3D {g:Hp} {o N:Nat} {P U V Q:List (Str × Str)} (hN:N≤1000000000) (hlen:(P++U++V++Q).length=N) (hU:0<U.length) (hV:0<V.length) (ho:g[o]?=some (.row a0x 2 ((P++U++V++Q).map fld))) (cmp:D) (a m b:Int) (ha:a=P.length) (hm:m=(P.length+U.length:Nat)) (hb:b=(P.length+U.length+V.length:Nat)) {β:Type} {f:D × Hp→Option β} {R1:β→Prop}
  (K:∀ g',g'[o]?=some (.row a0x 2 ((P++V++U++Q).map fld))→Same o g g'→Wp (f (a0k [],g')) R1):Wp ((R b7w [.msl 2 o 0 N,.int .i64 a,.int .i64 m,.int .i64 b,cmp] g).bind f) R1:=by
 obtain ⟨mm,hmm⟩:∃ mm:Nat,mm=P.length+U.length:=⟨_,rfl⟩
 rw [← hmm] at hm
 subst ha hm hb
 have hl:=hlen
 simp only [d7h] at hl
 have w1:IntKind.wrap .i64 ((mm:Int) - (P.length:Int))=(U.length:Int):=by rw [wrap_i64 (by omega) (by omega)];omega
 have w2:IntKind.wrap .i64 (((P.length+U.length+V.length:Nat):Int) - (mm:Int))=(V.length:Int):=by rw [wrap_i64 (by omega) (by omega)];omega
 rw [d0f]
 simp only [c5r,bs,d7c,a0D,w1,w2]
 refine Wp.loop (fun kk ds g'=>∃ x y,∃ P' U' V' Q':List (Str × Str),ds=[.int .i64 U'.length,.int .i64 V'.length,x,y]∧kk=U'.length+V'.length∧0<U'.length∧0<V'.length∧P'.length+U'.length=mm∧P'++V'++U'++Q'=P++V++U++Q∧(P'++U'++V'++Q').length=N∧Same o g g'∧g'[o]?=some (.row a0x 2 ((P'++U'++V'++Q').map fld)))
  (fun r=>r.1 = .ext 0∧∃ x y,∃ P' U' V' Q':List (Str × Str),r.2.1=[.int .i64 U'.length,.int .i64 V'.length,x,y]∧U'.length=V'.length∧P'.length+U'.length=mm∧P'++V'++U'++Q'=P++V++U++Q∧(P'++U'++V'++Q').length=N∧Same o g r.2.2∧r.2.2[o]?=some (.row a0x 2 ((P'++U'++V'++Q').map fld)))
  (U.length+V.length) ⟨_,_,P,U,V,Q,rfl,rfl,hU,hV,by omega,rfl,hlen,⟨rfl,fun _ _=>rfl⟩,ho⟩ ?_ ?_
 ·rintro kk ds g' ⟨x,y,P',U',V',Q',rfl,hk,h1,h2,h3,h4,h5,sm,ho'⟩
  have hl':=h5
  simp only [d7h] at hl'
  simp only [b3f,a0g,a0q,bs,d7c,a0w]
  refine Wp.dif ?_ ?_
  ·intro h0
   have h0:U'.length≠V'.length:=by
    have:¬ (U'.length:Int)=V'.length:=by simpa using h0
    omega
   simp only [a0u,bs]
   have wi:IntKind.wrap .i64 ((mm:Int) - (U'.length:Int))=(P'.length:Int):=by rw [wrap_i64 (by omega) (by omega)];omega
   by_cases hgt:V'.length<U'.length
   ·have hd:decide ((U'.length:Int)>(V'.length:Int))=true:=decide_eq_true (by omega)
    obtain ⟨X,M,hXM,hXl⟩:∃ X M,U'=X++M∧X.length=V'.length:=⟨U'.take V'.length,U'.drop V'.length,(List.take_append_drop _ _).symm,by simp;omega⟩
    subst hXM
    simp only [d7h] at *
    have wd:IntKind.wrap .i64 (((X.length+M.length:Nat):Int) - (V'.length:Int))=(M.length:Int):=by rw [wrap_i64 (by omega) (by omega)];omega
    simp only [hd,a0d,if_true,a0D,wi,wd,bs,d7c]
    refine c4A (P:=P') (X:=X) (M:=M) (Y:=V') (Q:=Q') hN (by simp only [d7h];omega) hXl (by simpa using ho') cmp _ _ _ rfl (by omega) (by omega) fun g1 p1 s1'=>?_
    simp only [bs,a2p,a0g,a0q]
    rw [← hXl]
    refine .some (.inl ⟨rfl,M.length+X.length,by omega,_,_,P'++V',M,X,Q',rfl,rfl,by omega,by omega,by simp only [d7h];omega,by rw [← h4];simp [-bind_some],by simp only [d7h];omega,sm.trans s1',by rw [p1]⟩)
   ·have hd:decide ((U'.length:Int)>(V'.length:Int))=false:=decide_eq_false (by omega)
    obtain ⟨M,Y,hMY,hYl⟩:∃ M Y,V'=M++Y∧Y.length=U'.length:=⟨V'.take (V'.length - U'.length),V'.drop (V'.length - U'.length),(List.take_append_drop _ _).symm,by simp;omega⟩
    subst hMY
    simp only [d7h] at *
    have we:IntKind.wrap .i64 ((mm:Int)+((M.length+Y.length:Nat):Int))=((mm+(M.length+Y.length):Nat):Int):=by rw [wrap_i64 (by omega) (by omega)];omega
    have wf':IntKind.wrap .i64 (((mm+(M.length+Y.length):Nat):Int) - (U'.length:Int))=((P'.length+U'.length+M.length:Nat):Int):=by rw [wrap_i64 (by omega) (by omega)];omega
    have wd:IntKind.wrap .i64 (((M.length+Y.length:Nat):Int) - (U'.length:Int))=(M.length:Int):=by rw [wrap_i64 (by omega) (by omega)];omega
    simp only [hd,a0d,d7d,if_false,a0D,a0t,wi,we,wf',wd,bs,d7c]
    refine c4A (P:=P') (X:=U') (M:=M) (Y:=Y) (Q:=Q') hN (by simp only [d7h];omega) hYl.symm (by simpa using ho') cmp _ _ _ rfl rfl rfl fun g1 p1 s1'=>?_
    simp only [bs,a2p,a0g,a0q]
    rw [← hYl]
    refine .some (.inl ⟨rfl,Y.length+M.length,by omega,_,_,P',Y,M,U'++Q',rfl,rfl,by omega,by omega,by omega,by rw [← h4];simp [-bind_some],by simp only [d7h];omega,sm.trans s1',by rw [p1];simp [-bind_some]⟩)
  ·intro h0
   have h0:U'.length=V'.length:=by
    have:(U'.length:Int)=V'.length:=by simpa using h0
    omega
   exact .some (.inr ⟨by simp,rfl,_,_,P',U',V',Q',rfl,h0,h3,h4,h5,sm,ho'⟩)
 ·rintro ⟨ex,ds,g'⟩ ⟨rfl,x,y,P',U',V',Q',rfl,h0,h3,h4,h5,sm,ho'⟩
  have hl':=h5
  simp only [d7h] at hl'
  have wi:IntKind.wrap .i64 ((mm:Int) - (U'.length:Int))=(P'.length:Int):=by rw [wrap_i64 (by omega) (by omega)];omega
  simp only [a0r,a0s,a0g,a0q,bs,d7c,a0D,wi]
  refine c4A (P:=P') (X:=U') (M:=[]) (Y:=V') (Q:=Q') hN (by simp only [d7h,d7u];omega) h0 (by simpa using ho') cmp _ _ _ rfl (by simp only [d7u];omega) rfl fun g1 p1 s1'=>?_
  simp only [bs]
  refine K g1 ?_ (sm.trans s1')
  rw [p1,← h4]
  simp [-bind_some]
theorem c4p {g:Hp} {o:Nat} {A B:List (Str × Str)} {x y:Str × Str} {n:Nat} (hn:A.length=n) (ho:g[o]?=some (.row a0x 2 ((A++x::y::B).map fld))) {β:Type} {f:Hp→Option β} {Q:β→Prop}
  (K:∀ g',g'[o]?=some (.row a0x 2 ((A++y::x::B).map fld))→Same o g g'→Wp (f g') Q):Wp ((a0h tab g a0x (.ptr o n 0) (.agg (fld y))).bind fun g1=>(a0h tab g1 a0x (.ptr o (n+1) 0) (.agg (fld x))).bind f) Q:=by
 have ra:((A++x::y::B).map fld)[n]?=some (fld x):=by rw [d7p,a2j _ _ x _ hn];rfl
 refine a5J (off:=0) (row:=fld x) (v := .agg (fld y)) ho ra (by rfl) (by exact Nat.le_refl _) (by rfl) fun g1 p1 w1=>?_
 have e1:A++y::y::B=(A++[y])++y::B:=by simp
 have n1:(A++[y]).length=n+1:=by simp [-bind_some, hn]
 have p1:g1[o]?=some (.row a0x 2 (((A++[y])++y::B).map fld)):=by
  rw [p1,show spl (fld x) 0 (a0B (.agg (fld y)))=fld y from rfl,← List.map_set,a4w _ _ x y _ hn,e1]
 have rb:(((A++[y])++y::B).map fld)[n+1]?=some (fld y):=by rw [d7p,a2j _ _ y _ n1];rfl
 refine a5J (off:=0) (row:=fld y) (v := .agg (fld x)) p1 rb (by rfl) (by exact Nat.le_refl _) (by rfl) fun g2 p2 w2=>?_
 refine K g2 ?_ (w1.trans w2)
 rw [p2,show spl (fld y) 0 (a0B (.agg (fld x)))=fld x from rfl,← List.map_set,a4w _ _ y x _ n1]
 simp [-bind_some]
theorem c1g {g:Hp} {o:Nat} {A B:List (Str × Str)} {x y:Str × Str} {n:Nat} (hn:A.length=n) (ho:g[o]?=some (.row a0x 2 ((A++x::y::B).map fld))) {β:Type} {f:Hp→Option β} {Q:β→Prop}
  (K:∀ g',g'[o]?=some (.row a0x 2 ((A++y::x::B).map fld))→Same o g g'→Wp (f g') Q):Wp ((a0h tab g a0x (.ptr o (n+1) 0) (.agg (fld x))).bind fun g1=>(a0h tab g1 a0x (.ptr o n 0) (.agg (fld y))).bind f) Q:=by
 have e1:A++x::y::B=(A++[x])++y::B:=by simp
 have n1:(A++[x]).length=n+1:=by simp [-bind_some, hn]
 rw [e1] at ho
 have rb:(((A++[x])++y::B).map fld)[n+1]?=some (fld y):=by rw [d7p,a2j _ _ y _ n1];rfl
 refine a5J (off:=0) (row:=fld y) (v := .agg (fld x)) ho rb (by rfl) (by exact Nat.le_refl _) (by rfl) fun g1 p1 w1=>?_
 have p1:g1[o]?=some (.row a0x 2 ((A++x::x::B).map fld)):=by
  rw [p1,show spl (fld y) 0 (a0B (.agg (fld x)))=fld x from rfl,← List.map_set,a4w _ _ y x _ n1]
  simp [-bind_some]
 have ra:((A++x::x::B).map fld)[n]?=some (fld x):=by rw [d7p,a2j _ _ x _ hn];rfl
 refine a5J (off:=0) (row:=fld x) (v := .agg (fld y)) p1 ra (by rfl) (by exact Nat.le_refl _) (by rfl) fun g2 p2 w2=>?_
 refine K g2 ?_ (w1.trans w2)
 rw [p2,show spl (fld x) 0 (a0B (.agg (fld y)))=fld y from rfl,← List.map_set,a4w _ _ x y _ hn]
theorem a8I {o N n:Nat} (h:n<N):a0c tab a1e (.msl 2 o 0 N) (.int .i64 (n:Int))=some (.ptr o n 0):=by rw [a8J,if_pos (by omega),d7l,Nat.zero_add]
theorem wL4 {g:Hp} {o N:Nat} {P A Q:List (Str × Str)} {x:Str × Str} (hN:N≤1000000000) (hlen:(P++x::A++Q).length=N) (ho:g[o]?=some (.row a0x 2 ((P++x::A++Q).map fld))) (r14:Out) (hr:nth 0 r14.2.1 = .int .i64 ((P.length+A.length+1:Nat):Int)) (a:Int) (ha:a=P.length) (x1:D) {β:Type} {f:Out→Option β} {R1:β→Prop}
  (K:∀ g' b1 b2,g'[o]?=some (.row a0x 2 ((P++A++x::Q).map fld))→Same o g g'→Wp (f (.ext 2,[b1,b2],g')) R1):Wp ((a0P (a9D (.msl 2 o 0 N) r14) [.int .i64 a,x1] g).bind f) R1:=by
 subst ha
 simp only [d7h,d7t] at hlen
 refine Wp.loop (fun kk ds g'=>∃ y,∃ i:Nat,ds=[.int .i64 ((P.length+i:Nat):Int),y]∧kk+i=A.length∧Same o g g'∧g'[o]?=some (.row a0x 2 ((P++A.take i++x::(A.drop i++Q)).map fld)))
  (fun r=>r.1 = .ext 2∧(∃ b1 b2,r.2.1=[b1,b2])∧Same o g r.2.2∧r.2.2[o]?=some (.row a0x 2 ((P++A++x::Q).map fld))) A.length ⟨_,0,rfl,rfl,⟨rfl,fun _ _=>rfl⟩,by simpa using ho⟩ ?_ ?_
 ·rintro kk ds g' ⟨y1,i,rfl,hk,sm,ho'⟩
  have w0:IntKind.wrap .i64 (((P.length+A.length+1:Nat):Int) - 1)=((P.length+A.length:Nat):Int):=by rw [wrap_i64 (by omega) (by omega)];omega
  simp only [a9D,a0g,a0q,bs,d7c,hr,a0D,w0,a0n]
  refine Wp.dif ?_ ?_
  ·intro h0
   have h0:i<A.length:=by
    have:((P.length+i:Nat):Int)<((P.length+A.length:Nat):Int):=by simpa using h0
    omega
   obtain ⟨y,hy⟩:=gx_ h0
   have hdy:A.drop i=y::A.drop (i+1):=by
    obtain ⟨hn,hh⟩:=d7s.1 hy
    rw [List.drop_eq_getElem_cons hn,hh]
   have hw:IntKind.wrap .i64 (((P.length+i:Nat):Int)+1)=((P.length+i+1:Nat):Int):=by
    rw [wrap_i64 (by omega) (by omega)];omega
   have e1:P++A.take i++x::(A.drop i++Q)=(P++A.take i)++x::y::(A.drop (i+1)++Q):=by rw [hdy];simp [-bind_some]
   have e2:(P++A.take i++[x])++y::(A.drop (i+1)++Q)=(P++A.take i)++x::y::(A.drop (i+1)++Q):=by simp
   have n1:(P++A.take i).length=P.length+i:=by simp;omega
   have n2:(P++A.take i++[x]).length=P.length+i+1:=by simp;omega
   rw [e1] at ho'
   have la:=b6l ho' (a2j _ _ x _ n1)
   have lb:=b6l ho' (by rw [← e2];exact a2j _ _ y _ n2)
   have ia:=@a8I o N (P.length+i) (by omega)
   have ib:=@a8I o N (P.length+i+1) (by omega)
   simp only [a0t,hw,ia,ib,la,lb,bs,d7c]
   refine c4p n1 ho' fun g2 p2 w2=>?_
   try simp only [bs]
   refine .some (.inl ⟨rfl,kk - 1,by omega,_,i+1,rfl,by omega,sm.trans w2,?_⟩)
   rw [p2,d7o,hy]
   simp [-bind_some]
  ·intro h0
   have h0:i=A.length:=by
    have:¬ ((P.length+i:Nat):Int)<((P.length+A.length:Nat):Int):=by simpa using h0
    omega
   subst h0
   rw [d7A,List.drop_length] at ho'
   exact .some (.inr ⟨by simp,rfl,⟨_,_,rfl⟩,sm,by simpa using ho'⟩)
 ·rintro ⟨ex,ds,g'⟩ ⟨rfl,⟨b1,b2,rfl⟩,sm,p⟩
  exact K g' b1 b2 p sm
theorem wL2 {g:Hp} {o N:Nat} {P A Q:List (Str × Str)} {x:Str × Str} (hN:N≤1000000000) (hlen:(P++A++x::Q).length=N) (ho:g[o]?=some (.row a0x 2 ((P++A++x::Q).map fld))) (r9:Out) (hr:nth 0 r9.2.1 = .int .i64 (P.length:Int)) (m:Int) (hm:m=(P.length+A.length:Nat)) (x1:D) {β:Type} {f:Out→Option β} {R1:β→Prop}
  (K:∀ g' b1 b2,g'[o]?=some (.row a0x 2 ((P++x::A++Q).map fld))→Same o g g'→Wp (f (.ext 6,[b1,b2],g')) R1):Wp ((a0P (a9B (.msl 2 o 0 N) r9) [.int .i64 m,x1] g).bind f) R1:=by
 subst hm
 simp only [d7h,d7t] at hlen
 refine Wp.loop (fun kk ds g'=>∃ y,ds=[.int .i64 ((P.length+kk:Nat):Int),y]∧kk≤A.length∧Same o g g'∧g'[o]?=some (.row a0x 2 ((P++A.take kk++x::(A.drop kk++Q)).map fld)))
  (fun r=>r.1 = .ext 6∧(∃ b1 b2,r.2.1=[b1,b2])∧Same o g r.2.2∧r.2.2[o]?=some (.row a0x 2 ((P++x::A++Q).map fld))) A.length ⟨_,rfl,Nat.le_refl _,⟨rfl,fun _ _=>rfl⟩,by simpa using ho⟩ ?_ ?_
 ·rintro kk ds g' ⟨y1,rfl,hk,sm,ho'⟩
  simp only [a9B,a0g,a0q,bs,d7c,hr,a0u]
  refine Wp.dif ?_ ?_
  ·intro h0
   have h0:0<kk:=by
    have:((P.length+kk:Nat):Int)>(P.length:Int):=by simpa using h0
    omega
   obtain ⟨i,rfl⟩:∃ i,kk=i+1:=⟨kk - 1,by omega⟩
   obtain ⟨y,hy⟩:∃ y,A[i]?=some y:=⟨_,d7r (by omega)⟩
   have hdy:A.drop i=y::A.drop (i+1):=by
    obtain ⟨hn,hh⟩:=d7s.1 hy
    rw [List.drop_eq_getElem_cons hn,hh]
   have hw:IntKind.wrap .i64 (((P.length+(i+1):Nat):Int) - 1)=((P.length+i:Nat):Int):=by
    rw [wrap_i64 (by omega) (by omega)];omega
   have e1:P++A.take (i+1)++x::(A.drop (i+1)++Q)=(P++A.take i)++y::x::(A.drop (i+1)++Q):=by rw [d7o,hy];simp [-bind_some]
   have e2:(P++A.take i++[y])++x::(A.drop (i+1)++Q)=(P++A.take i)++y::x::(A.drop (i+1)++Q):=by simp
   have n1:(P++A.take i).length=P.length+i:=by simp;omega
   have n2:(P++A.take i++[y]).length=P.length+i+1:=by simp;omega
   rw [e1] at ho'
   have la:=b6l ho' (a2j _ _ y _ n1)
   have lb:=b6l ho' (by rw [← e2];exact a2j _ _ x _ n2)
   have ia:=@a8I o N (P.length+i) (by omega)
   have ib:=@a8I o N (P.length+(i+1)) (by omega)
   rw [show P.length+(i+1)=P.length+i+1 from rfl] at hw ib ⊢
   simp only [a0D,hw,ia,ib,la,lb,bs,d7c]
   refine c1g n1 ho' fun g2 p2 w2=>?_
   try simp only [bs]
   refine .some (.inl ⟨rfl,i,by omega,_,rfl,by omega,sm.trans w2,?_⟩)
   rw [p2,hdy]
   simp [-bind_some]
  ·intro h0
   have h0:kk=0:=by
    have:¬ ((P.length+kk:Nat):Int)>(P.length:Int):=by simpa using h0
    omega
   subst h0
   exact .some (.inr ⟨by simp,rfl,⟨_,_,rfl⟩,sm,by simpa using ho'⟩)
 ·rintro ⟨ex,ds,g'⟩ ⟨rfl,⟨b1,b2,rfl⟩,sm,p⟩
  exact K g' b1 b2 p sm
theorem b4J {i j:Nat} (hi:i≤1000000000) (hj:j≤1000000000):IntKind.wrap .i64 ((i:Int)+j)=((i+j:Nat):Int)∧IntKind.wrap .u64 ((i+j:Nat):Int)=((i+j:Nat):Int)∧(((i+j:Nat):Int)).fdiv (2 ^ min ((1:Int).toNat) IntKind.u64.bits)=(((i+j) / 2:Nat):Int)∧IntKind.wrap .i64 (((i+j) / 2:Nat):Int)=(((i+j) / 2:Nat):Int):=by
 have m1:min ((1:Int).toNat) IntKind.u64.bits=1:=by decide
 have p1:(2:Int) ^ 1=2:=by decide
 refine ⟨?_,a1w (by omega) (by omega),?_,wrap_i64 (by omega) (by omega)⟩
 ·rw [wrap_i64 (by omega) (by omega)];omega
 ·rw [m1,p1,Int.fdiv_eq_ediv_of_nonneg _ (by omega)];omega
theorem wL3 {g:Hp} {o N:Nat} {L:List (Str × Str)} (hN:N≤1000000000) (hlen:L.length=N) (ho:g[o]?=some (.row a0x 2 (L.map fld))) (cmp:D) (a m b:Nat) (q:Nat→Prop) (ha:a<N) (hmb:m≤b) (hbN:b≤N) (x:Str × Str) (hx:L[a]?=some x)
  (hc:∀ t y,m≤t→t<b→L[t]?=some y→∃ v,a4H R cmp [.agg (fld y),.agg (fld x)] g=some (.int .i64 v,g)∧(v<0↔q t)) (x1 x2 x3:D) {β:Type} {f:Out→Option β} {Q:β→Prop}
  (K:∀ (c:Nat) b1 b2 b3,m≤c→c≤b→(c=m∨q (c - 1))→(c=b∨¬ q c)→Wp (f (.ext 0,[.int .i64 (c:Int),.int .i64 (c:Int),b1,b2,b3],g)) Q):Wp ((a0P (a9C (.msl 2 o 0 N) (.int .i64 (a:Int)) cmp) [.int .i64 (m:Int),.int .i64 (b:Int),x1,x2,x3] g).bind f) Q:=by
 refine Wp.loop (fun kk ds g'=>g'=g∧∃ y1 y2 y3,∃ i j:Nat,ds=[.int .i64 (i:Int),.int .i64 (j:Int),y1,y2,y3]∧kk=j - i∧m≤i∧i≤j∧j≤b∧(i=m∨q (i - 1))∧(j=b∨¬ q j))
  (fun r=>r.1 = .ext 0∧r.2.2=g∧∃ b1 b2 b3,∃ c:Nat,r.2.1=[.int .i64 (c:Int),.int .i64 (c:Int),b1,b2,b3]∧m≤c∧c≤b∧(c=m∨q (c - 1))∧(c=b∨¬ q c)) (b - m) ⟨rfl,_,_,_,m,b,rfl,rfl,Nat.le_refl _,hmb,Nat.le_refl _,.inl rfl,.inl rfl⟩ ?_ ?_
 ·rintro kk ds g' ⟨rfl,y1,y2,y3,i,j,rfl,hk,h1,h2,h3,h4,h5⟩
  simp only [a9C,a0g,a0q,bs,d7c,a0n]
  refine Wp.dif ?_ ?_
  ·intro h0
   have h0:i<j:=by
    have:(i:Int)<(j:Int):=by simpa using h0
    omega
   obtain ⟨u1,u2,u3,u4⟩:=@b4J i j (by omega) (by omega)
   obtain ⟨y,hy⟩:∃ y,L[(i+j) / 2]?=some y:=⟨_,d7r (by omega)⟩
   obtain ⟨v,hv,hvc⟩:=hc ((i+j) / 2) y (by omega) (by omega) hy
   have ia:=@a8I o N ((i+j) / 2) (by omega)
   have ib:=@a8I o N a ha
   have la:=b6l ho hy
   have lb:=b6l ho hx
   have w1:IntKind.wrap .i64 ((((i+j) / 2:Nat):Int)+1)=(((i+j) / 2+1:Nat):Int):=by rw [wrap_i64 (by omega) (by omega)];omega
   simp only [a0t,u1,a7O,u2,a4l,show ¬ (1:Int)<0 by omega,if_false,u3,a9T,u4,ia,ib,la,lb,hv,bs,a0n,d7c]
   by_cases hlt:v<0
   ·have:=hvc.1 hlt
    simp only [hlt,decide_true,a0d,if_true,w1,bs,a2p,a0g,a0q]
    exact .some (.inl ⟨rfl,j - ((i+j) / 2+1),by omega,rfl,_,_,_,_,_,rfl,rfl,by omega,by omega,by omega,.inr (by simpa using this),h5⟩)
   ·have:=fun h=>hlt (hvc.2 h)
    simp only [hlt,decide_false,a0d,d7d,if_false,bs,a2p,a0g,a0q]
    exact .some (.inl ⟨rfl,(i+j) / 2 - i,by omega,rfl,_,_,_,_,_,rfl,rfl,by omega,by omega,by omega,h4,.inr this⟩)
  ·intro h0
   have h0:¬ i<j:=by
    have:¬ (i:Int)<(j:Int):=by simpa using h0
    omega
   obtain rfl:j=i:=by omega
   exact .some (.inr ⟨by simp,rfl,rfl,_,_,_,j,rfl,h1,h3,h4,h5⟩)
 ·rintro ⟨ex,ds,g'⟩ ⟨rfl,q2,b1,b2,b3,c,rfl,k1,k2,k3,k4⟩
  simp only at q2
  subst q2
  exact K c b1 b2 b3 k1 k2 k3 k4
theorem wL1 {g:Hp} {o N:Nat} {L:List (Str × Str)} (hN:N≤1000000000) (hlen:L.length=N) (ho:g[o]?=some (.row a0x 2 (L.map fld))) (cmp:D) (m a b:Nat) (q:Nat→Prop) (hmN:m<N) (hmb:a≤b) (hbN:b≤N) (x:Str × Str) (hx:L[m]?=some x)
  (hc:∀ t y,a≤t→t<b→L[t]?=some y→∃ v,a4H R cmp [.agg (fld x),.agg (fld y)] g=some (.int .i64 v,g)∧(¬ v<0↔q t)) (x1 x2 x3:D) {β:Type} {f:Out→Option β} {Q:β→Prop}
  (K:∀ (c:Nat) b1 b2 b3,a≤c→c≤b→(c=a∨q (c - 1))→(c=b∨¬ q c)→Wp (f (.ext 4,[.int .i64 (c:Int),.int .i64 (c:Int),b1,b2,b3],g)) Q):Wp ((a0P (a9A (.msl 2 o 0 N) (.int .i64 (m:Int)) cmp) [.int .i64 (a:Int),.int .i64 (b:Int),x1,x2,x3] g).bind f) Q:=by
 refine Wp.loop (fun kk ds g'=>g'=g∧∃ y1 y2 y3,∃ i j:Nat,ds=[.int .i64 (i:Int),.int .i64 (j:Int),y1,y2,y3]∧kk=j - i∧a≤i∧i≤j∧j≤b∧(i=a∨q (i - 1))∧(j=b∨¬ q j))
  (fun r=>r.1 = .ext 4∧r.2.2=g∧∃ b1 b2 b3,∃ c:Nat,r.2.1=[.int .i64 (c:Int),.int .i64 (c:Int),b1,b2,b3]∧a≤c∧c≤b∧(c=a∨q (c - 1))∧(c=b∨¬ q c)) (b - a) ⟨rfl,_,_,_,a,b,rfl,rfl,Nat.le_refl _,hmb,Nat.le_refl _,.inl rfl,.inl rfl⟩ ?_ ?_
 ·rintro kk ds g' ⟨rfl,y1,y2,y3,i,j,rfl,hk,h1,h2,h3,h4,h5⟩
  simp only [a9A,a0g,a0q,bs,d7c,a0n]
  refine Wp.dif ?_ ?_
  ·intro h0
   have h0:i<j:=by
    have:(i:Int)<(j:Int):=by simpa using h0
    omega
   obtain ⟨u1,u2,u3,u4⟩:=@b4J i j (by omega) (by omega)
   obtain ⟨y,hy⟩:∃ y,L[(i+j) / 2]?=some y:=⟨_,d7r (by omega)⟩
   obtain ⟨v,hv,hvc⟩:=hc ((i+j) / 2) y (by omega) (by omega) hy
   have ia:=@a8I o N ((i+j) / 2) (by omega)
   have ib:=@a8I o N m hmN
   have la:=b6l ho hy
   have lb:=b6l ho hx
   have w1:IntKind.wrap .i64 ((((i+j) / 2:Nat):Int)+1)=(((i+j) / 2+1:Nat):Int):=by rw [wrap_i64 (by omega) (by omega)];omega
   simp only [a0t,u1,a7O,u2,a4l,show ¬ (1:Int)<0 by omega,if_false,u3,a9T,u4,ia,ib,la,lb,hv,bs,a0n,a1C,d7c]
   by_cases hlt:v<0
   ·have:=fun h=>(hvc.2 h) hlt
    simp only [hlt,decide_true,d7m,a0d,d7d,if_false,bs,a2p,a0g,a0q]
    exact .some (.inl ⟨rfl,(i+j) / 2 - i,by omega,rfl,_,_,_,_,_,rfl,rfl,by omega,by omega,by omega,h4,.inr this⟩)
   ·have:=hvc.1 hlt
    simp only [hlt,decide_false,d7n,a0d,if_true,w1,bs,a2p,a0g,a0q]
    exact .some (.inl ⟨rfl,j - ((i+j) / 2+1),by omega,rfl,_,_,_,_,_,rfl,rfl,by omega,by omega,by omega,.inr (by simpa using this),h5⟩)
  ·intro h0
   have h0:¬ i<j:=by
    have:¬ (i:Int)<(j:Int):=by simpa using h0
    omega
   obtain rfl:j=i:=by omega
   exact .some (.inr ⟨by simp,rfl,rfl,_,_,_,j,rfl,h1,h3,h4,h5⟩)
 ·rintro ⟨ex,ds,g'⟩ ⟨rfl,q2,b1,b2,b3,c,rfl,k1,k2,k3,k4⟩
  simp only at q2
  subst q2
  exact K c b1 b2 b3 k1 k2 k3 k4
theorem wL0 {g:Hp} {o N:Nat} {L:List (Str × Str)} (hN:N≤1000000000) (hlen:L.length=N) (ho:g[o]?=some (.row a0x 2 (L.map fld))) (cmp:D) (p a b:Nat) (q:Nat→Prop) (hmb:a≤b) (hbp:b≤p+1) (hbN:b≤N) (hpN:p<a+N)
  (hc:∀ t y z,a≤t→t<b→L[t]?=some y→L[p - t]?=some z→∃ v,a4H R cmp [.agg (fld z),.agg (fld y)] g=some (.int .i64 v,g)∧(¬ v<0↔q t)) (x1 x2 x3:D) {β:Type} {f:Out→Option β} {Q:β→Prop}
  (K:∀ (c:Nat) b1 b2 b3,a≤c→c≤b→(c=a∨q (c - 1))→(c=b∨¬ q c)→Wp (f (.ext 8,[.int .i64 (c:Int),.int .i64 (c:Int),b1,b2,b3],g)) Q):Wp ((a0P (a7s (.msl 2 o 0 N) cmp (.int .i64 (p:Int))) [.int .i64 (a:Int),.int .i64 (b:Int),x1,x2,x3] g).bind f) Q:=by
 refine Wp.loop (fun kk ds g'=>g'=g∧∃ y1 y2 y3,∃ i j:Nat,ds=[.int .i64 (i:Int),.int .i64 (j:Int),y1,y2,y3]∧kk=j - i∧a≤i∧i≤j∧j≤b∧(i=a∨q (i - 1))∧(j=b∨¬ q j))
  (fun r=>r.1 = .ext 8∧r.2.2=g∧∃ b1 b2 b3,∃ c:Nat,r.2.1=[.int .i64 (c:Int),.int .i64 (c:Int),b1,b2,b3]∧a≤c∧c≤b∧(c=a∨q (c - 1))∧(c=b∨¬ q c)) (b - a) ⟨rfl,_,_,_,a,b,rfl,rfl,Nat.le_refl _,hmb,Nat.le_refl _,.inl rfl,.inl rfl⟩ ?_ ?_
 ·rintro kk ds g' ⟨rfl,y1,y2,y3,i,j,rfl,hk,h1,h2,h3,h4,h5⟩
  simp only [a7s,a0g,a0q,bs,d7c,a0n]
  refine Wp.dif ?_ ?_
  ·intro h0
   have h0:i<j:=by
    have:(i:Int)<(j:Int):=by simpa using h0
    omega
   obtain ⟨u1,u2,u3,u4⟩:=@b4J i j (by omega) (by omega)
   obtain ⟨y,hy⟩:∃ y,L[(i+j) / 2]?=some y:=⟨_,d7r (by omega)⟩
   obtain ⟨z,hz⟩:∃ z,L[p - (i+j) / 2]?=some z:=⟨_,d7r (by omega)⟩
   obtain ⟨v,hv,hvc⟩:=hc ((i+j) / 2) y z (by omega) (by omega) hy hz
   have ia:=@a8I o N ((i+j) / 2) (by omega)
   have ib:=@a8I o N (p - (i+j) / 2) (by omega)
   have la:=b6l ho hy
   have lb:=b6l ho hz
   have wp':IntKind.wrap .i64 ((p:Int) - (((i+j) / 2:Nat):Int))=((p - (i+j) / 2:Nat):Int):=by rw [wrap_i64 (by omega) (by omega)];omega
   have w1:IntKind.wrap .i64 ((((i+j) / 2:Nat):Int)+1)=(((i+j) / 2+1:Nat):Int):=by rw [wrap_i64 (by omega) (by omega)];omega
   simp only [a0t,u1,a7O,u2,a4l,show ¬ (1:Int)<0 by omega,if_false,u3,a9T,u4,a0D,wp',ia,ib,la,lb,hv,bs,a0n,a1C,d7c]
   by_cases hlt:v<0
   ·have:=fun h=>(hvc.2 h) hlt
    simp only [hlt,decide_true,d7m,a0d,d7d,if_false,bs,a2p,a0g,a0q]
    exact .some (.inl ⟨rfl,(i+j) / 2 - i,by omega,rfl,_,_,_,_,_,rfl,rfl,by omega,by omega,by omega,h4,.inr this⟩)
   ·have:=hvc.1 hlt
    simp only [hlt,decide_false,d7n,a0d,if_true,w1,bs,a2p,a0g,a0q]
    exact .some (.inl ⟨rfl,j - ((i+j) / 2+1),by omega,rfl,_,_,_,_,_,rfl,rfl,by omega,by omega,by omega,.inr (by simpa using this),h5⟩)
  ·intro h0
   have h0:¬ i<j:=by
    have:¬ (i:Int)<(j:Int):=by simpa using h0
    omega
   obtain rfl:j=i:=by omega
   exact .some (.inr ⟨by simp,rfl,rfl,_,_,_,j,rfl,h1,h3,h4,h5⟩)
 ·rintro ⟨ex,ds,g'⟩ ⟨rfl,q2,b1,b2,b3,c,rfl,k1,k2,k3,k4⟩
  simp only at q2
  subst q2
  exact K c b1 b2 b3 k1 k2 k3 k4
def c1n (cmp:D) (c:Str × Str→Str × Str→Int):Prop:=∀ x y g,a4H R cmp [.agg (fld x),.agg (fld y)] g=some (.int .i64 (c x y),g)
theorem c8u {g:Hp} {o N:Nat} {P B Q:List (Str × Str)} {x:Str × Str} (hN:N≤1000000000) (hlen:(P++x::B++Q).length=N) (ho:g[o]?=some (.row a0x 2 ((P++x::B++Q).map fld))) (cmp:D) (c:Str × Str→Str × Str→Int) (hcmp:c1n cmp c) (a m b:Int) (ha:a=(P.length:Nat)) (hm:m=(P.length+1:Nat)) (hb:b=(P.length+1+B.length:Nat)) {β:Type} {f:D × Hp→Option β} {R1:β→Prop}
  (K:∀ g' B1 B2,B=B1++B2→(B1=[]∨∃ y r,B1=r++[y]∧c y x<0)→(B2=[]∨∃ y r,B2=y::r∧¬ c y x<0)→g'[o]?=some (.row a0x 2 ((P++(B1++x::B2)++Q).map fld))→Same o g g'→Wp (f (a0k [],g')) R1):Wp ((R a7g [.msl 2 o 0 N,.int .i64 a,.int .i64 m,.int .i64 b,cmp] g).bind f) R1:=by
 subst ha hm hb
 have hl:=hlen
 simp only [d7h,d7t] at hl
 have w1:IntKind.wrap .i64 (((P.length+1:Nat):Int) - (P.length:Int))=1:=by rw [wrap_i64 (by omega) (by omega)];omega
 have gx:(P++x::B++Q)[P.length]?=some x:=by
  rw [show P++x::B++Q=P++x::(B++Q) by simp]
  exact a2j _ _ x _ rfl
 have gB:∀ t,(P++x::B++Q)[P.length+1+t]?=(B++Q)[t]?:=fun t=>by
  rw [show P++x::B++Q=(P++[x])++(B++Q) by simp,List.getElem?_append_right (by simp)]
  simp [-bind_some]
 rw [c2U]
 simp only [b9r,bs,d7c,a0D,w1,a0Q,decide_true,a0d,if_true]
 refine wL3 hN hlen ho cmp P.length (P.length+1) (P.length+1+B.length) (fun t=>∃ y,(P++x::B++Q)[t]?=some y∧c y x<0) (by omega) (by omega) (by omega) x gx (fun t y _ _ hy=>⟨c y x,hcmp y x g,fun h=>⟨y,hy,h⟩,fun ⟨y',h1,h2⟩=>by rw [hy] at h1;injection h1 with h1;rw [h1];exact h2⟩) _ _ _ fun k b1 b2 b3 k1 k2 k3 k4=>?_
 obtain ⟨t,rfl⟩:∃ t,k=P.length+1+t:=⟨k - (P.length+1),by omega⟩
 have htB:t≤B.length:=by omega
 simp only [a0r,a0s,bs,a0g,a0q,d7c]
 have eL:P++x::B++Q=P++x::B.take t++(B.drop t++Q):=by
  simp only [List.append_assoc,List.cons_append]
  rw [← List.append_assoc (B.take t),List.take_append_drop]
 have htl:(B.take t).length=t:=by simp;omega
 refine wL4 (P:=P) (A:=B.take t) (Q:=B.drop t++Q) (x:=x) hN (by rw [← eL];exact hlen) (by rw [← eL];exact ho) _ (by rw [htl];show D.int _ _=_;congr 1;omega) _ rfl _ fun g1 c1 c2 p1 s1'=>?_
 simp only [a0r,a0s,bs]
 refine K g1 (B.take t) (B.drop t) (List.take_append_drop _ _).symm ?_ ?_ (by rw [p1];simp [-bind_some]) s1'
 ·rcases Nat.eq_zero_or_pos t with rfl | hpos
  ·exact .inl (by simp)
  ·right
   rcases k3 with k3 | ⟨y,hy,hlt⟩
   ·omega
   ·rw [show P.length+1+t - 1=P.length+1+(t - 1) by omega,gB,d7B (by omega)] at hy
    refine ⟨y,B.take (t - 1),?_,hlt⟩
    conv=>lhs;rw [show t=(t - 1)+1 by omega,d7o,hy]
    simp [-bind_some]
 ·rcases Nat.lt_or_ge t B.length with hlt | hge
  ·right
   obtain ⟨y,hy⟩:=gx_ hlt
   rcases k4 with k4 | k4
   ·omega
   ·refine ⟨y,B.drop (t+1),?_,fun h=>k4 ⟨y,by rw [gB,d7B hlt];exact hy,h⟩⟩
    obtain ⟨hn,hh⟩:=d7s.1 hy
    rw [List.drop_eq_getElem_cons hn,hh]
  ·exact .inl (List.drop_eq_nil_of_le hge)
theorem c8v {g:Hp} {o N:Nat} {P A Q:List (Str × Str)} {x:Str × Str} (hN:N≤1000000000) (hlen:(P++A++x::Q).length=N) (hA1:A.length≠1) (ho:g[o]?=some (.row a0x 2 ((P++A++x::Q).map fld))) (cmp:D) (c:Str × Str→Str × Str→Int) (hcmp:c1n cmp c) (a m b:Int) (ha:a=(P.length:Nat)) (hm:m=(P.length+A.length:Nat)) (hb:b=(P.length+A.length+1:Nat)) {β:Type} {f:D × Hp→Option β} {R1:β→Prop}
  (K:∀ g' A1 A2,A=A1++A2→(A1=[]∨∃ y r,A1=r++[y]∧¬ c x y<0)→(A2=[]∨∃ y r,A2=y::r∧c x y<0)→g'[o]?=some (.row a0x 2 ((P++(A1++x::A2)++Q).map fld))→Same o g g'→Wp (f (a0k [],g')) R1):Wp ((R a7g [.msl 2 o 0 N,.int .i64 a,.int .i64 m,.int .i64 b,cmp] g).bind f) R1:=by
 subst ha hm hb
 have hl:=hlen
 simp only [d7h,d7t] at hl
 have w1:IntKind.wrap .i64 (((P.length+A.length:Nat):Int) - (P.length:Int))=A.length:=by rw [wrap_i64 (by omega) (by omega)];omega
 have w2:IntKind.wrap .i64 (((P.length+A.length+1:Nat):Int) - ((P.length+A.length:Nat):Int))=1:=by rw [wrap_i64 (by omega) (by omega)];omega
 have hd1:decide ((A.length:Int)=1)=false:=decide_eq_false (by omega)
 have gx:(P++A++x::Q)[P.length+A.length]?=some x:=a2j _ _ x _ (by simp)
 have gA:∀ t,t<A.length→(P++A++x::Q)[P.length+t]?=A[t]?:=fun t ht=>by
  rw [List.append_assoc,List.getElem?_append_right (by simp),d7B (by omega)]
  simp [-bind_some]
 rw [c2U]
 simp only [b9r,a6b,bs,d7c,a0D,w1,w2,a0Q,hd1,decide_true,a0d,d7d,if_false,if_true]
 refine wL1 hN hlen ho cmp (P.length+A.length) P.length (P.length+A.length) (fun t=>∃ y,(P++A++x::Q)[t]?=some y∧¬ c x y<0) (by omega) (by omega) (by omega) x gx (fun t y _ _ hy=>⟨c x y,hcmp x y g,fun h=>⟨y,hy,h⟩,fun ⟨y',h1,h2⟩=>by rw [hy] at h1;injection h1 with h1;rw [h1];exact h2⟩) _ _ _ fun k b1 b2 b3 k1 k2 k3 k4=>?_
 obtain ⟨t,rfl⟩:∃ t,k=P.length+t:=⟨k - P.length,by omega⟩
 have htA:t≤A.length:=by omega
 simp only [a0r,a0s,bs,a0g,a0q,d7c]
 have htl:(A.take t).length=t:=by simp;omega
 have eL:P++A++x::Q=(P++A.take t)++A.drop t++x::Q:=by
  rw [List.append_assoc P (A.take t),List.take_append_drop]
 have hdl:(A.drop t).length=A.length - t:=d7v
 refine wL2 (P:=P++A.take t) (A:=A.drop t) (Q:=Q) (x:=x) hN (by rw [← eL];exact hlen) (by rw [← eL];exact ho) _ (by rw [d7h,htl];rfl) _ (by rw [d7h,htl,hdl];congr 1;omega) _ fun g1 c1 c2 p1 s1'=>?_
 simp only [a0r,a0s,bs]
 refine K g1 (A.take t) (A.drop t) (List.take_append_drop _ _).symm ?_ ?_ (by rw [p1];simp [-bind_some]) s1'
 ·rcases Nat.eq_zero_or_pos t with rfl | hpos
  ·exact .inl (by simp)
  ·right
   rcases k3 with k3 | ⟨y,hy,hlt⟩
   ·omega
   ·rw [show P.length+t - 1=P.length+(t - 1) by omega,gA _ (by omega)] at hy
    refine ⟨y,A.take (t - 1),?_,hlt⟩
    conv=>lhs;rw [show t=(t - 1)+1 by omega,d7o,hy]
    simp [-bind_some]
 ·rcases Nat.lt_or_ge t A.length with hlt | hge
  ·right
   obtain ⟨y,hy⟩:=gx_ hlt
   rcases k4 with k4 | k4
   ·omega
   ·refine ⟨y,A.drop (t+1),?_,Classical.byContradiction fun h=>k4 ⟨y,by rw [gA _ hlt];exact hy,h⟩⟩
    obtain ⟨hn,hh⟩:=d7s.1 hy
    rw [List.drop_eq_getElem_cons hn,hh]
  ·exact .inl (List.drop_eq_nil_of_le hge)
theorem d3Q {α:Type} (P A B:List α) (t:Nat) (h0:P.length≤t) (h1:t<P.length+A.length):(P++A++B)[t]?=A[t - P.length]?:=by
 rw [List.append_assoc,List.getElem?_append_right h0,d7B (by omega)]
theorem b7R {α:Type} {A:List α} {t:Nat} {y:α} (ht:0<t) (hy:A[t - 1]?=some y):∃ r,A.take t=r++[y]:=by
 refine ⟨A.take (t - 1),?_⟩
 conv=>lhs;rw [show t=(t - 1)+1 by omega,d7o,hy]
 simp [-bind_some]
theorem b3V {α:Type} {A:List α} {t:Nat} {y:α} (hy:A[t]?=some y):∃ r,A.drop t=y::r:=by
 obtain ⟨hn,hh⟩:=d7s.1 hy
 exact ⟨A.drop (t+1),by rw [List.drop_eq_getElem_cons hn,hh]⟩
theorem b2e (b1:Bool) (a c:Int) (t:Nat) {β:Type} (f:D→Option β):((gd (.bool b1) true (some (.int .i64 a))).bind fun t2=>(gd (.bool b1) true (some (.int .i64 c))).bind fun t3=>(gd (.bool b1) true (a0m tab .lss t t2 t3)).bind fun t4=>(a0O (.bool b1) t4 (.bool false)).bind f)=f (.bool (b1&&decide (a<c))):=by
 cases b1
 ·simp only [a0o,reduceCtorEq,if_false,bs,a0e,d7d,Bool.false_and]
 ·simp only [a0o,if_true,bs,a0e,a0n,Bool.true_and]
def b6p (c:Str × Str→Str × Str→Int) (S Pre:Str × Str→Str × Str→Prop) (cmp:D) (o N n:Nat):Prop :=
 ∀ (g:Hp) (P A B Q:List (Str × Str)) (a m b:Int),A.length+B.length≤n→(P++A++B++Q).length=N→0<A.length→0<B.length→A.Pairwise S→B.Pairwise S→(∀ x∈A,∀ y∈B,Pre x y) →
  g[o]?=some (.row a0x 2 ((P++A++B++Q).map fld))→a=(P.length:Nat)→m=(P.length+A.length:Nat)→b=(P.length+A.length+B.length:Nat) →
  Wp (R a7g [.msl 2 o 0 N,.int .i64 a,.int .i64 m,.int .i64 b,cmp] g) fun p=>∃ C:List (Str × Str),C.Perm (A++B)∧C.Pairwise S∧p.2[o]?=some (.row a0x 2 ((P++C++Q).map fld))∧Same o g p.2
theorem c6C {g:Hp} {o N:Nat} {P A B Q:List (Str × Str)} (hN:N≤1000000000) (hlen:(P++A++B++Q).length=N) (hA:0<A.length) (hB:0<B.length) (ho:g[o]?=some (.row a0x 2 ((P++A++B++Q).map fld))) (cmp:D) (c:Str × Str→Str × Str→Int) (hcmp:c1n cmp c)
  (mid s0 r0:Nat) (hmid:mid=(P.length+(P.length+A.length+B.length)) / 2) (hs:(P.length+A.length>mid∧s0+B.length=mid∧r0=mid)∨(P.length+A.length≤mid∧s0=P.length∧r0=P.length+A.length))
  (p:Int) (hp:p=(mid+(P.length+A.length) - 1:Nat)) (x1 x2 x3:D) {β:Type} {f:Out→Option β} {R1:β→Prop}
  (K:∀ (k:Nat) b1 b2 b3 A1 A2 B1 B2,A=A1++A2→B=B1++B2→k=P.length+A1.length→mid=P.length+A1.length+B1.length →
   (A1=[]∨B2=[]∨∃ x y r s,A1=r++[x]∧B2=y::s∧¬ c y x<0)→(A2=[]∨B1=[]∨∃ x y r s,B1=r++[y]∧A2=x::s∧c y x<0) →
   Wp (f (.ext 8,[.int .i64 (k:Int),.int .i64 (k:Int),b1,b2,b3],g)) R1):Wp ((a0P (a7s (.msl 2 o 0 N) cmp (.int .i64 p)) [.int .i64 (s0:Int),.int .i64 (r0:Int),x1,x2,x3] g).bind f) R1:=by
 subst hp
 have hl:=hlen
 simp only [d7h] at hl
 have gA:∀ t,P.length≤t→t<P.length+A.length→(P++A++B++Q)[t]?=A[t - P.length]?:=fun t h0 h1=>by
  rw [List.append_assoc (P++A)];exact d3Q P A _ t h0 h1
 have gB:∀ t,P.length+A.length≤t→t<P.length+A.length+B.length→(P++A++B++Q)[t]?=B[t - (P.length+A.length)]?:=fun t h0 h1=>by
  have:=d3Q (P++A) B Q t (by simpa using h0) (by simpa using h1)
  simpa using this
 obtain ⟨q,hq⟩:∃ q:Nat→Prop,∀ t,q t↔∃ y z,(P++A++B++Q)[t]?=some y∧(P++A++B++Q)[mid+(P.length+A.length) - 1 - t]?=some z∧¬ c z y<0:=⟨_,fun t=>Iff.rfl⟩
 refine wL0 hN hlen ho cmp (mid+(P.length+A.length) - 1) s0 r0 q (by omega) (by omega) (by omega) (by omega)
  (fun t y z _ _ hy hz=>⟨c z y,hcmp z y g,fun h=>(hq t).2 ⟨y,z,hy,hz,h⟩,fun hh=>by
   obtain ⟨y',z',h1,h2,h3⟩:=(hq t).1 hh
   rw [hy] at h1;rw [hz] at h2;injection h1 with h1;injection h2 with h2;rw [h1,h2];exact h3⟩) _ _ _ fun k b1 b2 b3 k1 k2 k3 k4=>?_
 have hkA:k - P.length≤A.length:=by omega
 have hkB:mid - k≤B.length:=by omega
 have la:(A.take (k - P.length)).length=k - P.length:=by simp;omega
 have lb:(B.take (mid - k)).length=mid - k:=by simp;omega
 refine K k b1 b2 b3 (A.take (k - P.length)) (A.drop (k - P.length)) (B.take (mid - k)) (B.drop (mid - k)) (List.take_append_drop _ _).symm (List.take_append_drop _ _).symm (by omega) (by omega) ?_ ?_
 ·rcases k3 with k3 | k3
  ·rcases hs with ⟨h1,h2,h3⟩ | ⟨h1,h2,h3⟩
   ·right;left
    exact List.drop_eq_nil_of_le (by omega)
   ·left
    apply List.eq_nil_of_length_eq_zero
    omega
  ·by_cases hk0:k=P.length
   ·left;apply List.eq_nil_of_length_eq_zero;omega
   ·right
    by_cases hk1:B.length≤mid - k
    ·left;exact List.drop_eq_nil_of_le hk1
    ·right
     obtain ⟨y,z,hy,hz,hlt⟩:=(hq _).1 k3
     rw [gA _ (by omega) (by omega)] at hy
     rw [gB _ (by omega) (by omega)] at hz
     obtain ⟨r,hr⟩:=b7R (A:=A) (t:=k - P.length) (y:=y) (by omega) (by rw [← hy];congr 1;omega)
     obtain ⟨s,hs'⟩:=b3V (A:=B) (t:=mid - k) (y:=z) (by rw [← hz];congr 1;omega)
     exact ⟨y,z,r,s,hr,hs',hlt⟩
 ·by_cases hk0:k=P.length+A.length
  ·left;exact List.drop_eq_nil_of_le (by omega)
  ·right
   by_cases hk1:mid - k=0
   ·left;rw [hk1];rfl
   ·right
    rcases k4 with k4 | k4
    ·omega
    ·obtain ⟨y,hy⟩:∃ y,A[k - P.length]?=some y:=⟨_,d7r (by omega)⟩
     obtain ⟨z,hz⟩:∃ z,B[mid - k - 1]?=some z:=⟨_,d7r (by omega)⟩
     obtain ⟨r,hr⟩:=b7R (A:=B) (t:=mid - k) (y:=z) (by omega) hz
     obtain ⟨s,hs'⟩:=b3V (A:=A) (t:=k - P.length) (y:=y) hy
     refine ⟨y,z,r,s,hr,hs',Classical.byContradiction fun h=>k4 ((hq _).2 ⟨y,z,?_,?_,h⟩)⟩
     ·rw [gA _ (by omega) (by omega)];exact hy
     ·rw [gB _ (by omega) (by omega),← hz];congr 1;omega
theorem c8w {c:Str × Str→Str × Str→Int} {S Pre:Str × Str→Str × Str→Prop} (od:SOrd c S Pre) {cmp:D} (hcmp:c1n cmp c) {o N n:Nat} (hN:N≤1000000000) (ih:b6p c S Pre cmp o N n)
  {g:Hp} {P A B Q:List (Str × Str)} {a m b:Int} (hn:A.length+B.length≤n+1) (hlen:(P++A++B++Q).length=N) (hA:0<A.length) (hB:0<B.length) (sA:A.Pairwise S) (sB:B.Pairwise S) (hp:∀ x∈A,∀ y∈B,Pre x y)
  (ho:g[o]?=some (.row a0x 2 ((P++A++B++Q).map fld))) (ha:a=(P.length:Nat)) (hm:m=(P.length+A.length:Nat)) (hb:b=(P.length+A.length+B.length:Nat)) :
  Wp (a6c (.msl 2 o 0 N) (.int .i64 a) (.int .i64 m) (.int .i64 b) cmp g) fun p=>∃ C:List (Str × Str),C.Perm (A++B)∧C.Pairwise S∧p.2[o]?=some (.row a0x 2 ((P++C++Q).map fld))∧Same o g p.2:=by
 have hl:=hlen
 simp only [d7h] at hl
 obtain ⟨mid,hmid⟩:∃ mid:Nat,mid=(P.length+(P.length+A.length+B.length)) / 2:=⟨_,rfl⟩
 obtain ⟨mm,hmm⟩:∃ mm:Nat,mm=P.length+A.length:=⟨_,rfl⟩
 obtain ⟨bb,hbb⟩:∃ bb:Nat,bb=P.length+A.length+B.length:=⟨_,rfl⟩
 rw [← hmm] at hm
 rw [← hbb] at hb
 subst ha hm hb
 obtain ⟨u1,u2,u3,u4⟩:=@b4J P.length bb (by omega) (by omega)
 rw [← show mid=(P.length+bb) / 2 by rw [hmid,hbb]] at u3 u4
 have w1:IntKind.wrap .i64 ((mid:Int)+(mm:Int))=((mid+mm:Nat):Int):=by rw [wrap_i64 (by omega) (by omega)];omega
 have w2:IntKind.wrap .i64 (((mid+mm:Nat):Int) - 1)=((mid+(P.length+A.length) - 1:Nat):Int):=by rw [wrap_i64 (by omega) (by omega)];omega
 simp only [a6c,bs,d7c,a0t,u1,a7O,u2,a4l,show ¬ (1:Int)<0 by omega,if_false,u3,a9T,u4,w1,a0u]
 refine Wp.join (P:=fun r=>r.1 = .nrm∧r.2.2=g∧∃ s0 r0:Nat,r.2.1=[.int .i64 (s0:Int),.int .i64 (r0:Int)]∧((P.length+A.length>mid∧s0+B.length=mid∧r0=mid)∨(P.length+A.length≤mid∧s0=P.length∧r0=P.length+A.length))) ?_ ?_ ?_
 ·intro h0
  have h0:mid<mm:=by
   have:(mm:Int)>(mid:Int):=by simpa using h0
   omega
  have w3:IntKind.wrap .i64 (((mid+mm:Nat):Int) - (bb:Int))=((mid - B.length:Nat):Int):=by rw [wrap_i64 (by omega) (by omega)];omega
  simp only [a0D,w3,bs]
  exact .some ⟨rfl,rfl,mid - B.length,mid,rfl,.inl ⟨by omega,by omega,rfl⟩⟩
 ·intro h0
  have h0:¬ mid<mm:=by
   have:¬ (mm:Int)>(mid:Int):=by simpa using h0
   omega
  exact .some ⟨rfl,rfl,P.length,mm,rfl,.inr ⟨by omega,rfl,hmm⟩⟩
 rintro ⟨ex,ds,g'⟩ ⟨rfl,q2,s0,r0,rfl,hs⟩
 simp only at q2
 subst q2
 simp only [a0s,a0D,w2,bs,a0g,a0q,d7c]
 refine c6C hN hlen hA hB ho cmp c hcmp mid s0 r0 hmid hs _ rfl _ _ _ fun k b1 b2 b3 A1 A2 B1 B2 eA eB ek em h1 h2=>?_
 subst eA eB
 simp only [d7h] at *
 have w4:IntKind.wrap .i64 (((mid+mm:Nat):Int) - (k:Int))=((mm+B1.length:Nat):Int):=by rw [wrap_i64 (by omega) (by omega)];omega
 simp only [a0r,a0s,bs,a0g,a0q,d7c,a0D,w4,a0n,b2e]
 rw [List.pairwise_append] at sA sB
 -- the rotation
 refine Wp.bind (P:=fun r=>r.1 = .nrm∧r.2.2[o]?=some (.row a0x 2 ((P++A1++B1++A2++B2++Q).map fld))∧Same o g' r.2.2) ?_ ?_
 ·by_cases c1:0<A2.length
  ·have d1:decide ((k:Int)<(mm:Int))=true:=decide_eq_true (by omega)
   by_cases c2:0<B1.length
   ·have d2:decide ((mm:Int)<((mm+B1.length:Nat):Int))=true:=decide_eq_true (by omega)
    simp only [d1,d2,Bool.and_self,a0d,if_true]
    refine d3D (P:=P++A1) (U:=A2) (V:=B1) (Q:=B2++Q) hN (by simp only [d7h];omega) c1 c2 (by rw [ho];simp [-bind_some]) cmp _ _ _ (by simp only [d7h];omega) (by simp only [d7h];omega) (by simp only [d7h];omega) fun g1 p1 s1=>?_
    exact .some ⟨rfl,by simp only [p1];simp [-bind_some],s1⟩
   ·have e2:B1=[]:=List.eq_nil_of_length_eq_zero (by omega)
    subst e2
    have d2:decide ((mm:Int)<((mm+([]:List (Str × Str)).length:Nat):Int))=false:=decide_eq_false (by simp)
    simp only [d1,d2,Bool.and_false,a0d,d7d,if_false]
    exact .some ⟨rfl,by simp only [ho];simp [-bind_some],.refl _ _⟩
  ·have e2:A2=[]:=List.eq_nil_of_length_eq_zero (by omega)
   subst e2
   have d1:decide ((k:Int)<(mm:Int))=false:=decide_eq_false (by simp only [d7u] at *;omega)
   simp only [d1,Bool.false_and,a0d,d7d,if_false]
   exact .some ⟨rfl,by simp only [ho];simp [-bind_some],.refl _ _⟩
 rintro ⟨ex,ds,g1⟩ ⟨rfl,p1,s1⟩
 simp only [a0s,bs,d7c,a0n,b2e]
 -- the first half
 refine Wp.bind (P:=fun r=>r.1 = .nrm∧∃ C1:List (Str × Str),C1.Perm (A1++B1)∧C1.Pairwise S∧r.2.2[o]?=some (.row a0x 2 ((P++C1++(A2++B2++Q)).map fld))∧Same o g' r.2.2) ?_ ?_
 ·by_cases c1:0<A1.length
  ·have d1:decide (((P.length:Nat):Int)<(k:Int))=true:=decide_eq_true (by omega)
   by_cases c2:0<B1.length
   ·have d2:decide ((k:Int)<(mid:Int))=true:=decide_eq_true (by omega)
    simp only [d1,d2,Bool.and_self,a0d,if_true]
    refine Wp.bind (ih g1 P A1 B1 (A2++B2++Q) _ _ _ (by omega) (by simp only [d7h];omega) c1 c2 sA.1 sB.1 (fun x hx y hy=>hp x (by simp [-bind_some, hx]) y (by simp [-bind_some, hy])) (by rw [p1];simp [-bind_some]) rfl (by omega) (by omega)) ?_
    rintro ⟨d,g2⟩ ⟨C,q1,q2,q3,q4⟩
    exact .some ⟨rfl,C,q1,q2,q3,s1.trans q4⟩
   ·have e2:B1=[]:=List.eq_nil_of_length_eq_zero (by omega)
    subst e2
    have d2:decide ((k:Int)<(mid:Int))=false:=decide_eq_false (by simp only [d7u] at *;omega)
    simp only [d1,d2,Bool.and_false,a0d,d7d,if_false]
    exact .some ⟨rfl,A1,by simp,sA.1,by simp only [p1];simp [-bind_some],s1⟩
  ·have e2:A1=[]:=List.eq_nil_of_length_eq_zero (by omega)
   subst e2
   have d1:decide (((P.length:Nat):Int)<(k:Int))=false:=decide_eq_false (by simp only [d7u] at *;omega)
   simp only [d1,Bool.false_and,a0d,d7d,if_false]
   exact .some ⟨rfl,B1,by simp,sB.1,by simp only [p1];simp [-bind_some],s1⟩
 rintro ⟨ex,ds,g2⟩ ⟨rfl,C1,r1,r2,p2,s2⟩
 have lC1:C1.length=A1.length+B1.length:=by rw [r1.length_eq];simp [-bind_some]
 simp only [a0s,bs,d7c,a0n,b2e]
 -- the second half
 refine Wp.bind (P:=fun r=>r.1 = .nrm∧∃ C2:List (Str × Str),C2.Perm (A2++B2)∧C2.Pairwise S∧r.2.2[o]?=some (.row a0x 2 ((P++(C1++C2)++Q).map fld))∧Same o g' r.2.2) ?_ ?_
 ·by_cases c1:0<A2.length
  ·have d1:decide ((mid:Int)<((mm+B1.length:Nat):Int))=true:=decide_eq_true (by omega)
   by_cases c2:0<B2.length
   ·have d2:decide (((mm+B1.length:Nat):Int)<(bb:Int))=true:=decide_eq_true (by omega)
    simp only [d1,d2,Bool.and_self,a0d,if_true]
    refine Wp.bind (ih g2 (P++C1) A2 B2 Q _ _ _ (by omega) (by simp only [d7h];omega) c1 c2 sA.2.1 sB.2.1 (fun x hx y hy=>hp x (by simp [-bind_some, hx]) y (by simp [-bind_some, hy])) (by rw [p2];simp [-bind_some]) (by simp only [d7h];omega) (by simp only [d7h];omega) (by simp only [d7h];omega)) ?_
    rintro ⟨d,g3⟩ ⟨C,q1,q2,q3,q4⟩
    exact .some ⟨rfl,C,q1,q2,by rw [q3];simp [-bind_some],s2.trans q4⟩
   ·have e2:B2=[]:=List.eq_nil_of_length_eq_zero (by omega)
    subst e2
    have d2:decide (((mm+B1.length:Nat):Int)<(bb:Int))=false:=decide_eq_false (by simp only [d7u] at *;omega)
    simp only [d1,d2,Bool.and_false,a0d,d7d,if_false]
    exact .some ⟨rfl,A2,by simp,sA.2.1,by simp only [p2];simp [-bind_some],s2⟩
  ·have e2:A2=[]:=List.eq_nil_of_length_eq_zero (by omega)
   subst e2
   have d1:decide ((mid:Int)<((mm+B1.length:Nat):Int))=false:=decide_eq_false (by simp only [d7u] at *;omega)
   simp only [d1,Bool.false_and,a0d,d7d,if_false]
   exact .some ⟨rfl,B2,by simp,sB.2.1,by simp only [p2];simp [-bind_some],s2⟩
 rintro ⟨ex,ds,g3⟩ ⟨rfl,C2,r3,r4,p3,s3⟩
 simp only [a2S,bs]
 obtain ⟨v1,v2⟩:=c6Y od (List.pairwise_append.2 sA) (List.pairwise_append.2 sB) hp h1 h2 r1 r2 r3 r4
 exact .some ⟨C1++C2,v1,v2,p3,s3⟩
theorem c4z {c:Str × Str→Str × Str→Int} {S Pre:Str × Str→Str × Str→Prop} (od:SOrd c S Pre) {cmp:D} (hcmp:c1n cmp c) {o N:Nat} (hN:N≤1000000000):∀ n,b6p c S Pre cmp o N n
 | 0=>fun g P A B Q a m b h0 _ h1=>by omega
 | n + 1 => fun g P A B Q a m b h0 hlen hA hB sA sB hp ho ha hm hb=>by
  have ih:=c4z od hcmp (o:=o) hN n
  have hl:=hlen
  simp only [d7h] at hl
  by_cases c1:A.length=1
  ·obtain ⟨x,rfl⟩:=List.length_eq_one_iff.1 c1
   have := c8u (g:=g) (o:=o) (N:=N) (P:=P) (B:=B) (Q:=Q) (x:=x) hN (by simpa using hlen) (by simpa using ho) cmp c hcmp a m b ha (by rw [hm];rfl) (by rw [hb];rfl) (f:=some) (R1:=fun p=>∃ C:List (Str × Str),C.Perm ([x]++B)∧C.Pairwise S∧p.2[o]?=some (.row a0x 2 ((P++C++Q).map fld))∧Same o g p.2)
    (fun g' B1 B2 e h1 h2 p1 s1 => .some ⟨B1++x::B2,by rw [e];exact List.perm_middle,by
     subst e
     rw [List.pairwise_append] at sB ⊢
     refine ⟨sB.1,List.pairwise_cons.2 ⟨?_,sB.2.1⟩,?_⟩
     ·rcases h2 with rfl | ⟨y,r,rfl,hy⟩
      ·intro z hz;cases hz
      ·have hxy:=od.ge x y (hp x (by simp) y (by simp)) hy
       intro z hz
       rcases d7x.1 hz with rfl | hz
       ·exact hxy
       ·exact od.tr _ _ _ hxy ((List.pairwise_cons.1 sB.2.1).1 z hz)
     ·have hx1:∀ u∈B1,S u x:=by
        rcases h1 with rfl | ⟨y,r,rfl,hy⟩
        ·intro z hz;cases hz
        ·have hyx:=od.lt x y (hp x (by simp) y (by simp)) hy
         intro z hz
         rcases d7y.1 hz with hz | hz
         ·exact od.tr _ _ _ ((List.pairwise_append.1 sB.1).2.2 z hz y (by simp)) hyx
         ·simp at hz;subst hz;exact hyx
      intro u hu v hv
      rcases d7x.1 hv with rfl | hv
      ·exact hx1 u hu
      ·exact sB.2.2 u hu v hv,by rw [p1],s1⟩)
   rwa [show ∀ x:Option (D × Hp),x.bind some=x from fun x=>by cases x <;> rfl] at this
  ·by_cases c2:B.length=1
   ·obtain ⟨x,rfl⟩:=List.length_eq_one_iff.1 c2
    have:=c8v (g:=g) (o:=o) (N:=N) (P:=P) (A:=A) (Q:=Q) (x:=x) hN (by simpa using hlen) c1 (by simpa using ho) cmp c hcmp a m b ha (by rw [hm]) (by rw [hb];rfl) (f:=some) (R1:=fun p=>∃ C:List (Str × Str),C.Perm (A++[x])∧C.Pairwise S∧p.2[o]?=some (.row a0x 2 ((P++C++Q).map fld))∧Same o g p.2)
     (fun g' A1 A2 e h1 h2 p1 s1 => .some ⟨A1++x::A2,by rw [e];exact List.perm_middle.trans (by simpa using (List.perm_append_comm (l₁:=[x]) (l₂:=A1++A2))),c1U od (by rw [← e];exact sA) (fun y hy=>hp y (by rw [e];exact hy) x (by simp)) h2 h1,by rw [p1],s1⟩)
    rwa [show ∀ x:Option (D × Hp),x.bind some=x from fun x=>by cases x <;> rfl] at this
   ·have r:=c8w od hcmp hN ih h0 hlen hA hB sA sB hp ho ha hm hb
    rw [c2U]
    have v1:IntKind.wrap .i64 (m - a)=(A.length:Int):=by rw [hm,ha,wrap_i64 (by omega) (by omega)];omega
    have v2:IntKind.wrap .i64 (b - m)=(B.length:Int):=by rw [hm,hb,wrap_i64 (by omega) (by omega)];omega
    have d1:decide ((A.length:Int)=1)=false:=decide_eq_false (by omega)
    have d2:decide ((B.length:Int)=1)=false:=decide_eq_false (by omega)
    simp only [b9r,a6b,bs,a0D,v1,v2,a0Q,d1,d2,a0d,d7d,if_false]
    exact r
theorem Blk.len {α:Type} {S Pre:α→α→Prop} {k:Nat} {l:List α} (h:Blk S Pre k l) (hl:l.length<k):l.Pairwise S:=h.all (by omega)
theorem b8u {α:Type} {Pre:α→α→Prop} {A B:List α} (h:(A++B).Pairwise Pre):A.Pairwise Pre∧B.Pairwise Pre∧∀ x∈A,∀ y∈B,Pre x y:=List.pairwise_append.1 h
theorem c1F {c:Str × Str→Str × Str→Int} {S Pre:Str × Str→Str × Str→Prop} (od:SOrd c S Pre) {cmp:D} (hcmp:c1n cmp c) {o N:Nat} (hN:N≤1000000000) {g:Hp} {P A Q:List (Str × Str)} (hlen:(P++A++Q).length=N) (hA:A.Pairwise Pre)
  (ho:g[o]?=some (.row a0x 2 ((P++A++Q).map fld))) (a b:Int) (ha:a=P.length) (hb:b=(P.length+A.length:Nat)) :
  Wp (R a7X [.msl 2 o 0 N,.int .i64 a,.int .i64 b,cmp] g) fun p=>∃ C:List (Str × Str),C.Perm A∧C.Pairwise S∧p.2[o]?=some (.row a0x 2 ((P++C++Q).map fld))∧Same o g p.2:=by
 subst ha hb
 have hl:=hlen
 simp only [d7h] at hl
 obtain ⟨d,h',e,p1,s1⟩:=d2R c cmp hcmp o N P.length (P.length+A.length) hN (by omega) (by omega) _ hlen g ho
 refine ⟨(d,h'),e,?_⟩
 cases A with
 | nil =>
  refine ⟨[],by simp,List.Pairwise.nil,?_,s1⟩
  rw [p1]
  simp [-bind_some, isr]
 | cons x A =>
  obtain ⟨C,q1,q2,q3⟩:=b7M od P Q A [x] (by simp) (fun u hu v hv=>by simp at hu;subst hu;exact (List.pairwise_cons.1 hA).1 v hv) (List.pairwise_cons.1 hA).2
  refine ⟨C,q2,q3,?_,s1⟩
  rw [p1]
  have e1:P.length+(x::A).length - (P.length+1)=A.length:=by simp;omega
  rw [e1]
  have e2:P++x::A++Q=P++[x]++A++Q:=by simp
  rw [e2]
  exact congrArg (fun z:List (Str × Str)=>some (Ob.row a0x 2 (z.map fld))) q1
theorem d3C {c:Str × Str→Str × Str→Int} {S Pre:Str × Str→Str × Str→Prop} (od:SOrd c S Pre) {cmp:D} (hcmp:c1n cmp c) {o N:Nat} (hN:N≤1000000000) {g:Hp} {l:List (Str × Str)} (hl:l.length=N) (hpre:l.Pairwise Pre)
  (ho:g[o]?=some (.row a0x 2 (l.map fld))):Wp (R b4f [.msl 2 o 0 N,.int .i64 N,cmp] g) fun p=>∃ C:List (Str × Str),C.Perm l∧C.Pairwise S∧p.2[o]?=some (.row a0x 2 (C.map fld))∧Same o g p.2:=by
 rw [c6J]
 simp only [c2w,bs,d7c]
 refine Wp.loop (fun n ds g'=>∃ u,∃ X Y:List (Str × Str),ds=[.int .i64 (X.length:Nat),.int .i64 ((X.length+20:Nat):Int),u]∧n=Y.length∧(X++Y).Perm l∧Y.Pairwise Pre∧CtxB S Pre 20 X Y∧g'[o]?=some (.row a0x 2 ((X++Y).map fld))∧Same o g g')
  (fun r=>r.1 = .ext 0∧∃ u,∃ X Y:List (Str × Str),r.2.1=[.int .i64 (X.length:Nat),.int .i64 ((X.length+20:Nat):Int),u]∧Y.length<20∧(X++Y).Perm l∧Y.Pairwise Pre∧CtxB S Pre 20 X Y∧r.2.2[o]?=some (.row a0x 2 ((X++Y).map fld))∧Same o g r.2.2)
  l.length ⟨_,[],l,rfl,rfl,by simp,hpre,CtxB.nil,by simpa using ho,.refl _ _⟩ ?_ ?_
 ·rintro n ds g' ⟨u,X,Y,rfl,rfl,hp,hY,hc,ho',sm⟩
  have hXY:X.length+Y.length=N:=by rw [← hl,← hp.length_eq];simp [-bind_some]
  simp only [a9w,a0g,a0q,bs,d7c,a1S]
  refine Wp.dif ?_ ?_
  ·intro h0
   have h0:20≤Y.length:=by
    have:((X.length+20:Nat):Int)≤(N:Int):=by simpa using h0
    omega
   obtain ⟨A,Y',rfl,hA⟩:∃ A Y',Y=A++Y'∧A.length=20:=⟨Y.take 20,Y.drop 20,(List.take_append_drop _ _).symm,by simp;omega⟩
   obtain ⟨y1,y2,y3⟩:=b8u hY
   simp only [d7h] at hXY h0
   refine Wp.bind (c1F od hcmp hN (P:=X) (A:=A) (Q:=Y') (by simp only [d7h];omega) y1 (by rw [ho'];simp [-bind_some]) _ _ rfl (by omega)) ?_
   rintro ⟨d,g2⟩ ⟨C,q1,q2,q3,q4⟩
   have lC:C.length=20:=by rw [q1.length_eq,hA]
   have w1:IntKind.wrap .i64 (((X.length+20:Nat):Int)+20)=((X.length+20+20:Nat):Int):=by rw [wrap_i64 (by omega) (by omega)];omega
   simp only [a0t,w1,bs]
   have eX:(X++C).length=X.length+20:=by simp [-bind_some, lC]
   refine .some (.inl ⟨rfl,Y'.length,by simp only [d7h];omega,_,X++C,Y',by rw [eX],rfl,?_,y2,hc.step q1 lC q2 y3,q3,sm.trans q4⟩)
   refine List.Perm.trans ?_ hp
   rw [List.append_assoc]
   exact (q1.append_right Y').append_left X
  ·intro h0
   have h0:¬ 20≤Y.length:=by
    have:¬ ((X.length+20:Nat):Int)≤(N:Int):=by simpa using h0
    omega
   exact .some (.inr ⟨by simp,rfl,_,X,Y,rfl,by omega,hp,hY,hc,ho',sm⟩)
 rintro ⟨ex,ds,g1⟩ ⟨rfl,u,X,Y,rfl,hYl,hp,hY,hc,ho1,s1⟩
 have hXY:X.length+Y.length=N:=by rw [← hl,← hp.length_eq];simp [-bind_some]
 simp only [a0r,a0s,a0g,a0q,bs]
 refine Wp.bind (c1F od hcmp hN (P:=X) (A:=Y) (Q:=[]) (by simp only [d7h,d7u];omega) hY (by simpa using ho1) _ _ rfl (by omega)) ?_
 rintro ⟨d,g2⟩ ⟨C,q1,q2,q3,q4⟩
 have bl:Blk S Pre 20 (X++C):=hc.done q1 (by rw [q1.length_eq];omega) q2
 have hpZ:(X++C).Perm l:=(q1.append_left X).trans hp
 have q3:g2[o]?=some (.row a0x 2 ((X++C).map fld)):=by simpa using q3
 have s2:Same o g g2:=s1.trans q4
 generalize X++C=Z at bl hpZ q3
 clear q1 q2 hc hY ho1 s1 q4
 simp only [bs,d7c]
 refine Wp.loop (fun n ds g'=>∃ u1 u2 u3 u4 u5 u6,∃ k:Nat,∃ Z:List (Str × Str),ds=[.int .i64 (k:Int),u1,u2,u3,u4,u5,u6]∧n=N - k∧0<k∧k≤2000000000∧Z.Perm l∧Blk S Pre k Z∧g'[o]?=some (.row a0x 2 (Z.map fld))∧Same o g g')
  (fun r=>r.1 = .ext 2∧∃ u1 u2 u3 u4 u5 u6 u7,r.2.1=[u1,u2,u3,u4,u5,u6,u7]∧∃ Z:List (Str × Str),Z.Perm l∧Z.Pairwise S∧r.2.2[o]?=some (.row a0x 2 (Z.map fld))∧Same o g r.2.2)
  (N - 20) ⟨_,_,_,_,_,_,20,Z,rfl,rfl,by omega,by omega,hpZ,bl,q3,s2⟩ ?_ ?_
 ·clear q3 s2 bl hpZ Z hXY hp
  rintro n ds g3 ⟨u1,u2,u3,u4,u5,u6,k,Z,rfl,rfl,k0,k1,hp,bl,ho3,s3⟩
  have lZ:Z.length=N:=by rw [hp.length_eq,hl]
  simp only [a9x,a0g,a0q,bs,d7c,a0n]
  refine Wp.dif ?_ ?_
  ·intro h0
   have h0:k<N:=by
    have:(k:Int)<(N:Int):=by simpa using h0
    omega
   have w1:IntKind.wrap .i64 ((2:Int)*(k:Int))=((2*k:Nat):Int):=by rw [wrap_i64 (by omega) (by omega)];omega
   simp only [a2D,w1,bs,d7c]
   refine Wp.loop (fun n ds g'=>∃ u,∃ X Y:List (Str × Str),ds=[.int .i64 (X.length:Nat),.int .i64 ((X.length+2*k:Nat):Int),u]∧n=Y.length∧(X++Y).Perm l∧Blk S Pre k Y∧CtxB S Pre (2*k) X Y∧g'[o]?=some (.row a0x 2 ((X++Y).map fld))∧Same o g g')
    (fun r=>r.1 = .ext 4∧∃ u v,∃ X Y:List (Str × Str),r.2.1=[.int .i64 (X.length:Nat),u,v]∧Y.length<2*k∧(X++Y).Perm l∧Blk S Pre k Y∧CtxB S Pre (2*k) X Y∧r.2.2[o]?=some (.row a0x 2 ((X++Y).map fld))∧Same o g r.2.2)
    N ⟨u5,[],Z,by simp,lZ.symm,by simpa using hp,bl,CtxB.nil,by simpa using ho3,s3⟩ ?_ ?_
   ·rintro n ds g4 ⟨u,X,Y,rfl,rfl,hp4,bl4,hc4,ho4,s4⟩
    have hXY:X.length+Y.length=N:=by rw [← hl,← hp4.length_eq];simp [-bind_some]
    simp only [b3e,a0g,a0q,bs,d7c,a1S]
    refine Wp.dif ?_ ?_
    ·intro h1
     have h1:2*k≤Y.length:=by
      have:((X.length+2*k:Nat):Int)≤(N:Int):=by simpa using h1
      omega
     obtain ⟨A,Y1,rfl,lA,sA,pA,bY1⟩:=bl4.fst (by omega)
     simp only [d7h] at hXY h1
     obtain ⟨B,Y2,rfl,lB,sB,pB,bY2⟩:=bY1.fst (by omega)
     simp only [d7h] at hXY h1
     have w2:IntKind.wrap .i64 ((X.length:Int)+(k:Int))=((X.length+A.length:Nat):Int):=by rw [wrap_i64 (by omega) (by omega)];omega
     simp only [a0t,w2,bs,d7c]
     refine Wp.bind (c4z od hcmp hN (A.length+B.length) g4 X A B Y2 _ _ _ (Nat.le_refl _) (by simp only [d7h];omega) (by omega) (by omega) sA sB (fun x hx y hy=>pA x hx y (by simp [-bind_some, hy])) (by rw [ho4];simp [-bind_some]) rfl rfl (by omega)) ?_
     rintro ⟨d,g5⟩ ⟨C,q1,q2,q3,q4⟩
     have lC:C.length=2*k:=by rw [q1.length_eq,d7h];omega
     have w3:IntKind.wrap .i64 (((X.length+2*k:Nat):Int)+((2*k:Nat):Int))=((X.length+2*k+2*k:Nat):Int):=by rw [wrap_i64 (by omega) (by omega)];omega
     simp only [a2D,a0t,w1,w3,bs]
     have eX:(X++C).length=X.length+2*k:=by simp [-bind_some, lC]
     refine .some (.inl ⟨rfl,Y2.length,by simp only [d7h];omega,_,X++C,Y2,by rw [eX],rfl,?_,bY2,CtxB.step (A:=A++B) (by rw [List.append_assoc];exact hc4) q1 lC q2 (fun x hx y hy=>?_),q3,s4.trans q4⟩)
     ·refine List.Perm.trans ?_ hp4
      rw [List.append_assoc,← List.append_assoc A B Y2]
      exact (q1.append_right Y2).append_left X
     ·rcases d7y.1 hx with hx | hx
      ·exact pA x hx y (by simp [-bind_some, hy])
      ·exact pB x hx y hy
    ·intro h1
     have h1:¬ 2*k≤Y.length:=by
      have:¬ ((X.length+2*k:Nat):Int)≤(N:Int):=by simpa using h1
      omega
     exact .some (.inr ⟨by simp,rfl,_,_,X,Y,rfl,by omega,hp4,bl4,hc4,ho4,s4⟩)
   rintro ⟨ex,ds,g4⟩ ⟨rfl,u,v,X,Y,rfl,hYl,hp4,bl4,hc4,ho4,s4⟩
   have hXY:X.length+Y.length=N:=by rw [← hl,← hp4.length_eq];simp [-bind_some]
   have w2:IntKind.wrap .i64 ((X.length:Int)+(k:Int))=((X.length+k:Nat):Int):=by rw [wrap_i64 (by omega) (by omega)];omega
   have w4:IntKind.wrap .i64 ((k:Int)*2)=((2*k:Nat):Int):=by rw [wrap_i64 (by omega) (by omega)];omega
   simp only [a0r,a0s,a0g,a0q,bs,a0t,w2,a0n,d7c]
   refine Wp.bind (P:=fun r=>r.1 = .nrm∧∃ Z:List (Str × Str),Z.Perm l∧Blk S Pre (2*k) Z∧r.2.2[o]?=some (.row a0x 2 (Z.map fld))∧Same o g r.2.2) ?_ ?_
   ·by_cases hm:X.length+k<N
    ·have d1:decide (((X.length+k:Nat):Int)<(N:Int))=true:=decide_eq_true (by omega)
     obtain ⟨A,B,rfl,lA,sA,pA,bB⟩:=bl4.fst (by omega)
     simp only [d7h] at hXY hYl
     have sB:B.Pairwise S:=bB.all (by omega)
     simp only [d1,a0d,if_true]
     refine Wp.bind (c4z od hcmp hN (A.length+B.length) g4 X A B [] _ _ _ (Nat.le_refl _) (by simp only [d7h,d7u];omega) (by omega) (by omega) sA sB pA (by rw [ho4];simp [-bind_some]) rfl (by omega) (by omega)) ?_
     rintro ⟨d,g5⟩ ⟨C,q1,q2,q3,q4⟩
     refine .some ⟨rfl,X++C,(q1.append_left X).trans hp4,hc4.done q1 (by rw [q1.length_eq,d7h];omega) q2,by simpa using q3,s4.trans q4⟩
    ·have d1:decide (((X.length+k:Nat):Int)<(N:Int))=false:=decide_eq_false (by omega)
     simp only [d1,a0d,d7d,if_false]
     exact .some ⟨rfl,X++Y,hp4,hc4.done (List.Perm.refl _) (by omega) (bl4.all (by omega)),ho4,s4⟩
   rintro ⟨ex,ds,g5⟩ ⟨rfl,Z2,hp5,bl5,ho5,s5⟩
   simp only [a0s,bs,w4]
   exact .some (.inl ⟨rfl,N - 2*k,by omega,_,_,_,_,_,_,2*k,Z2,rfl,rfl,by omega,by omega,hp5,bl5,ho5,s5⟩)
  ·intro h0
   have h0:¬ k<N:=by
    have:¬ (k:Int)<(N:Int):=by simpa using h0
    omega
   exact .some (.inr ⟨by simp,rfl,_,_,_,_,_,_,_,rfl,Z,hp,bl.all (by omega),ho3,s3⟩)
 rintro ⟨ex,ds,g3⟩ ⟨rfl,u1,u2,u3,u4,u5,u6,u7,rfl,Z3,hp3,sZ,ho3,s3⟩
 simp only [a0r,a2S,bs]
 exact .some ⟨Z3,hp3,sZ,ho3,s3⟩
def leS (x y:Str × Str):Prop:=¬ cF y x<0
theorem a8h (x y:Str × Str):leS x y↔Op.bytesLess y.1 x.1=false:=by
 unfold leS cF
 rw [a9S]
 simp [-bind_some]
theorem c7l {x y z:Str × Str} (h:leS x y) (k:leS y z):leS x z:=by
 rw [a8h] at *
 cases hh:Op.bytesLess z.1 x.1
 ·rfl
 ·by_cases he:y.1=x.1
  ·rw [he,hh] at k;cases k
  ·have:=b6s hh (b0L h he)
   rw [this] at k;cases k
theorem c1J:SOrd cF leS (fun _ _=>True) where
 tr:=fun x y z=>c7l
 lt:=fun x y _ h=>by
  unfold leS
  intro h2
  unfold cF at h h2
  rw [a9S] at h h2
  have:=b6s h h2
  rw [b0K] at this
  cases this
 ge:=fun x y _ h=>h
theorem b4B {x y:Str × Str} (h:leS x y) (k:leS y x):x.1=y.1:=by
 rw [a8h] at h k
 apply Classical.byContradiction
 intro hn
 have:=b0L k hn
 rw [this] at h;cases h
theorem a4h:∀ {C:List (Str × Str)},C.Pairwise leS→(a8E C=false↔(C.map Prod.fst).Nodup)
 | [],_=>by simp [-bind_some, a8E]
 | [x],_=>by simp [-bind_some, a8E]
 | x::y::r,h=>by
  have ih:=a4h (C:=y::r) (List.pairwise_cons.1 h).2
  have hx:=(List.pairwise_cons.1 h).1
  have hy:=(List.pairwise_cons.1 (List.pairwise_cons.1 h).2).1
  rw [d7k,List.nodup_cons]
  unfold a8E
  rw [Bool.or_eq_false_iff,ih]
  constructor
  ·rintro ⟨h1,h2⟩
   refine ⟨fun hm=>?_,h2⟩
   have h1:y.1≠x.1:=by simpa using h1
   obtain ⟨z,hz,hzx⟩:=d7z.1 hm
   rcases d7x.1 hz with rfl | hz
   ·exact h1 hzx
   ·have h3:leS y x:=by
      have:=hy z hz
      rw [a8h] at this ⊢
      rw [← hzx];exact this
    exact h1 (b4B h3 (hx y (by simp)))
  ·rintro ⟨h1,h2⟩
   refine ⟨?_,h2⟩
   have:y.1≠x.1:=fun hh=>h1 (by rw [d7k,hh];simp [-bind_some])
   simpa using this
theorem a8u:∀ {C E:List (Str × Str)},C.Pairwise leS→E.Pairwise leS→C.Perm E→(C.map Prod.fst).Nodup→C=E
 | [],E,_,_,hp,_=>by rw [List.nil_perm.1 hp]
 | x::C,[],_,_,hp,_=>by cases List.perm_nil.1 hp
 | x::C,y::E,hC,hE,hp,hn=>by
  rw [List.pairwise_cons] at hC hE
  rw [d7k,List.nodup_cons] at hn
  have hxy:x=y:=by
   apply Classical.byContradiction
   intro hne
   have hx:x∈E:=by
    have:x∈y::E:=hp.mem_iff.1 (by simp)
    rcases d7x.1 this with h | h
    ·exact absurd h hne
    ·exact h
   have hy:y∈C:=by
    have:y∈x::C:=hp.mem_iff.2 (by simp)
    rcases d7x.1 this with h | h
    ·exact absurd h.symm hne
    ·exact h
   have:=b4B (hC.1 y hy) (hE.1 x hx)
   exact hn.1 (by rw [this];exact d7z.2 ⟨y,hy,rfl⟩)
  subst hxy
  rw [a8u hC.2 hE.2 ((List.perm_cons x).1 hp) hn.2]
theorem c2h (l:List (Str × Str)):(srt l).Perm l∧(srt l).Pairwise leS:=by
 cases l with
 | nil=>exact ⟨by simp [-bind_some, srt,isr],by simp [-bind_some, srt,isr]⟩
 | cons x B =>
  obtain ⟨C,q1,q2,q3⟩:=b7M c1J [] [] B [x] (by simp) (fun _ _ _ _=>trivial) (List.Pairwise.imp (fun _=>trivial) (List.pairwise_of_forall (l:=B) (R:=fun _ _=>True) (fun _ _=>trivial)))
  have e:srt (x::B)=C:=by
   unfold srt
   have:(x::B).length - 1=B.length:=by simp
   rw [this]
   simpa using q1
  rw [e]
  exact ⟨by simpa using q2,q3⟩
theorem b5h {C l:List (Str × Str)} (hp:C.Perm l) (hs:C.Pairwise leS):a8E C=a8E (srt l)∧(a8E C=false→C=srt l):=by
 obtain ⟨h1,h2⟩:=c2h l
 have hq:C.Perm (srt l):=hp.trans h1.symm
 have hn:(C.map Prod.fst).Nodup↔((srt l).map Prod.fst).Nodup:=(hq.map Prod.fst).nodup_iff
 have a1:=a4h hs
 have a2:=a4h h2
 refine ⟨?_,fun h=>a8u hs h2 hq (a1.1 h)⟩
 cases hC:a8E C <;> cases hS:a8E (srt l)
 ·rfl
 ·have:=a2.2 (hn.1 (a1.1 hC));rw [this] at hS;cases hS
 ·have:=a1.2 (hn.2 (a2.1 hS));rw [this] at hC;cases hC
 ·rfl
theorem d3B {cmp:D} (hcmp:c1n cmp cF) {o N:Nat} (hN:N≤1000000000) {g:Hp} {l:List (Str × Str)} (hl:l.length=N) (ho:g[o]?=some (.row a0x 2 (l.map fld))) :
  ∃ d g',∃ C:List (Str × Str),R b1l [.msl 2 o 0 N,cmp] g=some (d,g')∧C.Perm l∧C.Pairwise leS∧g'[o]?=some (.row a0x 2 (C.map fld))∧Same o g g':=by
 obtain ⟨⟨d,g'⟩,e,C,q1,q2,q3,q4⟩:=d3C c1J hcmp hN hl (List.pairwise_of_forall fun _ _=>trivial) ho
 refine ⟨a0k [],g',C,?_,q1,q2,q3,q4⟩
 rw [c6I]
 simp only [c2v,bs,c1K,e]
theorem c8c (l:List (Str × Str)) (d:D) (h:Hp) (hd:SlOf 2 fld l d):∃ d' h',R b1j [d] h=some (.tup [d',.int .i64 (a1W l).1],h')∧h.length≤h'.length∧(∀ q,q<h.length→h'[q]?=h[q]?)∧((a1W l).1=0→RdF h' (a1W l).2 d'):=by
 suffices Wp (R b1j [d] h) (fun p=>∃ d',p.1 = .tup [d',.int .i64 (a1W l).1]∧h.length≤p.2.length∧(∀ q,q<h.length→p.2[q]?=h[q]?)∧((a1W l).1=0→RdF p.2 (a1W l).2 d')) by
  obtain ⟨⟨x,h'⟩,h1,d',rfl,h2⟩:=this
  exact ⟨d',h',h1,h2⟩
 rw [c9U]
 by_cases h32n:32<l.length
 ·have h32:(32:Int)<(l.length:Int):=by omega
  have hs:a1W l=(4,[]):=by simp only [a1W,h32n,if_true]
  rw [hs]
  simp only [c2u,bs,d7c,a2w hd,a0u,h32,decide_true,a0d,if_true,a1c]
  exact .some ⟨.nils,rfl,Nat.le_refl _,fun _ _=>rfl,fun hh=>by cases hh⟩
 have h32:¬ (32:Int)<(l.length:Int):=by omega
 simp only [c2u,bs,d7c,a2w hd,a0u,h32,decide_false,a0d,d7d,if_false]
 refine c7h l d h hd (by omega) _ _ _ _ _ (fun hv x y z w=>?_) (fun hv x y z w=>?_)
 ·simp only [a0r,a0s,a0g,a0q,bs]
  obtain ⟨d1,h1,e1,hl1,hb1,hd1⟩:=d3y l d h hd (by omega)
  simp only [e1,bs]
  have hsrt:∃ x h2,∃ C:List (Str × Str),R b1l [d1,.fn (.func a7W) [] []] h1=some (x,h2)∧h.length≤h2.length∧(∀ q,q<h.length→h2[q]?=h[q]?)∧C.Perm l∧C.Pairwise leS∧RdF h2 C d1:=by
   rcases hd1 with ⟨rfl,hd1⟩ | ⟨ob,hob,rfl,ho⟩
   ·obtain ⟨x,hx⟩:=c8d d1 (.fn (.func a7W) [] []) h1 hd1
    exact ⟨x,h1,[],hx,hl1,hb1,List.Perm.refl _,List.Pairwise.nil,.inl hd1⟩
   ·obtain ⟨x,h2,C,q1,q2,q3,q4,q5⟩:=d3B (cmp := .fn (.func a7W) [] []) (fun x y g=>c9k x y g) (o:=ob) (N:=l.length) (by omega) rfl ho
    refine ⟨x,h2,C,q1,by have:=q5.1;omega,fun q hq=>(q5.2 q (by omega)).trans (hb1 q hq),q2,q3,.inr ⟨ob,by rw [q2.length_eq],q4⟩⟩
  obtain ⟨u,h2,C,e2,hl2,hb2,hpC,hsC,hr⟩:=hsrt
  obtain ⟨ad,un⟩:=b5h hpC hsC
  simp only [e2,bs]
  refine c7i C d1 h2 hr (by rw [hpC.length_eq];omega) _ _ _ _ (fun ha x y z=>?_) (fun ha x y z=>?_)
  ·have hs:a1W l=(0,srt l):=by simp only [a1W,h32n,if_false,hv,if_true,← ad,ha,d7d]
   rw [hs]
   simp only [a0r,a0s,bs,a1c]
   exact .some ⟨d1,rfl,hl2,hb2,fun _=>by rw [← un ha];exact hr⟩
  ·have hs:a1W l=(7,[]):=by simp only [a1W,h32n,if_false,hv,if_true,← ad,ha]
   rw [hs]
   simp only [a1O,a1N,a1L,a0g,a0q,bs,a1c]
   exact .some ⟨.nils,rfl,hl2,hb2,fun hh=>by cases hh⟩
 ·have hs:a1W l=(6,[]):=by simp only [a1W,h32n,if_false,hv];rfl
  rw [hs]
  simp only [a1O,a1N,a1L,a0g,a0q,bs,a1c]
  exact .some ⟨.nils,rfl,Nat.le_refl _,fun _ _=>rfl,fun hh=>by cases hh⟩
theorem c7Z (e:Ev) (h:Hp):R b1h [.agg (evr e)] h=some (.int .i64 (evE e),h):=c7Y e h fun p=>c8c e.fs e.fd p e.hfd
theorem b5d (i:It) (h:Hp):R a5E [.agg (itr i)] h=some (.int .i64 (itE i),h):=c7X i h (c7Z i.e h)
structure Rw where
 k:List Str
 kd:D
 hk:SlOf 1 (fun s=>[D.str s]) k kd
 hkl:k.length≤1000000
 n:List Int
 nd:D
 hn:SlOf 1 inr n nd
 hnl:n.length≤1000000
 er:Int
theorem a6l {α:Type} {l:List α} {i:Nat} {x:α} (h:l[i]?=some x):l.drop i=x::l.drop (i+1):=by
 obtain ⟨hn,hh⟩:=d7s.1 h
 rw [List.drop_eq_getElem_cons hn,hh]
def rwa:Rw:=⟨[],.nils,.nils _ _,by simp,[1],.sl 1 true [[.int .i64 1]],.inr ⟨true,rfl⟩,by simp,0⟩
theorem c2e (e:Ev) (h:Hp):R b3Y [.agg (evr e)] h=some (.int .i64 (if plB e=true then 0 else 2),h):=by
 rw [c9E]
 simp only [c4U,a1M,bs,evr,a5C,a5D,a4B,a2u,ld3,a0n,a0u,a1S]
 by_cases g1:e.a0<0
 ·have hp:plB e=false:=by
    cases hh:plB e
    ·rfl
    ·simp [-bind_some, plB] at hh;omega
  simp only [g1,hp,decide_true,decide_false,a0o,a1q,reduceCtorEq,d7e,d7d,if_true,if_false,bs,a5C,a5D,a4B,a2u,ld3,a0n,a0u,a1S,a0e,a0d,a0j]
 by_cases g2:999<e.a0
 ·have hp:plB e=false:=by
    cases hh:plB e
    ·rfl
    ·simp [-bind_some, plB] at hh;omega
  simp only [g1,g2,hp,decide_true,decide_false,a0o,a1q,reduceCtorEq,d7e,d7d,if_true,if_false,bs,a5C,a5D,a4B,a2u,ld3,a0n,a0u,a1S,a0e,a0d,a0j]
 by_cases g3:e.a1<0
 ·have hp:plB e=false:=by
    cases hh:plB e
    ·rfl
    ·simp [-bind_some, plB] at hh;omega
  simp only [g1,g2,g3,hp,decide_true,decide_false,a0o,a1q,reduceCtorEq,d7e,d7d,if_true,if_false,bs,a5C,a5D,a4B,a2u,ld3,a0n,a0u,a1S,a0e,a0d,a0j]
 by_cases g4:2147483646<e.a1
 ·have hp:plB e=false:=by
    cases hh:plB e
    ·rfl
    ·simp [-bind_some, plB] at hh;omega
  simp only [g1,g2,g3,g4,hp,decide_true,decide_false,a0o,a1q,reduceCtorEq,d7e,d7d,if_true,if_false,bs,a5C,a5D,a4B,a2u,ld3,a0n,a0u,a1S,a0e,a0d,a0j]
 by_cases g5:e.a2<0
 ·have hp:plB e=false:=by
    cases hh:plB e
    ·rfl
    ·simp [-bind_some, plB] at hh;omega
  simp only [g1,g2,g3,g4,g5,hp,decide_true,decide_false,a0o,a1q,reduceCtorEq,d7e,d7d,if_true,if_false,bs,a5C,a5D,a4B,a2u,ld3,a0n,a0u,a1S,a0e,a0d,a0j]
 by_cases g6:e.a3≤e.a2
 ·have hp:plB e=false:=by
    cases hh:plB e
    ·rfl
    ·simp [-bind_some, plB] at hh;omega
  simp only [g1,g2,g3,g4,g5,g6,hp,decide_true,decide_false,a0o,a1q,reduceCtorEq,d7e,d7d,if_true,if_false,bs,a5C,a5D,a4B,a2u,ld3,a0n,a0u,a1S,a0e,a0d,a0j]
 by_cases g7:60000<e.a3
 ·have hp:plB e=false:=by
    cases hh:plB e
    ·rfl
    ·simp [-bind_some, plB] at hh;omega
  simp only [g1,g2,g3,g4,g5,g6,g7,hp,decide_true,decide_false,a0o,a1q,reduceCtorEq,d7e,d7d,if_true,if_false,bs,a5C,a5D,a4B,a2u,ld3,a0n,a0u,a1S,a0e,a0d,a0j]
 have hp:plB e=true:=by simp [-bind_some, plB];omega
 simp only [g1,g2,g3,g4,g5,g6,g7,hp,decide_true,decide_false,a0o,a1q,reduceCtorEq,d7e,d7d,if_true,if_false,bs,a5C,a5D,a4B,a2u,ld3,a0n,a0u,a1S,a0e,a0d,a0j]
theorem c7V (w:Int) (h:Hp):R b7j [.int .i64 w] h=some (.bool (decide (¬ (w<1∨Int.tmod 5040 w≠0))),h):=by
 rw [c9G]
 simp only [c4W,bs,a3x,a1S]
 by_cases h1:w<1
 ·have g1:¬ w≥1:=by omega
  simp only [h1,g1,decide_false,a0o,reduceCtorEq,d7d,if_false,bs,a0e,true_or,not_true,a0j]
 ·have g1:w≥1:=by omega
  have g0:¬ w=0:=by omega
  by_cases h2:w≤5040
  ·by_cases h3:Int.tmod 5040 w=0
   ·simp only [h1,g1,h2,g0,h3,decide_true,a0o,if_true,if_false,bs,a0e,a3j,a1S,a0Q,ne_eq,not_true,or_self,not_false_eq_true,a0j]
   ·simp only [h1,g1,h2,g0,h3,decide_true,decide_false,a0o,if_true,if_false,bs,a0e,a3j,a1S,a0Q,ne_eq,not_false_eq_true,or_true,not_true,a0j]
  ·have h3:¬ Int.tmod 5040 w=0:=by
     rw [Int.tmod_eq_emod_of_nonneg (by omega),Int.emod_eq_of_lt (by omega) (by omega)];omega
   simp only [h1,g1,h2,h3,decide_true,decide_false,a0o,reduceCtorEq,d7d,if_true,if_false,bs,a1S,a0e,ne_eq,not_false_eq_true,or_true,not_true,a0j]
theorem c2f (e:Ev) (m:Int) (h:Hp):R b3Z [.agg (evr e),.int .i64 m] h=some (.int .i64 (a2m e m),h):=by
 apply Wp.val
 rw [c9F]
 simp only [c4V,a1M,bs,d7c,evr,a6n,a4B,a9i,ld3,a2P e.hld,a0Q,a0u]
 by_cases g0:e.ls.length=0
 ·have g0':(e.ls.length:Int)=0:=by omega
  simp only [g0',decide_true,a0d,if_true,a0j]
  exact .some (by simp [-bind_some, a2m,g0])
 by_cases g4:40<e.ls.length
 ·have g0':¬ (e.ls.length:Int)=0:=by omega
  have g4':(40:Int)<(e.ls.length:Int):=by omega
  simp only [g0',g4',decide_true,decide_false,d7d,if_false,a0d,if_true,a0j]
  exact .some (by simp [-bind_some, a2m,g0,g4])
 have g0':¬ (e.ls.length:Int)=0:=by omega
 have g4':¬ (40:Int)<(e.ls.length:Int):=by omega
 have hE:a2m e m=lnE e.a3 m e.a2 e.ls:=by simp [-bind_some, a2m,g0,g4]
 rw [hE]
 generalize hV:lnE e.a3 m e.a2 e.ls=V
 simp only [g0',g4',decide_false,d7d,if_false,a0d]
 refine Wp.loop (fun k ds g=>g=h∧∃ a b c d f,∃ at_:Int,∃ i:Nat,ds=[a,.int .i64 at_,.int .i64 (i:Int),b,c,d,f]∧k+i=e.ls.length∧lnE e.a3 m at_ (e.ls.drop i)=V)
   (fun x=>x.2.2=h∧((x.1 = .ext 0∧V=0)∨(x.1 = .ret∧nth 0 x.2.1 = .int .i64 V))) e.ls.length ⟨rfl,_,_,_,_,_,_,0,rfl,rfl,hV⟩ ?_ ?_
 ·rintro k ds g ⟨rfl,a,b,c,d,f,at_,i,rfl,hk,hch⟩
  simp only [b2Z,a0g,a0q,bs,d7c,a6n,a9i,a2P e.hld,a0n]
  refine Wp.dif ?_ ?_
  ·intro h0
   have h0:i<e.ls.length:=dl_ h0
   have hg:e.ls[i]?=some e.ls[i]:=d7r h0
   have hw:=wi_ i (by omega)
   have hw4:IntKind.wrap .i64 ((e.ls.length:Int) - 1)=(e.ls.length:Int) - 1:=wrap_i64 (by omega) (by omega)
   rw [List.drop_eq_getElem_cons h0] at hch
   generalize e.ls[i]=x at hg hch
   have hix:a0c tab a1i e.ld (.int .i64 (i:Int))=some (.fptr (a1p x)):=by rw [a8e e.hld];simp [-bind_some, hg]
   have hr:e.ls.drop (i+1)=[]↔(i:Int)=(e.ls.length:Int) - 1:=by
    rw [List.drop_eq_nil_iff];omega
   have l0:a0b tab g a1o (.fptr (a1p x))=some (.agg (a1p x)):=id rfl
   have l1:a3s 3 (.agg (a1p x))=some (.fptr (a1p x)):=a1T 3 _ rfl
   have f0:a0a tab a1o 0 (.fptr (a1p x))=some (.fptr (a1p x)):=id rfl
   have f1:a0a tab a1o 1 (.fptr (a1p x))=some (.fptr [.int .i64 x.len,.str x.txt]):=id rfl
   have f2:a0a tab a1o 2 (.fptr (a1p x))=some (.fptr [.str x.txt]):=id rfl
   have k0:a0b tab g ty3 (.fptr (a1p x))=some (.int .i64 x.off):=id rfl
   have k1:a0b tab g ty3 (.fptr [.int .i64 x.len,.str x.txt])=some (.int .i64 x.len):=id rfl
   have k2:a0b tab g ty9 (.fptr [.str x.txt])=some (.str x.txt):=id rfl
   unfold lnE at hch
   simp only [hix,l0,l1,f0,f1,f2,k0,bs,a0w]
   by_cases c1:x.off=at_
   case neg =>
    rw [if_neg (fun hh=>c1 hh.1)] at hch
    simp only [c1,ne_eq,not_false_eq_true,decide_true,a0o,a1q,reduceCtorEq,d7e,if_false,bs,a0e,if_true,a0d]
    exact .some (.inr ⟨by simp,rfl,.inr ⟨rfl,by rw [← hch];rfl⟩⟩)
   by_cases c2:x.len<1
   ·rw [if_neg (fun hh=>hh.2.1 c2)] at hch
    simp only [c1,c2,ne_eq,not_true,decide_true,decide_false,a0o,a1q,reduceCtorEq,d7e,d7d,if_false,bs,k1,a0n,a0e,if_true,a0d]
    exact .some (.inr ⟨by simp,rfl,.inr ⟨rfl,by rw [← hch];rfl⟩⟩)
   generalize hT:IntKind.wrap .i64 (e.a3 - at_)=T at hch
   by_cases c3:T<x.len
   ·rw [if_neg (fun hh=>hh.2.2.1 c3)] at hch
    simp only [c1,c2,c3,ne_eq,not_true,decide_true,decide_false,a0o,a1q,reduceCtorEq,d7e,d7d,if_false,bs,k1,a2u,ld3,a0D,hT,a0n,a0u,a0e,if_true,a0d]
    exact .some (.inr ⟨by simp,rfl,.inr ⟨rfl,by rw [← hch];rfl⟩⟩)
   by_cases c4:e.ls.drop (i+1)=[]∧x.len<T
   ·rw [if_neg (fun hh=>hh.2.2.2 c4)] at hch
    have c5:(i:Int)=(e.ls.length:Int) - 1:=hr.1 c4.1
    have c6:¬ x.len=T:=by have:=c4.2;omega
    have d5:decide ((i:Int)=(e.ls.length:Int) - 1)=true:=decide_eq_true c5
    simp only [c1,c2,c3,d5,c6,ne_eq,not_true,not_false_eq_true,decide_true,decide_false,a0o,a1q,reduceCtorEq,d7e,d7d,if_false,bs,k1,a2u,a6n,a9i,a2P e.hld,ld3,a0D,hw4,hT,a0n,a0u,a0Q,a0w,a0e,if_true,a0d]
    exact .some (.inr ⟨by simp,rfl,.inr ⟨rfl,by rw [← hch];rfl⟩⟩)
   rw [if_pos ⟨c1,c2,c3,c4⟩] at hch
   have c6:(i:Int)=(e.ls.length:Int) - 1→x.len=T:=fun c5=>by
    have:¬ x.len<T:=fun hh=>c4 ⟨hr.2 c5,hh⟩
    omega
   by_cases c7:m<x.txt.length
   ·rw [if_pos c7] at hch
    have c7':(x.txt.length:Int)>m:=c7
    by_cases c5:(i:Int)=(e.ls.length:Int) - 1
    ·replace c6:=c6 c5
     have d5:decide ((i:Int)=(e.ls.length:Int) - 1)=true:=decide_eq_true c5
     have d6:decide (¬ x.len=T)=false:=decide_eq_false (fun hh=>hh c6)
     simp only [c1,c2,c3,d5,d6,c7',ne_eq,not_true,not_false_eq_true,decide_true,decide_false,a0o,a1q,reduceCtorEq,d7e,d7d,if_false,bs,k1,k2,a2u,a6n,a9i,a2P e.hld,ld3,a0D,hw4,hT,a0n,a0u,a0Q,a0w,a0e,if_true,a0d,a4W,a0t,hw,Int.lt_irrefl]
     exact .some (.inr ⟨by simp,rfl,.inr ⟨rfl,by rw [← hch];rfl⟩⟩)
    ·clear c6
     simp only [c1,c2,c3,c5,c7',ne_eq,not_true,not_false_eq_true,decide_true,decide_false,a0o,a1q,reduceCtorEq,d7e,d7d,if_false,bs,k1,k2,a2u,a6n,a9i,a2P e.hld,ld3,a0D,hw4,hT,a0n,a0u,a0Q,a0w,a0e,if_true,a0d,a4W,a0t,hw,Int.lt_irrefl]
     exact .some (.inr ⟨by simp,rfl,.inr ⟨rfl,by rw [← hch];rfl⟩⟩)
   ·rw [if_neg c7] at hch
    have c7':¬ (x.txt.length:Int)>m:=c7
    by_cases c5:(i:Int)=(e.ls.length:Int) - 1
    ·replace c6:=c6 c5
     have d5:decide ((i:Int)=(e.ls.length:Int) - 1)=true:=decide_eq_true c5
     have d6:decide (¬ x.len=T)=false:=decide_eq_false (fun hh=>hh c6)
     simp only [c1,c2,c3,d5,d6,c7',ne_eq,not_true,not_false_eq_true,decide_true,decide_false,a0o,a1q,reduceCtorEq,d7e,d7d,if_false,bs,k1,k2,a2u,a6n,a9i,a2P e.hld,ld3,a0D,hw4,hT,a0n,a0u,a0Q,a0w,a0e,if_true,a0d,a4W,a0t,hw,Int.lt_irrefl]
     exact .some (.inl ⟨rfl,k - 1,by omega,rfl,_,_,_,_,_,_,i+1,rfl,by omega,hch⟩)
    ·clear c6
     simp only [c1,c2,c3,c5,c7',ne_eq,not_true,not_false_eq_true,decide_true,decide_false,a0o,a1q,reduceCtorEq,d7e,d7d,if_false,bs,k1,k2,a2u,a6n,a9i,a2P e.hld,ld3,a0D,hw4,hT,a0n,a0u,a0Q,a0w,a0e,if_true,a0d,a4W,a0t,hw,Int.lt_irrefl]
     exact .some (.inl ⟨rfl,k - 1,by omega,rfl,_,_,_,_,_,_,i+1,rfl,by omega,hch⟩)
  ·intro h0
   have h0:e.ls.length≤i:=by
    have:¬ (i:Int)<e.ls.length:=by simpa using h0
    omega
   rw [List.drop_of_length_le h0] at hch
   exact .some (.inr ⟨by simp,rfl,.inl ⟨rfl,hch.symm⟩⟩)
 ·rintro ⟨ex,ds,g⟩ ⟨h2,h3⟩
  simp only at h2 h3
  subst h2
  rcases h3 with ⟨rfl,rfl⟩ | ⟨rfl,hv⟩
  ·simp only [a0r,a0s,bs,a0j]
   exact .some rfl
  ·simp only [a1O,a1N,a1L,a0g,bs,hv,a0j]
   exact .some rfl
def ltS (x y:Str × Str):Prop:=Op.bytesLess x.1 y.1=true
theorem b8h {x y:Str × Str} (h:ltS x y):leS x y:=by
 rw [a8h]
 cases hh:Op.bytesLess y.1 x.1
 ·rfl
 ·have:=b6s h hh
  rw [b0K] at this;cases this
theorem c7s {C:List (Str × Str)} (h:C.Pairwise ltS):a8E C=false:=by
 rw [a4h (h.imp b8h),List.Nodup,List.pairwise_map]
 exact h.imp fun {a b} hab he=>by
  have:Op.bytesLess a.1 b.1=true:=hab
  rw [he,b0K] at this;cases this
theorem c4m {l C:List (Str × Str)} (hp:C.Perm l) (hs:C.Pairwise ltS) (h32:l.length≤32) (hn:l.all (fun p=>a1P p.1)=true):a1W l=(0,C):=by
 obtain ⟨a1,a2⟩:=b5h hp (hs.imp b8h)
 have h:=c7s hs
 have h32n:¬ 32<l.length:=by omega
 rw [a2 h]
 rw [h] at a1
 simp only [a1W,h32n,if_false,hn,if_true,← a1,d7d]
theorem c1f {l:List (Str × Str)} (h32:l.length≤32) (hn:l.all (fun p=>a1P p.1)=true) (hd:¬ (l.map Prod.fst).Nodup):a1W l=(7,[]):=by
 obtain ⟨h1,h2⟩:=c2h l
 have:a8E (srt l)=true:=by
  cases hq:a8E (srt l)
  ·rw [a4h h2,(h1.map Prod.fst).nodup_iff] at hq
   exact absurd hq hd
  ·rfl
 have h32n:¬ 32<l.length:=by omega
 simp only [a1W,h32n,if_false,hn,if_true,this]
theorem c7f (l:List (Str × Str)) (d:D) (h:Hp) (hd:SlOf 2 fld l d) (hl:l.length≤32) (hb:∀ p∈l,p.1.length≤9223372036854775807) {β:Type} {K:Out→Option β} {Q:β→Prop} (a b x1 x2:D)
  (k1:l.all (fun p=>a1P p.1)=true→∀ x y z,Wp (K (.ext 0,[a,b,x,y,z],h)) Q) (k2:¬ l.all (fun p=>a1P p.1)=true→∀ x y z,Wp (K (.ret,[.nils,.int .i64 6,x,y,z],h)) Q) :
  Wp ((a0P (a9s d) [a,b,.int .i64 0,x1,x2] h).bind K) Q:=by
 generalize hV:l.all (fun p=>a1P p.1)=V at k1 k2
 refine Wp.loop (fun k ds g=>g=h∧∃ e f,∃ i:Nat,ds=[a,b,.int .i64 i,e,f]∧k+i=l.length∧(l.drop i).all (fun p=>a1P p.1)=V)
   (fun x=>x.2.2=h∧((x.1 = .ext 0∧V=true∧∃ p q r,x.2.1=[a,b,p,q,r])∨(x.1 = .ret∧V=false∧∃ p q r,x.2.1=[.nils,.int .i64 6,p,q,r]))) l.length ⟨rfl,_,_,0,rfl,rfl,hV⟩ ?_ ?_
 ·rintro k ds g ⟨rfl,e,f,i,rfl,hk,hch⟩
  simp only [a9s,a0g,a0q,bs,d7c,a2w hd,a0n]
  refine Wp.dif ?_ ?_
  ·intro h0
   have h0:i<l.length:=dl_ h0
   have hg:l[i]?=some l[i]:=d7r h0
   have hw:=wi_ i (by omega)
   have hbx:=hb l[i] (List.getElem_mem _)
   rw [List.drop_eq_getElem_cons h0] at hch
   generalize l[i]=x at hg hch hbx
   simp only [a8K hd,Int.natCast_nonneg,if_true,d7l,hg,Option.map_some,bs,a8X x,a8Y,d2F x.1 g hbx,a1C]
   simp only [List.all_cons] at hch
   cases hf:a1P x.1
   ·rw [hf] at hch
    simp only [d7n,a0d,if_true]
    exact .some (.inr ⟨by simp,rfl,.inr ⟨rfl,hch.symm,_,_,_,rfl⟩⟩)
   ·rw [hf] at hch
    simp only [d7m,a0d,d7d,if_false,a0t,bs,hw]
    exact .some (.inl ⟨rfl,k - 1,by omega,rfl,_,_,i+1,rfl,by omega,hch⟩)
  ·intro h0
   have h0:l.length≤i:=by
    have:¬ (i:Int)<l.length:=by simpa using h0
    omega
   rw [List.drop_of_length_le h0] at hch
   exact .some (.inr ⟨by simp,rfl,.inl ⟨rfl,hch.symm,_,_,_,rfl⟩⟩)
 ·rintro ⟨x,ds,g⟩ ⟨h2,h3⟩
  simp only at h2 h3
  subst h2
  rcases h3 with ⟨rfl,hv,p,q,r,rfl⟩ | ⟨rfl,hv,p,q,r,rfl⟩
  ·exact k1 hv _ _ _
  ·exact k2 (by rw [hv];simp [-bind_some]) _ _ _
theorem c7g (l:List (Str × Str)) (d:D) (hd:SlOf 2 fld l d) (ds0:List D) (i:Nat) (x:Str × Str) (hx:l[i]?=some x) (hi1:nth 3 ds0 = .int .i64 (i:Int)) (O:List (Str × Str)) (hOl:O.length≤1000) (ob:Nat) (g:Hp) (hg:g[ob]?=some (.row a0x 2 ((O++[x]).map fld))) (b:D) {β:Type} {f:Out→Option β} {Q:β→Prop}
  (K:∀ (k:Nat) (z:Str × Str) (g':Hp) (v:D),k≤O.length→g'[ob]?=some (.row a0x 2 ((O.take k++z::O.drop k).map fld))→Same ob g g'→(k=0∨∃ y,O[k - 1]?=some y∧¬ ltS x y)→(∀ j y,k≤j→O[j]?=some y→ltS x y)→Wp (f (.ext 4,[.int .i64 (k:Int),v],g')) Q) :
  Wp ((a0P (a9t d ds0 (.msl 2 ob 0 (O.length+1))) [.int .i64 (O.length:Int),b] g).bind f) Q:=by
 refine Wp.loop (fun n ds g'=>∃ c z,ds=[.int .i64 (n:Int),c]∧n≤O.length∧g'[ob]?=some (.row a0x 2 ((O.take n++z::O.drop n).map fld))∧Same ob g g'∧∀ j y,n≤j→O[j]?=some y→ltS x y)
  (fun r=>r.1 = .ext 4∧∃ (k:Nat) (z:Str × Str) (v:D),r.2.1=[.int .i64 (k:Int),v]∧k≤O.length∧r.2.2[ob]?=some (.row a0x 2 ((O.take k++z::O.drop k).map fld))∧Same ob g r.2.2∧(k=0∨∃ y,O[k - 1]?=some y∧¬ ltS x y)∧(∀ j y,k≤j→O[j]?=some y→ltS x y)) O.length
  ⟨_,x,rfl,Nat.le_refl _,by rw [d7A,List.drop_length];exact hg,.refl _ _,fun j y hj hy=>by have:=(d7s.1 hy).1;omega⟩ ?_ ?_
 ·rintro n ds g' ⟨c,z,rfl,hn,hg',sm,hall⟩
  have hix:a0c tab a1e d (.int .i64 (i:Int))=some (.fptr (fld x)):=by rw [a8K hd];simp [-bind_some, hx]
  simp only [a9t,a0g,a0q,bs,d7c,hi1,a0u]
  by_cases h0:n=0
  ·subst h0
   have d0:decide (((0:Nat):Int)>0)=false:=decide_eq_false (by omega)
   simp only [d0,a0o,a1q,reduceCtorEq,if_false,if_true,bs,a0e,d7d,a0d]
   exact .some (.inr ⟨by simp,rfl,0,z,_,rfl,by omega,hg',sm,.inl rfl,hall⟩)
  ·obtain ⟨m,rfl⟩:∃ m,n=m+1:=⟨n - 1,by omega⟩
   have d0:decide (((m+1:Nat):Int)>0)=true:=decide_eq_true (by omega)
   have hw:IntKind.wrap .i64 (((m+1:Nat):Int) - 1)=(m:Int):=by rw [wrap_i64 (by omega) (by omega)];omega
   obtain ⟨y,hy⟩:∃ y,O[m]?=some y:=⟨_,d7r (by omega)⟩
   have htl:(O.take (m+1)).length=m+1:=by simp;omega
   have hym:((O.take (m+1)++z::O.drop (m+1)).map fld)[m]?=some (fld y):=by
    rw [d7p,d7B (by omega),List.getElem?_take,if_pos (by omega),hy];rfl
   have hzm:((O.take (m+1)++z::O.drop (m+1)).map fld)[m+1]?=some (fld z):=by
    rw [d7p,a2j _ _ z _ htl];rfl
   have iy:a0c tab a1e (.msl 2 ob 0 (O.length+1)) (.int .i64 (m:Int))=some (.ptr ob m 0):=by rw [a8J,if_pos (by omega)];simp [-bind_some]
   have iz:a0c tab a1e (.msl 2 ob 0 (O.length+1)) (.int .i64 ((m+1:Nat):Int))=some (.ptr ob (m+1) 0):=by rw [a8J,if_pos (by omega)];simp [-bind_some]
   have ly:a0b tab g' ty9 (.ptr ob m 0)=some (.str y.1):=by rw [b2C,a0I hg',hym];rfl
   have lyr:a0b tab g' a0x (.ptr ob m 0)=some (.agg (fld y)):=by rw [b4A,a0I hg',hym];rfl
   simp only [d0,a0o,if_true,bs,a0D,hw,iy,a6o,ly,hix,a8X x,a8Y,d6x,a0e]
   by_cases hlt:ltS x y
   ·have hb:(!(Op.bytesLess y.1 x.1||y.1==x.1))=true:=by
      have h1:Op.bytesLess x.1 y.1=true:=hlt
      have h2:Op.bytesLess y.1 x.1=false:=(a8h x y).1 (b8h hlt)
      have h3:(y.1==x.1)=false:=by
       cases hq:(y.1==x.1)
       ·rfl
       ·rw [eq_of_beq hq,b0K] at h1;cases h1
      rw [h2,h3];rfl
    simp only [hb,a0d,if_true,a0D,hw,iy,lyr,iz,bs,d7c]
    refine a5J (off:=0) hg' hzm (by rfl) (by exact Nat.le_refl _) (by rfl) fun g2 p2 s2=>?_
    have hset:((O.take (m+1)++z::O.drop (m+1)).map fld).set (m+1) (spl (fld z) 0 (a0B (.agg (fld y))))=(O.take m++y::O.drop m).map fld:=by
     rw [show spl (fld z) 0 (a0B (.agg (fld y)))=fld y from rfl,← List.map_set,a4w _ _ z y _ htl,a6l hy,d7o,hy]
     simp [-bind_some]
    rw [hset] at p2
    try simp only [bs,a0D,hw]
    exact .some (.inl ⟨rfl,m,by omega,_,y,rfl,by omega,p2,sm.trans s2,fun j y' hj hy'=>by
     by_cases hjm:j=m
     ·subst hjm;rw [hy] at hy';injection hy' with hy';subst hy';exact hlt
     ·exact hall j y' (by omega) hy'⟩)
   ·have hb:(!(Op.bytesLess y.1 x.1||y.1==x.1))=false:=by
      by_cases h3:y.1=x.1
      ·have:(y.1==x.1)=true:=by simpa using h3
       rw [this];simp [-bind_some]
      ·have h1:Op.bytesLess x.1 y.1=false:=by
         cases hq:Op.bytesLess x.1 y.1
         ·rfl
         ·exact absurd hq hlt
       have h2:=b0L h1 (fun hh=>h3 hh.symm)
       rw [h2];rfl
    simp only [hb,a0d,d7d,if_false]
    exact .some (.inr ⟨by simp,rfl,m+1,z,_,rfl,hn,hg',sm,.inr ⟨y,by simpa using hy,hlt⟩,hall⟩)
 ·rintro ⟨ex,ds,g'⟩ ⟨rfl,k,z,v,rfl,k1,k2,k3,k4,k5⟩
  exact K k z g' v k1 k2 k3 k4 k5
theorem c7r {x y z:Str × Str} (h:ltS x y) (k:ltS y z):ltS x z:=b6s h k
theorem c1E {O:List (Str × Str)} {y:Str × Str} {k:Nat} (hs:O.Pairwise ltS) (h1:k=0∨∃ z,O[k - 1]?=some z∧ltS z y) (h2:∀ j z,k≤j→O[j]?=some z→ltS y z):(O.take k++y::O.drop k).Pairwise ltS:=by
 rw [List.pairwise_append]
 have hs':=hs
 rw [← List.take_append_drop k O,List.pairwise_append] at hs'
 have q1:∀ a∈O.take k,ltS a y:=by
  intro a ha
  rcases h1 with rfl | ⟨z,hz,hzy⟩
  ·simp at ha
  ·obtain ⟨j,hj⟩:=List.getElem?_of_mem ha
   rw [List.getElem?_take] at hj
   split at hj
   ·rename_i hjk
    by_cases hjz:j=k - 1
    ·subst hjz;rw [hz] at hj;injection hj with hj;subst hj;exact hzy
    ·obtain ⟨n1,e1⟩:=d7s.1 hj
     obtain ⟨n2,e2⟩:=d7s.1 hz
     have:=List.pairwise_iff_getElem.1 hs j (k - 1) n1 n2 (by omega)
     rw [e1,e2] at this
     exact c7r this hzy
   ·cases hj
 have q2:∀ b∈O.drop k,ltS y b:=by
  intro b hb
  obtain ⟨j,hj⟩:=List.getElem?_of_mem hb
  rw [List.getElem?_drop] at hj
  exact h2 (k+j) b (by omega) hj
 refine ⟨hs'.1,List.pairwise_cons.2 ⟨q2,hs'.2.1⟩,fun a ha b hb=>?_⟩
 rcases d7x.1 hb with rfl | hb
 ·exact q1 a ha
 ·exact hs'.2.2 a ha b hb
theorem c2T {l:List (Str × Str)} {i:Nat} {y z:Str × Str} (hy:l[i]?=some y) (hz:z∈l.take i) (he:z.1=y.1):¬ (l.map Prod.fst).Nodup:=by
 intro hn
 have e:l=l.take i++y::l.drop (i+1):=by
  rw [← a6l hy,List.take_append_drop]
 rw [e,d7j,d7k,List.nodup_append] at hn
 exact hn.2.2 z.1 (d7z.2 ⟨z,hz,rfl⟩) y.1 (by simp) he
theorem c7W (l:List (Str × Str)) (d:D) (h:Hp) (hd:SlOf 2 fld l d) (hb:∀ p∈l,p.1.length≤9223372036854775807):∃ d',R b4a [d] h=some (.tup [d',.int .i64 (a1W l).1],h)∧((a1W l).1=0→SlOf 2 fld (a1W l).2 d'):=by
 suffices Wp (R b4a [d] h) (fun p=>p.2=h∧∃ d',p.1 = .tup [d',.int .i64 (a1W l).1]∧((a1W l).1=0→SlOf 2 fld (a1W l).2 d')) by
  obtain ⟨⟨x,h'⟩,h1,rfl,d',rfl,h2⟩:=this
  exact ⟨d',h1,h2⟩
 have sc:∀ (g:Hp) (v:Int),h.length≤g.length→(∀ q,q<h.length→g[q]?=h[q]?)→scope h g (.tup [.nils,.int .i64 v])=some (.tup [.nils,.int .i64 v],h):=fun g v h1 h2=>a1n (by simp) (.tup _ fun x hx=>by
  simp only [d7x,List.not_mem_nil,or_false] at hx
  rcases hx with rfl | rfl
  ·exact .nils
  ·exact .int _ _) h1 h2
 rw [c9H]
 by_cases h32n:32<l.length
 ·have h32:decide ((l.length:Int)>32)=true:=decide_eq_true (by omega)
  have hs:a1W l=(4,[]):=by simp only [a1W,h32n,if_true]
  rw [hs]
  simp only [c2t,bs,d7c,a2w hd,a0u,h32,a0d,if_true,a1c,sc h 4 (Nat.le_refl _) (fun _ _=>rfl)]
  exact .some ⟨rfl,.nils,rfl,fun hh=>by cases hh⟩
 have h32:decide ((l.length:Int)>32)=false:=decide_eq_false (by omega)
 simp only [c2t,bs,d7c,a2w hd,a0u,h32,a0d,d7d,if_false]
 refine c7f l d h hd (by omega) hb _ _ _ _ (fun hv x y z=>?_) (fun hv x y z=>?_)
 case refine_2 =>
  have hs:a1W l=(6,[]):=by simp only [a1W,h32n,if_false,hv];rfl
  rw [hs]
  simp only [a1O,a1N,a1L,a0g,a0q,bs,a1c,sc h 6 (Nat.le_refl _) (fun _ _=>rfl)]
  exact .some ⟨rfl,.nils,rfl,fun hh=>by cases hh⟩
 simp only [a0r,a0s,a0g,a0q,bs,d7c]
 clear x y z
 refine Wp.loop (fun k ds g=>h.length≤g.length∧(∀ q,q<h.length→g[q]?=h[q]?)∧∃ a b x c e f u,∃ (i:Nat) (O:List (Str × Str)),ds=[a,b,x,.int .i64 (i:Int),c,e,f,u]∧k+i=l.length∧Own g h.length a0x 2 (O.map fld) x∧O.Perm (l.take i)∧O.Pairwise ltS)
   (fun r=>h.length≤r.2.2.length∧(∀ q,q<h.length→r.2.2[q]?=h[q]?)∧((r.1 = .ext 2∧∃ O:List (Str × Str),Own r.2.2 h.length a0x 2 (O.map fld) (nth 2 r.2.1)∧a1W l=(0,O))∨(r.1 = .ret∧nth 0 r.2.1 = .nils∧nth 1 r.2.1 = .int .i64 7∧a1W l=(7,[])))) l.length
   ⟨Nat.le_refl _,fun _ _=>rfl,_,_,_,_,_,_,_,0,[],rfl,rfl,Own.nils _ _ _ _,by simp,List.Pairwise.nil⟩ ?_ ?_
 ·rintro k ds g ⟨hgl,hgq,a,b,x,c,e,f,u,i,O,rfl,hk,ow,hp,hs⟩
  simp only [b3a,a0g,a0q,bs,d7c,a2w hd,a0n]
  refine Wp.dif ?_ ?_
  ·intro h0
   have h0:i<l.length:=dl_ h0
   obtain ⟨y,hy⟩:=gx_ h0
   have hw:=wi_ i (by omega)
   have hOl:O.length=i:=by rw [hp.length_eq,d7w];omega
   have hlit:a0X tab a1e 1 [0] [.agg (fld y)]=some (.sl 2 true [fld y]):=id rfl
   have hix:a0c tab a1e d (.int .i64 (i:Int))=some (.fptr (fld y)):=by rw [a8K hd];simp [-bind_some, hy]
   simp only [c1L ow,d7i,hix,bs,b1g,hlit,d7c]
   refine b6k hgl ow (a1d _ _ _ _) (by simp only [d7i,d7t,d7u];omega) fun x1 g1 ow1 len1 bel1 _ _=>?_
   have hrow:O.map fld++[fld y]=(O++[y]).map fld:=by simp
   rw [hrow] at ow1
   obtain ⟨ob,hob,rfl,hgo⟩:=a8m ow1 (i:=0) (by simp)
   have hlen1:((O++[y]).map fld).length=O.length+1:=by simp
   rw [hlen1]
   try simp only [bs]
   refine c7g l d hd [a,b,x,.int .i64 (i:Int),c,e,f,u] i y hy rfl O (by omega) ob g1 hgo _ fun k' z g2 v k1 k2 k3 k4 k5=>?_
   have hm:(O.take k').length=k':=by simp;omega
   have hzk:((O.take k'++z::O.drop k').map fld)[k']?=some (fld z):=by rw [d7p,a2j _ _ z _ hm];rfl
   have ik:a0c tab a1e (.msl 2 ob 0 (O.length+1)) (.int .i64 (k':Int))=some (.ptr ob k' 0):=by rw [a8J,if_pos (by omega)];simp [-bind_some]
   simp only [a0r,a0s,bs,a0g,a0q,d7c,hix,b1g,ik]
   refine a5J (off:=0) k2 hzk (by rfl) (by exact Nat.le_refl _) (by rfl) fun g3 p3 s3=>?_
   rw [show spl (fld z) 0 (a0B (.agg (fld y)))=fld y from rfl,← List.map_set,a4w _ _ z y _ hm] at p3
   have hlenN:(O.take k'++y::O.drop k').length=O.length+1:=by
    have:=congrArg List.length (List.take_append_drop k' O)
    simp only [d7h,d7t] at this ⊢;omega
   have ow3:Own g3 h.length a0x 2 ((O.take k'++y::O.drop k').map fld) (.msl 2 ob 0 (O.length+1)) := .inr ⟨ob,hob,by rw [d7i,hlenN],p3⟩
   have hgl3:h.length≤g3.length:=by have:=s3.1;have:=k3.1;omega
   have hgq3:∀ q,q<h.length→g3[q]?=h[q]?:=fun q hq=>by rw [s3.2 q (by omega),k3.2 q (by omega),bel1 q hq];exact hgq q hq
   have hpN:(O.take k'++y::O.drop k').Perm (l.take (i+1)):=by
    rw [d7o,hy,Option.toList_some]
    refine List.perm_middle.trans ?_
    rw [List.take_append_drop]
    exact (List.Perm.cons y hp).trans (by simpa using (List.perm_append_comm (l₁:=[y]) (l₂:=l.take i)))
   have nxt:(O.take k'++y::O.drop k').Pairwise ltS→∀ (c1 c2 c3 c4 c5 c6:D),(fun r:Out=>(r.1 = .nrm∧∃ k'' ,k''<k∧h.length≤r.2.2.length∧(∀ q,q<h.length→r.2.2[q]?=h[q]?)∧∃ a b x c e f u,∃ (i:Nat) (O:List (Str × Str)),r.2.1=[a,b,x,.int .i64 (i:Int),c,e,f,u]∧k''+i=l.length∧Own r.2.2 h.length a0x 2 (O.map fld) x∧O.Perm (l.take i)∧O.Pairwise ltS)) (.nrm,[c1,c2,.msl 2 ob 0 (O.length+1),.int .i64 ((i+1:Nat):Int),c3,c4,c5,c6],g3):=fun hs3 c1 c2 c3 c4 c5 c6=>⟨rfl,k - 1,by omega,hgl3,hgq3,_,_,_,_,_,_,_,i+1,_,rfl,by omega,ow3,hpN,hs3⟩
   try simp only [bs,a0u,d7c]
   by_cases hk0:k'=0
   ·subst hk0
    have d0:decide (((0:Nat):Int)>0)=false:=decide_eq_false (by omega)
    simp only [d0,a0o,a1q,reduceCtorEq,if_false,if_true,bs,a0e,d7d,a0d,a0t,hw]
    exact .some (.inl (nxt (c1E hs (.inl rfl) k5) _ _ _ _ _ _))
   ·obtain ⟨w,hwk,hwn⟩:=k4.resolve_left hk0
    have d0:decide ((k':Int)>0)=true:=decide_eq_true (by omega)
    have hw1:IntKind.wrap .i64 ((k':Int) - 1)=((k' - 1:Nat):Int):=by rw [wrap_i64 (by omega) (by omega)];omega
    have iw:a0c tab a1e (.msl 2 ob 0 (O.length+1)) (.int .i64 ((k' - 1:Nat):Int))=some (.ptr ob (k' - 1) 0):=by rw [a8J,if_pos (by omega)];simp [-bind_some]
    have hwr:((O.take k'++y::O.drop k').map fld)[k' - 1]?=some (fld w):=by
     rw [d7p,d7B (by omega),List.getElem?_take,if_pos (by omega),hwk];rfl
    have lw:a0b tab g3 ty9 (.ptr ob (k' - 1) 0)=some (.str w.1):=by rw [b2C,a0I p3,hwr];rfl
    simp only [d0,a0o,if_true,bs,a0D,hw1,iw,a6o,lw,hix,a8X y,a8Y,a2H,a0e]
    by_cases heq:w.1=y.1
    ·have hb1:(w.1==y.1)=true:=by simpa using heq
     have hwm:w∈l.take i:=hp.mem_iff.1 (d7q hwk)
     have hd7:=c1f (l:=l) (by omega) hv (c2T hy hwm heq)
     simp only [hb1,a0d,if_true]
     exact .some (.inr ⟨by simp,hgl3,hgq3,.inr ⟨rfl,rfl,rfl,hd7⟩⟩)
    ·have hb1:(w.1==y.1)=false:=by simpa using heq
     have hwy:ltS w y:=by
      have h1:Op.bytesLess y.1 w.1=false:=by
       cases hq:Op.bytesLess y.1 w.1
       ·rfl
       ·exact absurd hq hwn
      exact b0L h1 (fun hh=>heq hh.symm)
     simp only [hb1,a0d,d7d,if_false,a0t,hw,bs]
     exact .some (.inl (nxt (c1E hs (.inr ⟨w,hwk,hwy⟩) k5) _ _ _ _ _ _))
  ·intro h0
   have h0:l.length≤i:=by
    have:¬ (i:Int)<l.length:=by simpa using h0
    omega
   rw [List.take_of_length_le h0] at hp
   exact .some (.inr ⟨by simp,hgl,hgq,.inl ⟨rfl,O,ow,c4m hp hs (by omega) hv⟩⟩)
 ·rintro ⟨ex,ds,g⟩ ⟨hgl,hgq,h3⟩
  rcases h3 with ⟨rfl,O,ow,hO⟩ | ⟨rfl,n0,n1,hO⟩
  ·have hs:=a2g (n0:=h.length) (n:=2) ow (Nat.le_refl _) fun p _ y hy=>by
     simp only [fld,d7x,List.not_mem_nil,or_false] at hy
     rcases hy with rfl | rfl <;> exact c3g _ _ _ _
   have hsc:scope h g (.tup [nth 2 ds,.int .i64 0])=some (.tup [frz h.length g 3 (nth 2 ds),.int .i64 0],h):=by
    refine a1n (by simp) (.tup _ fun x hx=>?_) hgl hgq
    simp only [d7x,List.not_mem_nil,or_false] at hx
    rcases hx with rfl | rfl
    ·exact a1K hs fun p _ y hy=>by
       simp only [fld,d7x,List.not_mem_nil,or_false] at hy
       rcases hy with rfl | rfl <;> exact .str _
    ·exact .int _ _
   simp only [a0r,a0s,bs,a0g,a0q,a1c,hsc,hO]
   exact .some ⟨rfl,_,rfl,fun _=>hs⟩
  ·replace n0:nth 0 ds = .nils:=n0
   replace n1:nth 1 ds = .int .i64 7:=n1
   simp only [a1O,a1N,a1L,a0g,a0q,bs,n0,n1,a1c,sc g 7 hgl hgq,hO]
   exact .some ⟨rfl,.nils,rfl,fun hh=>by cases hh⟩
theorem d1Y (l:List (Str × Str)) (d:D) (h:Hp) (hd:SlOf 2 fld l d) (hl:l.length≤1000) {β:Type} {K:Out→Option β} {Q:β→Prop} (a x1 x2:D)
  (k1:(l.any fun p=>decide (2000<p.2.length))=false→∀ x y z,Wp (K (.ext 0,[a,x,y,z],h)) Q) (k2:(l.any fun p=>decide (2000<p.2.length))=true→∀ x y z,Wp (K (.ret,[.int .i64 3,x,y,z],h)) Q) :
  Wp ((a0P (a9r d) [a,.int .i64 0,x1,x2] h).bind K) Q:=by
 generalize hV:(l.any fun p=>decide (2000<p.2.length))=V at k1 k2
 refine Wp.loop (fun k ds g=>g=h∧∃ e f,∃ i:Nat,ds=[a,.int .i64 (i:Int),e,f]∧k+i=l.length∧((l.drop i).any fun p=>decide (2000<p.2.length))=V)
   (fun x=>x.2.2=h∧((x.1 = .ext 0∧V=false∧∃ p q r,x.2.1=[a,p,q,r])∨(x.1 = .ret∧V=true∧∃ p q r,x.2.1=[.int .i64 3,p,q,r]))) l.length ⟨rfl,_,_,0,rfl,rfl,hV⟩ ?_ ?_
 ·rintro k ds g ⟨rfl,e,f,i,rfl,hk,hch⟩
  simp only [a9r,a0g,a0q,bs,d7c,a2w hd,a0n]
  refine Wp.dif ?_ ?_
  ·intro h0
   have h0:i<l.length:=dl_ h0
   obtain ⟨x,hx⟩:=gx_ h0
   have hw:=wi_ i (by omega)
   rw [a6l hx] at hch
   have hix:a0c tab a1e d (.int .i64 (i:Int))=some (.fptr (fld x)):=by rw [a8K hd];simp [-bind_some, hx]
   have f1:a0a tab a0x 1 (.fptr (fld x))=some (.fptr [.str x.2]):=id rfl
   have l1:a0b tab g ty9 (.fptr [.str x.2])=some (.str x.2):=id rfl
   simp only [hix,f1,l1,bs,a4W,a0u]
   simp only [List.any_cons] at hch
   by_cases hf:2000<x.2.length
   ·have hf':(x.2.length:Int)>2000:=by omega
    simp only [hf,decide_true,Bool.true_or] at hch
    simp only [hf',decide_true,a0d,if_true]
    exact .some (.inr ⟨by simp,rfl,.inr ⟨rfl,hch.symm,_,_,_,rfl⟩⟩)
   ·have hf':¬ (x.2.length:Int)>2000:=by omega
    simp only [hf,decide_false,Bool.false_or] at hch
    simp only [hf',decide_false,a0d,d7d,if_false,a0t,bs,hw]
    exact .some (.inl ⟨rfl,k - 1,by omega,rfl,_,_,i+1,rfl,by omega,hch⟩)
  ·intro h0
   have h0:l.length≤i:=by
    have:¬ (i:Int)<l.length:=by simpa using h0
    omega
   rw [List.drop_of_length_le h0] at hch
   exact .some (.inr ⟨by simp,rfl,.inl ⟨rfl,hch.symm,_,_,_,rfl⟩⟩)
 ·rintro ⟨x,ds,g⟩ ⟨h2,h3⟩
  simp only at h2 h3
  subst h2
  rcases h3 with ⟨rfl,hv,p,q,r,rfl⟩ | ⟨rfl,hv,p,q,r,rfl⟩
  ·exact k1 hv _ _ _
  ·exact k2 hv _ _ _
def NmB (e:Ev):Prop:=∀ p∈e.fs,p.1.length≤9223372036854775807
theorem c7U (e:Ev) (h:Hp) (hb:NmB e):R b7i [.agg (evr e)] h=some (.int .i64 (evE e),h):=by
 apply Wp.val
 have q5:a0a tab a0E 5 (.fptr (evr e))=some (.fptr [.int .i64 e.a5,.int .i64 e.a6,.str e.s7,.str e.s8,e.fd]):=id rfl
 have q6:a0a tab a0E 6 (.fptr (evr e))=some (.fptr [.int .i64 e.a6,.str e.s7,.str e.s8,e.fd]):=id rfl
 have q7:a0a tab a0E 7 (.fptr (evr e))=some (.fptr [.str e.s7,.str e.s8,e.fd]):=id rfl
 have q8:a0a tab a0E 8 (.fptr (evr e))=some (.fptr [.str e.s8,e.fd]):=id rfl
 have q9:a0a tab a0E 9 (.fptr (evr e))=some (.fptr [e.fd]):=id rfl
 have l9:∀ g,a0b tab g a1e (.fptr [e.fd])=some e.fd:=fun g=>by
  have h1:=a1v e.hfd
  generalize e.fd=a at h1
  cases a <;> first | rfl | (simp [-bind_some, D.one] at h1)
 have hL:∀ g,a0b tab g a0E (.fptr (evr e))=some (.agg (evr e)):=fun g=>id rfl
 rw [c9D]
 simp only [c4T,a1M,bs,d7c,hL,c2e,q5,q6,q7,q8,q9]
 unfold evE
 by_cases c1:plB e=true
 case neg =>
  have c1':plB e=false:=by simpa using c1
  simp only [c1',d7d,if_false,a0w,ne_eq,show ¬ (2:Int)=0 by omega,not_false_eq_true,decide_true,a0o,a1q,reduceCtorEq,d7e,bs,a0e,if_true,a0d,d7n,Bool.true_or,a0j]
  exact .some rfl
 by_cases c2:e.a5<0
 ·have c2':¬ 0≤e.a5:=by omega
  simp only [c1,c2,c2',if_true,a0w,ne_eq,not_true,decide_true,decide_false,a0o,a1q,ld3,a0n,reduceCtorEq,d7e,d7d,if_false,bs,a0e,a0d,d7m,Bool.false_and,d7n,Bool.or_true,a0j]
  exact .some rfl
 have c2':0≤e.a5:=by omega
 by_cases c3:253402300799999<e.a5
 ·have c3':¬ e.a5≤253402300799999:=by omega
  simp only [c1,c2,c2',c3,c3',if_true,a0w,ne_eq,not_true,decide_true,decide_false,a0o,a1q,ld3,a0n,a0u,reduceCtorEq,d7e,d7d,if_false,bs,a0e,a0d,d7m,Bool.and_false,d7n,Bool.or_true,a0j,gt_iff_lt]
  exact .some rfl
 have c3':e.a5≤253402300799999:=by omega
 simp only [c1,c2,c2',c3,c3',if_true,a0w,ne_eq,not_true,decide_true,decide_false,a0o,a1q,ld3,a0n,a0u,reduceCtorEq,d7e,d7d,if_false,bs,a0e,a0d,d7m,Bool.and_true,Bool.or_self,Bool.and_self,gt_iff_lt,c7V,a1C,d7c]
 by_cases c4:e.a6<1∨¬ Int.tmod 5040 e.a6=0
 ·simp only [c4,not_true,decide_false,d7n,if_true,a0j]
  exact .some rfl
 simp only [c4,not_false_eq_true,decide_true,d7m,d7d,if_false,hL,c2f,bs,a0w,ne_eq]
 generalize hLn:a2m e 2000=L
 by_cases c5:L=0
 case neg =>
  simp only [c5,not_false_eq_true,decide_true,if_true,a0j]
  exact .some rfl
 subst c5
 simp only [not_true,decide_false,d7d,if_false,ld9,a4W,bs,a0u,gt_iff_lt]
 by_cases c6:32<e.s7.length
 ·have c6':(32:Int)<(e.s7.length:Int):=by omega
  simp only [c6,c6',true_or,decide_true,if_true,a0o,a1q,reduceCtorEq,if_false,d7e,bs,a0e,a0d,a0j]
  exact .some rfl
 have c6':¬ (32:Int)<(e.s7.length:Int):=by omega
 by_cases c7:32<e.s8.length
 ·have c7':(32:Int)<(e.s8.length:Int):=by omega
  simp only [c6,c6',c7,c7',or_true,decide_true,decide_false,if_true,a0o,if_false,d7d,bs,ld9,a4W,a0u,gt_iff_lt,a0e,a0d,a0j]
  exact .some rfl
 have c7':¬ (32:Int)<(e.s8.length:Int):=by omega
 obtain ⟨d',hs,hsl⟩:=c7W e.fs e.fd h e.hfd hb
 simp only [c6,c6',c7,c7',or_self,decide_false,if_true,a0o,if_false,d7d,bs,ld9,a4W,a0u,gt_iff_lt,a0e,a0d,l9,hs,a0J,d7f,d7g,a0w,ne_eq]
 have hsl2:=b1V e.fs
 have hs32:(a1W e.fs).1=0→(a1W e.fs).2.length≤1000:=fun h0=>by
  unfold a1W at h0 ⊢
  split
  ·simp [-bind_some]
  ·split
   ·split
    ·simp [-bind_some]
    ·simp only [b8Y];omega
   ·simp [-bind_some]
 generalize hS:a1W e.fs=S at hs hsl hsl2 hs32
 obtain ⟨v,s⟩:=S
 simp only at hsl hsl2 hs32 ⊢
 by_cases c8:v=0
 case neg =>
  simp only [c8,not_false_eq_true,decide_true,if_true,a0j]
  exact .some rfl
 subst c8
 have hsd:=hsl rfl
 have hsn:=hs32 rfl
 simp only [not_true,decide_false,d7d,if_false,bs,s95 s e.fs d' e.fd h hsd e.hfd (by omega),a1C,d7c]
 by_cases c9:s=e.fs
 case neg =>
  simp only [c9,decide_false,d7n,if_true,not_false_eq_true,a0j]
  exact .some rfl
 simp only [c9,decide_true,d7m,d7d,if_false,not_true]
 rw [c9] at hsd hsn
 refine d1Y e.fs d' h hsd hsn _ _ _ (fun hv x y z=>?_) (fun hv x y z=>?_)
 ·simp only [a0r,a0s,bs,a0j,hv,d7d,if_false]
  exact .some rfl
 ·simp only [a1O,a1N,a1L,a0g,bs,a0j,hv,if_true]
  exact .some rfl
theorem b0t (t m:Int):∀ (l:List Lin) (a:Int),lnE t m a l=0∨lnE t m a l=3∨lnE t m a l=19
 | [],a => .inl rfl
 | x::r,a=>by
  unfold lnE
  split
  ·split
   ·exact .inr (.inl rfl)
   ·exact b0t t m r _
  ·exact .inr (.inr rfl)
theorem c1N (t:Int):∀ (l:List Lin) (a:Int),(∀ x∈l,x.txt.length≤20000)→lnE t 20000 a l=lnE t 60000 a l
 | [],a,_=>rfl
 | x::r,a,h=>by
  have h0:=h x (by simp)
  have h1:=c1N t r (IntKind.wrap .i64 (a+x.len)) fun y hy=>h y (by simp [-bind_some, hy])
  have h2:¬ (20000:Int)<(x.txt.length:Int):=by omega
  have h3:¬ (60000:Int)<(x.txt.length:Int):=by omega
  simp only [lnE,h1,h2,h3,if_false]
def itR (i:It):Int :=
 if i.r=[] then evE i.e
 else if 32<i.r.length then 3
 else if plB i.e=false then 2
 else if a2m i.e 20000≠0∧a2m i.e 20000≠3 then a2m i.e 20000
 else if i.e.a5≠0∨i.e.a6≠0∨i.e.s7≠[]∨i.e.s8≠[]∨i.e.fs.length≠0∨(i.e.ls.any fun p => !(p.txt==[]))=true then 19 else 0
theorem c3m (i:It):itR i=itE i:=by
 unfold itR itE
 by_cases c0:i.r=[]
 ·simp only [c0,if_true]
 by_cases c1:32<i.r.length
 ·simp only [c0,c1,if_true,if_false]
 by_cases c2:plB i.e=false
 ·simp only [c0,c1,c2,if_true,if_false]
 simp only [c0,c1,c2,if_false]
 unfold a2m
 by_cases d0:i.e.ls.length=0
 ·simp [-bind_some, d0]
 by_cases d1:40<i.e.ls.length
 ·simp [-bind_some, d0,d1]
 simp only [d0,d1,if_false]
 have v20:=b0t i.e.a3 20000 i.e.ls i.e.a2
 have v60:=b0t i.e.a3 60000 i.e.ls i.e.a2
 by_cases hs:∀ x∈i.e.ls,x.txt.length≤20000
 ·rw [c1N i.e.a3 i.e.ls i.e.a2 hs]
  generalize lnE i.e.a3 60000 i.e.a2 i.e.ls=L at v60 ⊢
  rcases v60 with rfl | rfl | rfl <;> simp [-bind_some]
 ·have hany:(i.e.ls.any fun p => !(p.txt==[]))=true:=by
    rw [List.any_eq_true]
    refine Classical.byContradiction fun hn=>hs fun x hx=>?_
    refine Classical.byContradiction fun h2=>hn ⟨x,hx,?_⟩
    cases ht:x.txt with
    | nil=>rw [ht] at h2;simp at h2
    | cons a b=>rfl
  generalize (i.e.ls.any fun p => !(p.txt==[]))=bb at hany ⊢
  subst hany
  generalize lnE i.e.a3 60000 i.e.a2 i.e.ls=L at v60 ⊢
  generalize lnE i.e.a3 20000 i.e.a2 i.e.ls=M at v20 ⊢
  rcases v60 with rfl | rfl | rfl <;> rcases v20 with rfl | rfl | rfl <;> simp [-bind_some]
theorem d1W (e:Ev) (h:Hp) {β:Type} {K:Out→Option β} {Q:β→Prop} (a x1 x2:D)
  (k1:(e.ls.any fun p => !(p.txt==[]))=false→∀ x y z,Wp (K (.ext 0,[a,x,y,z],h)) Q) (k2:(e.ls.any fun p => !(p.txt==[]))=true→∀ x y z,Wp (K (.ret,[.int .i64 19,x,y,z],h)) Q) :
  Wp ((a0P (a9q (.fptr (evr e))) [a,.int .i64 0,x1,x2] h).bind K) Q:=by
 have q4:a0a tab a0E 4 (.fptr (evr e))=some (.fptr [e.ld,.int .i64 e.a5,.int .i64 e.a6,.str e.s7,.str e.s8,e.fd]):=id rfl
 have hl:=e.hll
 generalize hV:(e.ls.any fun p => !(p.txt==[]))=V at k1 k2
 refine Wp.loop (fun k ds g=>g=h∧∃ u f,∃ i:Nat,ds=[a,.int .i64 (i:Int),u,f]∧k+i=e.ls.length∧((e.ls.drop i).any fun p => !(p.txt==[]))=V)
   (fun x=>x.2.2=h∧((x.1 = .ext 0∧V=false∧∃ p q r,x.2.1=[a,p,q,r])∨(x.1 = .ret∧V=true∧∃ p q r,x.2.1=[.int .i64 19,p,q,r]))) e.ls.length ⟨rfl,_,_,0,rfl,rfl,hV⟩ ?_ ?_
 ·rintro k ds g ⟨rfl,u,f,i,rfl,hk,hch⟩
  simp only [a9q,a0g,a0q,bs,d7c,q4,a9i,a2P e.hld,a0n]
  refine Wp.dif ?_ ?_
  ·intro h0
   have h0:i<e.ls.length:=dl_ h0
   obtain ⟨x,hx⟩:=gx_ h0
   have hw:=wi_ i (by omega)
   rw [a6l hx] at hch
   have hix:a0c tab a1i e.ld (.int .i64 (i:Int))=some (.fptr (a1p x)):=by rw [a8e e.hld];simp [-bind_some, hx]
   have f1:a0a tab a1o 2 (.fptr (a1p x))=some (.fptr [.str x.txt]):=id rfl
   have l1:a0b tab g ty9 (.fptr [.str x.txt])=some (.str x.txt):=id rfl
   simp only [hix,f1,l1,bs,a2e]
   simp only [List.any_cons] at hch
   by_cases hf:(x.txt==[])=true
   ·simp only [hf,d7m,Bool.false_or] at hch
    simp only [hf,d7m,a0d,d7d,if_false,a0t,bs,hw]
    exact .some (.inl ⟨rfl,k - 1,by omega,rfl,_,_,i+1,rfl,by omega,hch⟩)
   ·have hf:(x.txt==[])=false:=by simpa using hf
    simp only [hf,d7n,Bool.true_or] at hch
    simp only [hf,d7n,a0d,if_true]
    exact .some (.inr ⟨by simp,rfl,.inr ⟨rfl,hch.symm,_,_,_,rfl⟩⟩)
  ·intro h0
   have h0:e.ls.length≤i:=by
    have:¬ (i:Int)<e.ls.length:=by simpa using h0
    omega
   rw [List.drop_of_length_le h0] at hch
   exact .some (.inr ⟨by simp,rfl,.inl ⟨rfl,hch.symm,_,_,_,rfl⟩⟩)
 ·rintro ⟨x,ds,g⟩ ⟨h2,h3⟩
  simp only at h2 h3
  subst h2
  rcases h3 with ⟨rfl,hv,p,q,r,rfl⟩ | ⟨rfl,hv,p,q,r,rfl⟩
  ·exact k1 hv _ _ _
  ·exact k2 hv _ _ _
theorem b5c (i:It) (h:Hp) (hb:NmB i.e):R a6w [.agg (itr i)] h=some (.int .i64 (itE i),h):=by
 rw [← c3m]
 apply Wp.val
 have hbx:a3s 10 (.agg (evr i.e))=some (.fptr (evr i.e)):=a1T 10 _ rfl
 have q5:a0a tab a0E 5 (.fptr (evr i.e))=some (.fptr [.int .i64 i.e.a5,.int .i64 i.e.a6,.str i.e.s7,.str i.e.s8,i.e.fd]):=id rfl
 have q6:a0a tab a0E 6 (.fptr (evr i.e))=some (.fptr [.int .i64 i.e.a6,.str i.e.s7,.str i.e.s8,i.e.fd]):=id rfl
 have q7:a0a tab a0E 7 (.fptr (evr i.e))=some (.fptr [.str i.e.s7,.str i.e.s8,i.e.fd]):=id rfl
 have q8:a0a tab a0E 8 (.fptr (evr i.e))=some (.fptr [.str i.e.s8,i.e.fd]):=id rfl
 have q9:a0a tab a0E 9 (.fptr (evr i.e))=some (.fptr [i.e.fd]):=id rfl
 rw [c9A]
 simp only [c4R,a1M,bs,d7c,c8L,c8M,c8N,evL,hbx,a2H,a0j]
 unfold itR
 by_cases c0:i.r=[]
 ·simp only [c0,beq_self_eq_true,a0d,if_true,c7U i.e h hb,bs]
  exact .some rfl
 have c0':(i.r==[])=false:=by simpa using c0
 simp only [c0,c0',a0d,d7d,if_false,a4W,bs,a0u]
 by_cases c1:32<i.r.length
 ·have c1':(i.r.length:Int)>32:=by omega
  simp only [c1,c1',decide_true,if_true]
  exact .some rfl
 have c1':¬ (i.r.length:Int)>32:=by omega
 simp only [c1,c1',decide_false,d7d,if_false,c2e,bs,a0w,ne_eq]
 by_cases c2:plB i.e=true
 case neg =>
  have c2':plB i.e=false:=by simpa using c2
  simp only [c2',d7d,if_false,show ¬ (2:Int)=0 by omega,not_false_eq_true,decide_true,a0d,if_true]
  exact .some rfl
 simp only [c2,if_true,not_true,decide_false,a0d,d7d,d7e,if_false,c2f,bs,a0w,ne_eq]
 generalize a2m i.e 20000=L
 by_cases c3:L≠0∧L≠3
 ·obtain ⟨c4,c5⟩:=c3
  simp only [ne_eq,c4,c5,not_false_eq_true,decide_true,a0o,if_true,bs,a0e,a0d,and_self,a0w]
  exact .some rfl
 have c3':decide (¬ L=0)=true→decide (¬ L=3)=false:=by
  intro q
  have q:¬ L=0:=by simpa using q
  by_cases h3:L=3
  ·simp [-bind_some, h3]
  ·exact absurd ⟨q,h3⟩ c3
 rw [if_neg (by simpa [-bind_some, ne_eq] using c3)]
 have step:∀ (K:D→Option (D × Hp)),((gd (.bool (decide (¬ L=0))) true (some (.int .i64 L))).bind fun t29=>(gd (.bool (decide (¬ L=0))) true (a0m tab .neq a5I t29 (.int .i64 3))).bind fun t30=>(a0O (.bool (decide (¬ L=0))) t30 (.bool false)).bind K)=K (.bool false):=by
  intro K
  cases hq:decide (¬ L=0) with
  | false=>simp only [a0o,d7d,if_false,reduceCtorEq,bs,a0e]
  | true=>simp only [a0o,if_true,bs,a0w,ne_eq,c3' hq,a0e]
 rw [step]
 simp only [a0d,d7d,if_false,q5,q6,q7,q8,q9,ld3,ld9,b6m,bs,a0w,a2e,a2w i.e.hfd,d7c,ne_eq]
 have hfl:(i.e.fs.length:Int)=0↔i.e.fs.length=0:=by omega
 by_cases d1n:¬ i.e.a5=0
 ·simp only [d1n,not_false_eq_true,true_or,decide_true,a0o,a1q,reduceCtorEq,if_true,d7e,if_false,bs,a0e,a0d]
  exact .some rfl
 have d1:i.e.a5=0:=Decidable.not_not.1 d1n
 by_cases d2n:¬ i.e.a6=0
 ·simp only [d1,d2n,not_true,not_false_eq_true,true_or,false_or,decide_true,decide_false,a0o,a1q,q6,ld3,a0w,ne_eq,reduceCtorEq,if_true,d7e,d7d,if_false,bs,a0e,a0d]
  exact .some rfl
 have d2:i.e.a6=0:=Decidable.not_not.1 d2n
 by_cases d3n:¬ i.e.s7=[]
 ·have d3b:(i.e.s7==[])=false:=by simpa using d3n
  simp only [d1,d2,d3n,d3b,not_true,not_false_eq_true,true_or,false_or,decide_true,decide_false,a0o,a1q,q6,q7,ld3,ld9,a0w,a2e,ne_eq,d7n,reduceCtorEq,if_true,d7e,d7d,if_false,bs,a0e,a0d]
  exact .some rfl
 have d3:i.e.s7=[]:=Decidable.not_not.1 d3n
 by_cases d4n:¬ i.e.s8=[]
 ·have d4b:(i.e.s8==[])=false:=by simpa using d4n
  simp only [d1,d2,d3,d4n,d4b,not_true,not_false_eq_true,true_or,false_or,decide_true,decide_false,a0o,a1q,q6,q7,q8,ld3,ld9,a0w,a2e,ne_eq,beq_self_eq_true,d7m,d7n,reduceCtorEq,if_true,d7e,d7d,if_false,bs,a0e,a0d]
  exact .some rfl
 have d4:i.e.s8=[]:=Decidable.not_not.1 d4n
 by_cases d5n:¬ i.e.fs.length=0
 ·simp only [d1,d2,d3,d4,d5n,hfl,not_true,not_false_eq_true,true_or,false_or,decide_true,decide_false,a0o,a1q,q6,q7,q8,q9,ld3,ld9,b6m,a2w i.e.hfd,a0w,a2e,ne_eq,beq_self_eq_true,d7m,d7n,reduceCtorEq,if_true,d7e,d7d,if_false,bs,a0e,a0d]
  exact .some rfl
 have d5:i.e.fs.length=0:=Decidable.not_not.1 d5n
 simp only [d1,d2,d3,d4,d5,hfl,not_true,false_or,decide_false,a0o,a1q,q6,q7,q8,q9,ld3,ld9,b6m,a2w i.e.hfd,a0w,a2e,ne_eq,beq_self_eq_true,d7m,reduceCtorEq,if_true,d7d,if_false,bs,a0e,a0d]
 refine d1W i.e h _ _ _ (fun hv x y z=>?_) (fun hv x y z=>?_)
 ·simp only [a0r,a0s,bs,a0j,hv,d7d,if_false]
  exact .some rfl
 ·simp only [a1O,a1N,a1L,a0g,bs,a0j,hv,if_true]
  exact .some rfl
theorem a9R {l:List Int} {d:D} (hd:SlOf 1 byr l d) (n0:Nat) (h:Hp) (n:Nat):frz n0 h (n+1) d=d:=a2Z hd fun a _ x hx=>a5L n0 h n a x hx
theorem b2g {l:List Int} {d:D} (hd:SlOf 1 byr l d) (n:Nat):Ok n d:=a1K hd fun a _ x hx=>by
 simp only [byr,List.mem_singleton] at hx
 subst hx
 constructor
def RdS (B:List Int) (d:D) (s:Cur) (x:D):Prop:=∃ n:Nat,x = .agg [d,.int .i64 n,.bool (!s.2)]∧n≤B.length∧B.drop n=s.1
structure M2 (h g:Hp) (T1 z1 T2 z2:Nat) (a b:List D):Prop where
 ha:g[h.length]?=some (.row T1 z1 [a])
 hb:g[h.length+1]?=some (.row T2 z2 [b])
 hl:h.length+2≤g.length
 lo:∀ q,q<h.length→g[q]?=h[q]?
theorem M2.new (h:Hp) (T1 z1 T2 z2:Nat) (a b:List D):M2 h (a0H (a0H h T1 z1 [a]) T2 z2 [b]) T1 z1 T2 z2 a b:=by
 have hl:(a0H h T1 z1 [a]).length=h.length+1:=by simp [-bind_some, a0H]
 refine ⟨?_,?_,by simp [-bind_some, a0H],fun q hq=>?_⟩
 ·rw [a0W _ _ _ _ (by omega)];exact a1a _ _ _ _
 ·rw [← hl];exact a1a _ _ _ _
 ·rw [a0W _ _ _ _ (by omega),a0W _ _ _ _ hq]
theorem M2.keep {h g g':Hp} {T1 z1 T2 z2:Nat} {a b:List D} (M:M2 h g T1 z1 T2 z2 a b) (hl:g.length≤g'.length) (ho:∀ q,q<g.length→g'[q]?=g[q]?):M2 h g' T1 z1 T2 z2 a b:=by
 have h1:=M.hl
 exact ⟨by rw [ho _ (by omega)];exact M.ha,by rw [ho _ (by omega)];exact M.hb,by omega,fun q hq=>by rw [ho q (by omega)];exact M.lo q hq⟩
theorem M2.sta {h g g':Hp} {T1 z1 T2 z2:Nat} {a b x:List D} (M:M2 h g T1 z1 T2 z2 a b) (p:g'[h.length]?=some (.row T1 z1 [x])) (s:Same h.length g g'):M2 h g' T1 z1 T2 z2 x b :=
 ⟨p,by rw [s.2 _ (by omega)];exact M.hb,by rw [s.1];exact M.hl,fun q hq=>by rw [s.2 q (by omega)];exact M.lo q hq⟩
theorem M2.stb {h g g':Hp} {T1 z1 T2 z2:Nat} {a b x:List D} (M:M2 h g T1 z1 T2 z2 a b) (p:g'[h.length+1]?=some (.row T2 z2 [x])) (s:Same (h.length+1) g g'):M2 h g' T1 z1 T2 z2 a x :=
 ⟨by rw [s.2 _ (by omega)];exact M.ha,p,by rw [s.1];exact M.hl,fun q hq=>by rw [s.2 q (by omega)];exact M.lo q hq⟩
theorem a3n {g:Hp} {n:Nat} {d x y:D} (h:g[n]?=some (.row a0l 3 [[d,x,y]])):a0b tab g a0N (.ptr n 0 (0+0))=some d∧a0b tab g ty3 (.ptr n 0 (0+1))=some x∧a0b tab g ty4 (.ptr n 0 (0+2))=some y∧a0b tab g a0l (.ptr n 0 0)=some (.agg [d,x,y]):=by
 refine ⟨?_,?_,?_,?_⟩
 ·rw [b7T,a0I h];rfl
 ·rw [a6R,a0I h];rfl
 ·rw [d2i,a0I h];rfl
 ·rw [c3z,a0I h];rfl
theorem a6W {g:Hp} {n T:Nat} {a b c x y z:D} (h:g[n]?=some (.row T 3 [[a,b,c]])) {β:Type} {f:Hp→Option β} {Q:β→Prop} (k:∀ g',g'[n]?=some (.row T 3 [[x,y,z]])→Same n g g'→Wp (f g') Q):Wp ((a0h tab g a0l (.ptr n 0 0) (.agg [x,y,z])).bind f) Q :=
 b9m (kk:=0) (row:=[a,b,c]) h rfl rfl (by simp) rfl fun g' p s=>k g' p s
theorem b8E {g:Hp} {n T:Nat} {a b c:D} {v:Bool} (h:g[n]?=some (.row T 3 [[a,b,c]])) {β:Type} {f:Hp→Option β} {Q:β→Prop} (k:∀ g',g'[n]?=some (.row T 3 [[a,b,.bool v]])→Same n g g'→Wp (f g') Q):Wp ((a0h tab g ty4 (.ptr n 0 (0+2)) (.bool v)).bind f) Q :=
 c8V (kk:=0) (row:=[a,b,c]) h rfl rfl (by simp) rfl fun g' p s=>k g' p s
theorem b2O {g:Hp} {n T:Nat} {a b c:D} {v:Int} (h:g[n]?=some (.row T 3 [[a,b,c]])) {β:Type} {f:Hp→Option β} {Q:β→Prop} (k:∀ g',g'[n]?=some (.row T 3 [[a,.int .i64 v,c]])→Same n g g'→Wp (f g') Q):Wp ((a0h tab g ty3 (.ptr n 0 (0+1)) (.int .i64 v)).bind f) Q :=
 b0H (kk:=0) (row:=[a,b,c]) h rfl rfl (by simp) rfl fun g' p s=>k g' p s
theorem b1O {h g:Hp} {B:List Int} {d:D} (hd:SlOf 1 byr B d) {n:Nat} {b:Bool} {v:D} (hv:∀ m k,frz m g (k+1) v=v) (hk:Ok h.length v) (hl:h.length≤g.length) (hb:∀ q,q<h.length→g[q]?=h[q]?):scope h g (.tup [.agg [d,.int .i64 n,.bool b],v])=some (.tup [.agg [d,.int .i64 n,.bool b],v],h):=by
 refine a1n ?_ ?_ hl hb
 ·simp [-bind_some, a9R hd,hv]
 ·refine .tup _ fun y hy=>?_
  simp at hy
  rcases hy with rfl | rfl
  ·refine .agg _ fun y hy=>?_
   simp at hy
   rcases hy with rfl | rfl | rfl
   ·exact b2g hd _
   ·constructor
   ·constructor
  ·exact hk
end Go.Proofs.YtjmndhbabkjebaaGreatDoor

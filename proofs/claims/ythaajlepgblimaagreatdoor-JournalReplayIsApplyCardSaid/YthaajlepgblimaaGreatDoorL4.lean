/- Laws, on plain data, about functions that the statement reaches. -/
import Derived.Test.YthaajlepgblimaaGreatDoorL3
set_option linter.unusedSimpArgs false
set_option linter.unusedVariables false
set_option linter.unnecessarySimpa false
set_option maxRecDepth 100000
namespace Go.Proofs.YthaajlepgblimaaGreatDoor
open Go.Eng Go.Pi
open Option (bind_some)
theorem a6G {n0:Nat} {h0 h:Hp} {d0 d:D} {l:List Int} (B:Bw n0 h0 d0 h l d) (hn:n0≤h.length) (s:Str) (hr:l.length+s.length≤999998000) {β:Type} {f:D × Hp→Option β} {Q:β→Prop}
  (k:∀ d' h',Bw n0 h0 d0 h' (l++pS s) d'→n0≤h'.length→Wp (f (d',h')) Q):Wp ((R a6j [d,.str s] h).bind f) Q:=by
 obtain ⟨d',h',e,B1⟩:=d6o s n0 h l d hn B.ow hr
 exact Wp.step e (k d' h' (B.trans B1) (Nat.le_trans hn B1.len))
theorem a4I {n0:Nat} {h0 h:Hp} {d0 d:D} {l:List Int} (B:Bw n0 h0 d0 h l d) (hn:n0≤h.length) (n:Int) (hr:l.length≤999999000) {β:Type} {f:D × Hp→Option β} {Q:β→Prop}
  (k:∀ d' h',Bw n0 h0 d0 h' (l++pI n) d'→n0≤h'.length→Wp (f (d',h')) Q):Wp ((R a4A [d,.int .i64 n] h).bind f) Q:=by
 obtain ⟨d',h',e,B1⟩:=d6p n n0 h l d hn B.ow hr
 exact Wp.step e (k d' h' (B.trans B1) (Nat.le_trans hn B1.len))
theorem b8Y {n0:Nat} {h0 h:Hp} {d0 d:D} {l:List Int} (B:Bw n0 h0 d0 h l d) (hn:n0≤h.length) (v:Int) (hr:l.length≤999999000) {β:Type} {f:D × Hp→Option β} {Q:β→Prop}
  (k:∀ d' h',Bw n0 h0 d0 h' (l++a3X 4 v) d'→n0≤h'.length→Wp (f (d',h')) Q):Wp ((R a3N [d,.int .u64 v,.int .i64 4] h).bind f) Q:=by
 obtain ⟨d',h',e,B1⟩:=b9o v 4 (by omega) n0 h l d hn B.ow hr
 exact Wp.step e (k d' h' (B.trans B1) (Nat.le_trans hn B1.len))
theorem b6h {n0:Nat} {h0 h:Hp} {d0 d y:D} {l m:List Int} (B:Bw n0 h0 d0 h l d) (hn:n0≤h.length) (hy:a1a h 1 y=some (m.map byr)) (hl:l.length+m.length≤1000000000) {β:Type} {f:D × Hp→Option β} {Q:β→Prop}
  (k:∀ d' h',Bw n0 h0 d0 h' (l++m) d'→n0≤h'.length→Wp (f (d',h')) Q):Wp ((a0q tab h a0L a0L d y).bind f) Q:=by
 obtain ⟨d',h',e,B1⟩:=b5t hn B.ow hy hl
 exact Wp.step e (k d' h' (B.trans B1) (Nat.le_trans hn B1.len))
def lnB (l:Lin):List Int:=pI l.off++pI l.len++pS l.txt
def fdB (f:Str × Str):List Int:=pS f.1++pS f.2
def a3D (i:It):List Int:=pS i.r++pI i.e.a0++pI i.e.a1++pI i.e.a2++pI i.e.a3++pN i.e.ls.length
def a5r (i:It):List Int:=a3D i++(i.e.ls.map lnB).flatten++pI i.e.a5++pI i.e.a6++pS i.e.s7++pS i.e.s8++pN i.e.fs.length
def a1w (i:It):List Int:=a5r i++(i.e.fs.map fdB).flatten
theorem eF0 (e:Ev):a0a tab a0y 0 (.fptr (evr e))=some (.fptr ((evr e).drop 0)):=id rfl
theorem eF1 (e:Ev):a0a tab a0y 1 (.fptr (evr e))=some (.fptr ((evr e).drop 1)):=id rfl
theorem eF2 (e:Ev):a0a tab a0y 2 (.fptr (evr e))=some (.fptr ((evr e).drop 2)):=id rfl
theorem eF3 (e:Ev):a0a tab a0y 3 (.fptr (evr e))=some (.fptr ((evr e).drop 3)):=id rfl
theorem eF4 (e:Ev):a0a tab a0y 4 (.fptr (evr e))=some (.fptr ((evr e).drop 4)):=id rfl
theorem eF5 (e:Ev):a0a tab a0y 5 (.fptr (evr e))=some (.fptr ((evr e).drop 5)):=id rfl
theorem eF6 (e:Ev):a0a tab a0y 6 (.fptr (evr e))=some (.fptr ((evr e).drop 6)):=id rfl
theorem eF7 (e:Ev):a0a tab a0y 7 (.fptr (evr e))=some (.fptr ((evr e).drop 7)):=id rfl
theorem eF8 (e:Ev):a0a tab a0y 8 (.fptr (evr e))=some (.fptr ((evr e).drop 8)):=id rfl
theorem eF9 (e:Ev):a0a tab a0y 9 (.fptr (evr e))=some (.fptr ((evr e).drop 9)):=id rfl
theorem eL0 (e:Ev) (g:Hp):a0c tab g ty3 (.fptr ((evr e).drop 0))=some (.int .i64 e.a0):=id rfl
theorem eL1 (e:Ev) (g:Hp):a0c tab g ty3 (.fptr ((evr e).drop 1))=some (.int .i64 e.a1):=id rfl
theorem eL2 (e:Ev) (g:Hp):a0c tab g ty3 (.fptr ((evr e).drop 2))=some (.int .i64 e.a2):=id rfl
theorem eL3 (e:Ev) (g:Hp):a0c tab g ty3 (.fptr ((evr e).drop 3))=some (.int .i64 e.a3):=id rfl
theorem eL4 (e:Ev) (g:Hp):a0c tab g a1j (.fptr ((evr e).drop 4))=some e.ld:=b1R _ _ _
theorem eL5 (e:Ev) (g:Hp):a0c tab g ty3 (.fptr ((evr e).drop 5))=some (.int .i64 e.a5):=id rfl
theorem eL6 (e:Ev) (g:Hp):a0c tab g ty3 (.fptr ((evr e).drop 6))=some (.int .i64 e.a6):=id rfl
theorem eL7 (e:Ev) (g:Hp):a0c tab g ty9 (.fptr ((evr e).drop 7))=some (.str e.s7):=id rfl
theorem eL8 (e:Ev) (g:Hp):a0c tab g ty9 (.fptr ((evr e).drop 8))=some (.str e.s8):=id rfl
theorem eL9 (e:Ev) (g:Hp):a0c tab g a1p (.fptr ((evr e).drop 9))=some e.fd:=b8i _ _ _
theorem lF0 (l:Lin):a0a tab a1Z 0 (.fptr (a1D l))=some (.fptr (a1D l)):=id rfl
theorem lF1 (l:Lin):a0a tab a1Z 1 (.fptr (a1D l))=some (.fptr [.int .i64 l.len,.str l.txt]):=id rfl
theorem lF2 (l:Lin):a0a tab a1Z 2 (.fptr (a1D l))=some (.fptr [.str l.txt]):=id rfl
theorem lL0 (l:Lin) (g:Hp):a0c tab g ty3 (.fptr (a1D l))=some (.int .i64 l.off):=id rfl
theorem fF0 (p:Str × Str):a0a tab a0T 0 (.fptr (fld p))=some (.fptr (fld p)):=id rfl
theorem fF1 (p:Str × Str):a0a tab a0T 1 (.fptr (fld p))=some (.fptr [.str p.2]):=id rfl
theorem fL0 (p:Str × Str) (g:Hp):a0c tab g ty9 (.fptr (fld p))=some (.str p.1):=id rfl
theorem a1n {α:Type} (f:α→List Int) {l:List α} {n:Nat} {x:α} (h:l[n]?=some x):((l.take (n+1)).map f).flatten=((l.take n).map f).flatten++f x:=by
 rw [e0u,h];simp [-bind_some]
theorem a5w {α:Type} (f:α→List Int) (l:List α) (n:Nat):((l.take n).map f).flatten.length≤(l.map f).flatten.length:=by
 conv=>rhs;rw [← List.take_append_drop n l,e0o,List.flatten_append,e0m]
 omega
theorem d5E (e:Ev) {n0:Nat} {h0 h:Hp} {d0 d:D} {p:List Int} (B:Bw n0 h0 d0 h p d) (hn:n0≤h.length) (hb:p.length+(e.ls.map lnB).flatten.length≤900000000) (x:D) {β:Type} {K:Out→Option β} {Q:β→Prop}
  (k:∀ d' h' a b,Bw n0 h0 d0 h' (p++(e.ls.map lnB).flatten) d'→n0≤h'.length→Wp (K (.ext 0,[d',a,b],h')) Q):Wp ((a0J (a9j (.fptr (evr e))) [d,.int .i64 0,x] h).bind K) Q:=by
 refine Wp.loop (fun k ds g=>n0≤g.length∧∃ d' x,∃ n:Nat,ds=[d',.int .i64 n,x]∧k+n=e.ls.length∧Bw n0 h0 d0 g (p++((e.ls.take n).map lnB).flatten) d')
  (fun r=>r.1 = .ext 0∧n0≤r.2.2.length∧(∃ d' a b,r.2.1=[d',a,b]∧Bw n0 h0 d0 r.2.2 (p++(e.ls.map lnB).flatten) d')) e.ls.length ⟨hn,_,_,0,rfl,rfl,by simpa using B⟩ ?_ ?_
 ·rintro k ds g ⟨hg,d',x,n,rfl,hk,B⟩
  have hll:=e.hll
  simp only [a9j,a0e,a0m,bs,e0h,eF4,eL4,a2L e.hld,a0o]
  refine Wp.dif ?_ ?_
  ·intro h0
   have h0:n<e.ls.length:=dl_ h0
   obtain ⟨l,hl⟩:=gx_ h0
   have hw:=wi_ n (by omega)
   have hle:=a5w lnB e.ls (n+1)
   rw [a1n lnB hl,e0m] at hle
   have hln:(lnB l).length=20+l.txt.length:=by simp [-bind_some, lnB,a1i,a1x];omega
   have hix:a0b tab a1j e.ld (.int .i64 (n:Int))=some (.fptr (a1D l)):=by rw [b1v e.hld];simp [-bind_some, hl]
   simp only [hix,bs,lF0,lF1,lF2,lL0,ld3,ld9,a1v]
   refine a4I B hg l.off (by simp only [e0m,e0A,a1i,a1N,a1x,a1f];omega) fun d1 g1 B1 n1=>?_
   simp only [bs]
   refine a4I B1 n1 l.len (by simp only [e0m,e0A,a1i,a1N,a1x,a1f];omega) fun d2 g2 B2 n2=>?_
   simp only [bs]
   refine a6G B2 n2 l.txt (by simp only [e0m,e0A,a1i,a1N,a1x,a1f];omega) fun d3 g3 B3 n3=>?_
   simp only [bs,a1v,a0r,hw]
   refine .some (.inl ⟨rfl,k - 1,by omega,n3,_,_,n+1,rfl,by omega,?_⟩)
   rw [a1n lnB hl]
   simpa [-bind_some, lnB] using B3
  ·intro h0
   have h0:n=e.ls.length:=by
    have:¬ (n:Int)<e.ls.length:=by simpa using h0
    omega
   subst h0
   rw [e0G] at B
   exact .some (.inr ⟨by simp,rfl,hg,_,_,_,rfl,B⟩)
 ·rintro ⟨ex,ds,g⟩ ⟨rfl,q2,d',a,b,rfl,q3⟩
  exact k d' g a b q3 q2
theorem d2T (e:Ev) {n0:Nat} {h0 h:Hp} {d0 d:D} {p:List Int} (B:Bw n0 h0 d0 h p d) (hn:n0≤h.length) (hb:p.length+(e.fs.map fdB).flatten.length≤900000000) (x:D) {β:Type} {K:Out→Option β} {Q:β→Prop}
  (k:∀ d' h' a b,Bw n0 h0 d0 h' (p++(e.fs.map fdB).flatten) d'→n0≤h'.length→Wp (K (.ext 2,[d',a,b],h')) Q):Wp ((a0J (a9k (.fptr (evr e))) [d,.int .i64 0,x] h).bind K) Q:=by
 refine Wp.loop (fun k ds g=>n0≤g.length∧∃ d' x,∃ n:Nat,ds=[d',.int .i64 n,x]∧k+n=e.fs.length∧Bw n0 h0 d0 g (p++((e.fs.take n).map fdB).flatten) d')
  (fun r=>r.1 = .ext 2∧n0≤r.2.2.length∧(∃ d' a b,r.2.1=[d',a,b]∧Bw n0 h0 d0 r.2.2 (p++(e.fs.map fdB).flatten) d')) e.fs.length ⟨hn,_,_,0,rfl,rfl,by simpa using B⟩ ?_ ?_
 ·rintro k ds g ⟨hg,d',x,n,rfl,hk,B⟩
  have hll:=e.hl
  simp only [a9k,a0e,a0m,bs,e0h,eF9,eL9,a2r e.hfd,a0o]
  refine Wp.dif ?_ ?_
  ·intro h0
   have h0:n<e.fs.length:=dl_ h0
   obtain ⟨l,hl⟩:=gx_ h0
   have hw:=wi_ n (by omega)
   have hle:=a5w fdB e.fs (n+1)
   rw [a1n fdB hl,e0m] at hle
   have hln:(fdB l).length=8+l.1.length+l.2.length:=by simp [-bind_some, fdB,a1x];omega
   have hix:a0b tab a1p e.fd (.int .i64 (n:Int))=some (.fptr (fld l)):=by rw [a7a e.hfd];simp [-bind_some, hl]
   simp only [hix,bs,fF0,fF1,fL0,ld9,a1v]
   refine a6G B hg l.1 (by simp only [e0m,e0A,a1i,a1N,a1x,a1f];omega) fun d1 g1 B1 n1=>?_
   simp only [bs]
   refine a6G B1 n1 l.2 (by simp only [e0m,e0A,a1i,a1N,a1x,a1f];omega) fun d3 g3 B3 n3=>?_
   simp only [bs,a1v,a0r,hw]
   refine .some (.inl ⟨rfl,k - 1,by omega,n3,_,_,n+1,rfl,by omega,?_⟩)
   rw [a1n fdB hl]
   simpa [-bind_some, fdB] using B3
  ·intro h0
   have h0:n=e.fs.length:=by
    have:¬ (n:Int)<e.fs.length:=by simpa using h0
    omega
   subst h0
   rw [e0G] at B
   exact .some (.inr ⟨by simp,rfl,hg,_,_,_,rfl,B⟩)
 ·rintro ⟨ex,ds,g⟩ ⟨rfl,q2,d',a,b,rfl,q3⟩
  exact k d' g a b q3 q2
theorem d6m (i:It) (n0:Nat) (h:Hp) (hn:n0≤h.length) (hb:(a1w i).length≤900000000):∃ d' h',R b4x [.agg (itr i)] h=some (d',h')∧Bw n0 h .nils h' (a1w i) d':=by
 suffices Wp (R b4x [.agg (itr i)] h) (fun p=>Bw n0 h .nils p.2 (a1w i) p.1) by
  obtain ⟨⟨x,h'⟩,h1,h2⟩:=this
  exact ⟨x,h',h1,h2⟩
 have hbx:a5U 10 (.agg (evr i.e))=some (.fptr (evr i.e)):=a3y 10 _ rfl
 have hbb:=hb
 simp only [a1w,a5r,a3D,e0m,a1i,a1N,a1x] at hbb
 rw [d2l]
 simp only [c6P,a0V,bs,e0h,c5A,c5B,c5C,evL,hbx,eF0,eF1,eF2,eF3,eF4,eF5,eF6,eF7,eF8,eF9,eL0,eL1,eL2,eL3,eL4,eL5,eL6,eL7,eL8,eL9,a2L i.e.hld,a2r i.e.hfd,a2D,a1v]
 have B0:Bw n0 h .nils h [] .nils:=Bw.refl (Own.nils _ _ _ _)
 refine a6G B0 hn i.r (by simp only [e0m,e0A,a1i,a1N,a1x,a1f];omega) fun d1 g1 B1 n1=>?_
 simp only [bs]
 refine a4I B1 n1 _ (by simp only [e0m,e0A,a1i,a1N,a1x,a1f];omega) fun d2 g2 B2 n2=>?_
 simp only [bs]
 refine a4I B2 n2 _ (by simp only [e0m,e0A,a1i,a1N,a1x,a1f];omega) fun d3 g3 B3 n3=>?_
 simp only [bs]
 refine a4I B3 n3 _ (by simp only [e0m,e0A,a1i,a1N,a1x,a1f];omega) fun d4 g4 B4 n4=>?_
 simp only [bs]
 refine a4I B4 n4 _ (by simp only [e0m,e0A,a1i,a1N,a1x,a1f];omega) fun d5 g5 B5 n5=>?_
 simp only [bs,a1v]
 refine b8Y B5 n5 _ (by simp only [e0m,e0A,a1i,a1N,a1x,a1f];omega) fun d6 g6 B6 n6=>?_
 simp only [bs]
 have hA:[]++pS i.r++pI i.e.a0++pI i.e.a1++pI i.e.a2++pI i.e.a3++a3X 4 (IntKind.wrap .u64 i.e.ls.length)=a3D i:=by simp [-bind_some, a3D,pN]
 rw [hA] at B6
 have hAl:(a3D i).length=4+i.r.length+36:=by simp [-bind_some, a3D,a1x,a1i,a1N]
 refine d5E i.e B6 n6 (by omega) _ fun d7 g7 a b B7 n7=>?_
 simp only [bs,a0l,a0k,a0e]
 refine a4I B7 n7 _ (by simp only [e0m,e0A,a1i,a1N,a1x,a1f];omega) fun d8 g8 B8 n8=>?_
 simp only [bs]
 refine a4I B8 n8 _ (by simp only [e0m,e0A,a1i,a1N,a1x,a1f];omega) fun d9 g9 B9 n9=>?_
 simp only [bs]
 refine a6G B9 n9 _ (by simp only [e0m,e0A,a1i,a1N,a1x,a1f];omega) fun d10 g10 B10 n10=>?_
 simp only [bs]
 refine a6G B10 n10 _ (by simp only [e0m,e0A,a1i,a1N,a1x,a1f];omega) fun d11 g11 B11 n11=>?_
 simp only [bs,a1v]
 refine b8Y B11 n11 _ (by simp only [e0m,e0A,a1i,a1N,a1x,a1f];omega) fun d12 g12 B12 n12=>?_
 simp only [bs]
 have hB:a3D i++(i.e.ls.map lnB).flatten++pI i.e.a5++pI i.e.a6++pS i.e.s7++pS i.e.s8++a3X 4 (IntKind.wrap .u64 i.e.fs.length)=a5r i:=by simp [-bind_some, a5r,pN]
 rw [hB] at B12
 have hBl:(a5r i).length=(a3D i).length+(i.e.ls.map lnB).flatten.length+16+(4+i.e.s7.length)+(4+i.e.s8.length)+4:=by simp only [a5r,e0m,a1i,a1x,a1N]
 refine d2T i.e B12 n12 (by omega) _ fun d13 g13 a b B13 n13=>?_
 simp only [bs,a0l,a0k,a0e,a0j]
 exact .some B13
def RdB (h:Hp) (l:List Int) (d:D):Prop:=SlOf 1 byr l d∨∃ ob,d = .msl 1 ob 0 l.length∧h[ob]?=some (Ob.row ty5 1 (l.map byr))
theorem RdB.own {h:Hp} {n0:Nat} {l:List Int} {d:D} (ow:Own h n0 ty5 1 (l.map byr) d):RdB h l d:=by
 rcases ow with ⟨rfl,hl⟩ | ⟨o,_,rfl,hg⟩
 ·exact .inl (.inl ⟨rfl,by simpa using hl⟩)
 ·exact .inr ⟨o,by simp,hg⟩
theorem a6H {h:Hp} {l:List Int} {d:D} (hd:RdB h l d):a0t tab a0L d=some (.int .i64 l.length):=by
 rcases hd with hd | ⟨ob,rfl,_⟩
 ·exact a1z hd
 ·exact b8m _ _ _ _
theorem b9b {h:Hp} {l:List Int} {d:D} (hd:RdB h l d) (i:Nat) (z:Int) (hz:l[i]?=some z):∃ q,a0b tab a0L d (.int .i64 i)=some q∧a0c tab h ty5 q=some (.int .u8 z):=by
 rcases hd with hd | ⟨ob,rfl,ho⟩
 ·exact ⟨.fptr (byr z),by rw [a5z hd];simp [-bind_some, hz],b3E z h⟩
 ·have hlt:=(e0y.1 hz).1
  refine ⟨.ptr ob (0+i) 0,by rw [c1f];simp [-bind_some, hlt],?_⟩
  rw [d5B,a0F ho,e0v]
  simp [-bind_some, hz,byr]
theorem a4g {h:Hp} {l:List Int} {d:D} (hd:RdB h l d):a1a h 1 d=some (l.map byr):=by
 rcases hd with hd | ⟨ob,rfl,ho⟩
 ·rcases hd with ⟨rfl,rfl⟩ | ⟨b,rfl⟩
  ·rfl
  ·exact a1e _ _ _ _
 ·simp only [a1a,if_true,ho,List.drop_zero]
  rw [List.take_of_length_le (by simp)]
theorem RdB.keep {h h':Hp} {l:List Int} {d:D} (hd:RdB h l d) (hk:∀ (q T z:Nat) (rows:List (List D)),h[q]?=some (Ob.row T z rows)→h'[q]?=h[q]?):RdB h' l d:=by
 rcases hd with hd | ⟨ob,rfl,ho⟩
 ·exact .inl hd
 ·exact .inr ⟨ob,rfl,by rw [hk _ _ _ _ ho];exact ho⟩
def a4q (l:List Int):Int:=l.foldl (fun c z=>(c*31+z) % 4294967291) 1
theorem b0L {l:List Int} {n:Nat} {z:Int} (h:l[n]?=some z):a4q (l.take (n+1))=(a4q (l.take n)*31+z) % 4294967291:=by
 unfold a4q
 rw [e0u,h]
 simp [-bind_some]
theorem a6w:∀ (l:List Int),0≤a4q l∧a4q l<4294967291:=by
 intro l
 unfold a4q
 generalize hc:(1:Int)=c
 have h0:0≤c∧c<4294967291:=by omega
 clear hc
 induction l generalizing c with
 | nil=>exact h0
 | cons z r ih =>
  simp only [List.foldl_cons]
  exact ih _ (by omega)
theorem c9L (l:List Int) (d:D) (h:Hp) (hdl:a0t tab a0L d=some (.int .i64 l.length)) (hdx:∀ (i:Nat) (z:Int),l[i]?=some z→∃ q,a0b tab a0L d (.int .i64 i)=some q∧a0c tab h ty5 q=some (.int .u8 z)) (hl:l.length≤9223372036854775806) (hu:∀ z∈l,U8 z):R b4y [d] h=some (.int .u64 (a4q l),h):=by
 apply Wp.val
 rw [d2o]
 simp only [c6R,bs,e0h]
 refine Wp.loop (fun k ds g=>g=h∧∃ x,∃ n:Nat,ds=[.int .u64 (a4q (l.take n)),.int .i64 n,x]∧k+n=l.length) (fun r=>r.1 = .ext 0∧r.2.2=h∧∃ a b,r.2.1=[.int .u64 (a4q l),a,b]) l.length ⟨rfl,_,0,rfl,rfl⟩ ?_ ?_
 ·rintro k ds g ⟨rfl,x,n,rfl,hk⟩
  simp only [b3q,a0e,a0m,bs,e0h,hdl,a0o]
  refine Wp.dif ?_ ?_
  ·intro h0
   have h0:n<l.length:=dl_ h0
   obtain ⟨z,hz⟩:=gx_ h0
   have hzu:=hu z (e0w hz)
   obtain ⟨q,q1,q2⟩:=hdx n z hz
   have hr:=a6w (l.take n)
   have hw:=wi_ n (by omega)
   unfold U8 at hzu
   have w1:IntKind.wrap .u64 (a4q (l.take n)*31)=a4q (l.take n)*31:=a1Q (by omega) (by omega)
   have w2:IntKind.wrap .u64 z=z:=a1Q (by omega) (by omega)
   have w3:IntKind.wrap .u64 (a4q (l.take n)*31+z)=a4q (l.take n)*31+z:=a1Q (by omega) (by omega)
   have w4:(a4q (l.take n)*31+z).tmod 4294967291=a4q (l.take (n+1)):=by
    rw [b0L hz,Int.tmod_eq_emod_of_nonneg (by omega)]
   simp only [a4R,w1,q1,q2,a9x,w2,a0r,w3,bs,a4S,show ¬ ((4294967291:Int)=0) by omega,if_false,w4,hw]
   exact .some (.inl ⟨rfl,k - 1,by omega,rfl,_,n+1,rfl,by omega⟩)
  ·intro h0
   have h0:n=l.length:=by
    have:¬ (n:Int)<l.length:=by simpa using h0
    omega
   subst h0
   rw [e0G]
   exact .some (.inr ⟨by simp,rfl,rfl,_,_,rfl⟩)
 ·rintro ⟨ex,ds,g⟩ ⟨rfl,q2,a,b,rfl⟩
  simp only at q2
  subst q2
  simp only [a0l,a0k,bs,a0e,a0j]
  exact .some rfl
theorem d6n (l:List Int) (d:D) (h:Hp) (hd:RdB h l d) (hl:l.length≤9223372036854775806) (hu:∀ z∈l,U8 z):R b4y [d] h=some (.int .u64 (a4q l),h):=c9L l d h (a6H hd) (fun i z hz=>b9b hd i z hz) hl hu
theorem c0l (i:It):∀ z∈a1w i,U8 z:=by
 have hI:∀ n,∀ z∈pI n,U8 z:=fun n=>a3s _ _
 have hN:∀ n,∀ z∈pN n,U8 z:=fun n=>a3s _ _
 have hS:∀ s,∀ z∈pS s,U8 z:=fun s z hz=>by
  rcases e0E.1 hz with h | h
  ·exact hN _ z h
  ·exact c9S _ z h
 intro z hz
 simp only [a1w,a5r,a3D,e0E,List.mem_flatten,e0F] at hz
 rcases hz with ((((((((((((h | h) | h) | h) | h) | h) | ⟨_,⟨l,_,rfl⟩,h⟩) | h) | h) | h) | h) | h)) | ⟨_,⟨l,_,rfl⟩,h⟩
 ·exact hS _ z h
 ·exact hI _ z h
 ·exact hI _ z h
 ·exact hI _ z h
 ·exact hI _ z h
 ·exact hN _ z h
 ·simp only [lnB,e0E] at h
  rcases h with (h | h) | h
  ·exact hI _ z h
  ·exact hI _ z h
  ·exact hS _ z h
 ·exact hI _ z h
 ·exact hI _ z h
 ·exact hS _ z h
 ·exact hS _ z h
 ·exact hN _ z h
 ·simp only [fdB,e0E] at h
  rcases h with h | h
  ·exact hS _ z h
  ·exact hS _ z h
def a5c (i:It):List Int:=a3X 4 (IntKind.wrap .u64 (((a1w i).length:Int)+4))++a1w i
def a3a (i:It):List Int:=a5c i++a3X 4 (a4q (a5c i))
theorem b2f (i:It):∀ z∈a5c i,U8 z:=fun z hz=>by
 rcases e0E.1 hz with h | h
 ·exact a3s _ _ z h
 ·exact c0l i z h
theorem b6Y (i:It):∀ z∈a3a i,U8 z:=fun z hz=>by
 rcases e0E.1 hz with h | h
 ·exact b2f i z h
 ·exact a3s _ _ z h
theorem a4T (i:It):(a3a i).length=(a1w i).length+8:=by
 simp only [a3a,a5c,e0m,a1f];omega
theorem d5z (i:It) (h:Hp):a0c tab h a0z (.fptr (itr i))=some (.agg (itr i)):=id rfl
theorem d6l (i:It) (c:Int) (h:Hp) (hc:∀ g,R b0Z [.agg (itr i)] g=some (.int .i64 c,g)) (hb:(a1w i).length≤900000000):∃ d',R b4w [.agg (itr i)] h=some (.tup [d',.int .i64 c],h)∧SlOf 1 byr (if c=0 then a3a i else []) d':=by
 suffices Wp (R b4w [.agg (itr i)] h) (fun p=>p.2=h∧∃ d',p.1 = .tup [d',.int .i64 c]∧SlOf 1 byr (if c=0 then a3a i else []) d') by
  obtain ⟨⟨x,h'⟩,h1,rfl,d',rfl,h2⟩:=this
  exact ⟨d',h1,h2⟩
 rw [d2k]
 simp only [c6O,a0V,bs,e0h,d5z,hc,a0A]
 refine Wp.dif ?_ ?_
 ·intro h0
  have h0:¬ c=0:=by simpa using h0
  simp only [bs,a1d]
  rw [a0M (d' := .tup [.nils,.int .i64 c]) (by simp) (.tup _ fun d hd=>by simp at hd;rcases hd with rfl | rfl <;> constructor) (Nat.le_refl _) fun _ _=>rfl]
  exact .some ⟨rfl,_,rfl,by rw [if_neg h0];exact .nils _ _⟩
 ·intro h0
  have h0:c=0:=by simpa using h0
  subst h0
  obtain ⟨d1,h1,e1,B1⟩:=d6m i h.length h (Nat.le_refl _) hb
  have w1:IntKind.wrap .i64 (((a1w i).length:Int)+4)=((a1w i).length:Int)+4:=wrap_i64 (by omega) (by omega)
  have r1:=RdB.own B1.ow
  refine Wp.step e1 ?_
  simp only [bs,a6H r1,a0r,w1,a2D]
  obtain ⟨d2,h2,e2,B2⟩:=b9o (IntKind.wrap .u64 (((a1w i).length:Int)+4)) 4 (by omega) h1.length h1 [] .nils (Nat.le_refl _) (Own.nils _ _ _ _) (by simp)
  have e2:R a3N [.nils,.int .u64 (IntKind.wrap .u64 (((a1w i).length:Int)+4)),.int .i64 4] h1=some (d2,h2):=e2
  refine Wp.step e2 ?_
  simp only [bs]
  have r2:RdB h2 (a1w i) d1:=by
   rcases B1.ow with ⟨hx,hl⟩ | ⟨o,ho,hx,hg⟩
   ·exact .inl (.inl ⟨hx,by simpa using hl⟩)
   ·refine .inr ⟨o,by rw [hx];simp [-bind_some],?_⟩
    have holt:=(e0y.1 hg).1
    rw [B2.old o holt (fun hh=>by obtain ⟨z,n,hh⟩:=hh;cases hh)]
    exact hg
  have ow2:Own h2 h.length ty5 1 ((([]:List Int)++a3X 4 (IntKind.wrap .u64 (((a1w i).length:Int)+4))).map byr) d2:=B2.ow.from B1.len
  obtain ⟨d3,h3,e3,B3⟩:=b5t (Nat.le_trans B1.len B2.len) ow2 (a4g r2) (by simp only [e0m,e0A,a1f];omega)
  refine Wp.step e3 ?_
  simp only [bs]
  have hH:[]++a3X 4 (IntKind.wrap .u64 (((a1w i).length:Int)+4))++a1w i=a5c i:=by simp [-bind_some, a5c]
  rw [hH] at B3
  have hHl:(a5c i).length=4+(a1w i).length:=by simp only [a5c,e0m,a1f]
  have e4:=d6n (a5c i) d3 h3 (RdB.own B3.ow) (by omega) (b2f i)
  refine Wp.step e4 ?_
  simp only [bs]
  have hn3:h.length≤h3.length:=Nat.le_trans (Nat.le_trans B1.len B2.len) B3.len
  obtain ⟨d5,h5,e5,B5⟩:=b9o (a4q (a5c i)) 4 (by omega) h.length h3 (a5c i) d3 hn3 B3.ow (by omega)
  have e5:R a3N [d3,.int .u64 (a4q (a5c i)),.int .i64 4] h3=some (d5,h5):=e5
  refine Wp.step e5 ?_
  have hE:a5c i++a3X 4 (a4q (a5c i))=a3a i:=rfl
  rw [hE] at B5
  simp only [bs,a1d]
  have hsl:=a1R (n0:=h.length) (n:=2) B5.ow (Nat.le_refl _) (fun a _=>a5s _ h5 2 a)
  have hlow:∀ q,q<h.length→h5[q]?=h[q]?:=fun q hq=>by
   have nd:∀ {d:D} {g:Hp} {l:List Int},Own g h.length ty5 1 (l.map byr) d→¬ d.inOb q:=fun ow hx=>by have:=(ow.lt hx).1;omega
   rw [B5.old q (by omega) (nd B3.ow),B3.old q (by have:=B1.len;have:=B2.len;omega) (nd ow2),B2.old q (by have:=B1.len;omega) (fun hh=>by obtain ⟨z,n,hh⟩:=hh;cases hh),
    B1.old q hq (fun hh=>by obtain ⟨z,n,hh⟩:=hh;cases hh)]
  rw [a0M (d' := .tup [frz h.length h5 3 d5,.int .i64 0]) (by simp) (by
   refine .tup _ fun d hd=>?_
   simp at hd
   rcases hd with rfl | rfl
   ·exact a1b hsl fun a _=>a7C _ a
   ·constructor) (Nat.le_trans hn3 B5.len) hlow]
  exact .some ⟨rfl,_,rfl,by simpa using hsl⟩
theorem a3m {α:Type} (f:α→List Int) (m:Nat):∀ (l:List α),(∀ a∈l,(f a).length≤m)→(l.map f).flatten.length≤l.length*m
 | [],_=>by simp
 | a::l,h=>by
  have h1:=h a (by simp)
  have h2:=a3m f m l fun b hb=>h b (by simp [-bind_some, hb])
  simp only [e0p,List.flatten_cons,e0m,e0z,Nat.succ_mul]
  omega
theorem b0K:∀ (ls:List Lin) (a b:Int),chain a ls b→∀ l∈ls,l.txt.length≤36
 | [],a,b,_,l,hl=>by cases hl
 | x::r,a,b,h,l,hl=>by
  unfold chain at h
  rcases e0D.1 hl with rfl | hl
  ·have h1:=h.2.2.1;have h2:=h.2.2.2.1;omega
  ·exact b0K r _ _ h.2.2.2.2 l hl
theorem b1W {host:Int} {i:It} (h:BIt host i):(a1w i).length≤20000:=by
 have h1:=a3m lnB 56 i.e.ls (fun l hl=>by
  have:=b0K _ _ _ h.ch l hl
  simp only [lnB,e0m,a1i,a1x];omega)
 have h2:(i.e.fs.map fdB).flatten.length≤i.e.fs.length*3008:=a3m fdB 3008 i.e.fs (fun p hp=>by
  rcases h.good with ⟨_,hg⟩ | hg
  ·have a1:=(hg.fn p hp).2
   have a2:=hg.fv p hp
   simp only [fdB,e0m,a1x];omega
  ·rw [hg.fs] at hp;cases hp)
 have h3:=h.n6
 have h4:=h.fs
 have h5:i.r.length≤32∧i.e.s7.length≤32∧i.e.s8.length≤32:=by
  rcases h.good with ⟨hr,hg⟩ | hg
  ·exact ⟨by rw [hr];simp [-bind_some],hg.tr,hg.st⟩
  ·exact ⟨hg.r3,by rw [hg.tr];simp [-bind_some],by rw [hg.st];simp [-bind_some]⟩
 obtain ⟨h5,h6,h7⟩:=h5
 have h8:(i.e.fs.length*3008:Nat)≤4*3008:=Nat.mul_le_mul_right _ h4
 have h9:(i.e.ls.length*56:Nat)≤6*56:=Nat.mul_le_mul_right _ h3
 simp only [a1w,a5r,a3D,e0m,a1i,a1x,a1N]
 omega
theorem c9K (host:Int) (b:Bat) (h:Hp) (hb:BatOK host b):R b1j [.agg (a3H b)] h=some (.int .i64 0,h):=by
 apply Wp.val
 have hn:=hb.n3
 have hlen:¬ (40:Int)<(b.its.length:Int):=by omega
 rw [d2j]
 simp only [c6N,a0V,a3H,b3T,a7W,a4e b.hd,bs,e0h,a0x,hlen,decide_false,a0d,e0i,if_false]
 refine Wp.loop (fun k ds g=>g=h∧∃ a1 a3 a4 a5 a6 a7 a8,∃ n:Nat,ds=[a1,.int .i64 n,a3,a4,a5,a6,a7,a8]∧k+n=b.its.length) (fun r=>r.1 = .ext 0∧r.2.2=h) b.its.length ⟨rfl,_,_,_,_,_,_,_,0,rfl,rfl⟩ ?_ ?_
 ·rintro k ds g ⟨rfl,a1,a3,a4,a5,a6,a7,a8,n,rfl,hk⟩
  simp only [b3p,a0e,a0m,bs,e0h,b3T,a7W,a4e b.hd,a0o]
  refine Wp.dif ?_ ?_
  ·intro h0
   have h0:n<b.its.length:=dl_ h0
   obtain ⟨i,hi⟩:=gx_ h0
   have hB:=hb.it i (e0w hi)
   have hw:=wi_ n (by omega)
   have hii:a0b tab a0S b.d (.int .i64 (n:Int))=some (.fptr (itr i)):=by rw [a6T b.hd];simp [-bind_some, hi]
   have hck:=c9o i g hB.good
   have q0:a0a tab a0y 0 (.fptr (evr i.e))=some (.fptr (evr i.e)):=id rfl
   have q1:a0c tab g ty3 (.fptr (evr i.e))=some (.int .i64 i.e.a0):=id rfl
   have hr:(i.r==([42]:Str))=false:=by
    rcases hB.rule with hr | hr
    ·rw [hr];rfl
    ·have:=a8S _ hr
     simpa using this
   simp only [hii,b2w,b0G,hck,bs,a0A,ne_eq,not_true,decide_false,a0d,e0i,if_false,c5B,q0,q1,c0Q,ld3,hB.host,hb.hs,c5A,c5C,a1E,hr,a0r,hw]
   exact .some (.inl ⟨rfl,k - 1,by omega,rfl,_,_,_,_,_,_,_,n+1,rfl,by omega⟩)
  ·intro h0
   exact .some (.inr ⟨by simp,rfl,rfl⟩)
 ·rintro ⟨ex,ds,g⟩ ⟨q1,q2⟩
  simp only at q1 q2
  subst q1;subst q2
  simp only [a0l,a0k,bs,a0j]
  exact .some rfl
def c3F (b:Bat):List Int:=pI b.hs++pI b.nu++pN b.its.length
def a5p (b:Bat):List Int:=c3F b++(b.its.map a3a).flatten
theorem a9u (b:Bat):(c3F b).length=20:=by simp only [c3F,e0m,a1i,a1N]
theorem b6m (b:Bat):∀ z∈a5p b,U8 z:=by
 intro z hz
 simp only [a5p,c3F,e0E,List.mem_flatten,e0F] at hz
 rcases hz with ((h | h) | h) | ⟨_,⟨i,_,rfl⟩,h⟩
 ·exact a3s _ _ z h
 ·exact a3s _ _ z h
 ·exact a3s _ _ z h
 ·exact b6Y i z h
theorem a5T {host:Int} {b:Bat} (hb:BatOK host b):20≤(a5p b).length∧(a5p b).length≤100000:=by
 have h1:=a3m a3a 20008 b.its fun i hi=>by
  have:=b1W (hb.it i hi)
  rw [a4T];omega
 have h3:=hb.n3
 have h4:b.its.length*20008≤3*20008:=Nat.mul_le_mul_right _ h3
 simp only [a5p,e0m,a9u]
 omega
theorem d6k (host:Int) (b:Bat) (h:Hp) (hb:BatOK host b):∃ d',R b4v [.agg (a3H b)] h=some (.tup [d',.int .i64 0],h)∧SlOf 1 byr (a5p b) d':=by
 suffices Wp (R b4v [.agg (a3H b)] h) (fun p=>p.2=h∧∃ d',p.1 = .tup [d',.int .i64 0]∧SlOf 1 byr (a5p b) d') by
  obtain ⟨⟨x,h'⟩,h1,rfl,d',rfl,h2⟩:=this
  exact ⟨d',h1,h2⟩
 have hchk:=c9K host b h hb
 have hlB:=a5T hb
 have hn3:=hb.n3
 have f0:a0a tab a0u 0 (.fptr (a3H b))=some (.fptr (a3H b)):=id rfl
 have f1:a0a tab a0u 1 (.fptr (a3H b))=some (.fptr [.int .i64 b.nu,b.d]):=id rfl
 have f2:a0a tab a0u 2 (.fptr (a3H b))=some (.fptr [b.d]):=id rfl
 have l0:∀ g,a0c tab g ty3 (.fptr (a3H b))=some (.int .i64 b.hs):=fun g=>id rfl
 have lb:∀ g,a0c tab g a0u (.fptr (a3H b))=some (.agg (a3H b)):=fun g=>id rfl
 rw [d2i]
 simp only [c6M,a0V,bs,e0h,lb,hchk,a0A,ne_eq,not_true,decide_false,a0d,e0i,if_false,f0,f1,f2,l0,ld3,a7W,a4e b.hd,a2D,a1v]
 have B0:Bw h.length h .nils h [] .nils:=Bw.refl (Own.nils _ _ _ _)
 obtain ⟨d1,h1,e1,B1⟩:=b9m (IntKind.wrap .u64 b.hs) 8 (by omega) h.length h [] .nils (Nat.le_refl _) B0.ow (by simp)
 have e1:R a4z [.nils,.int .u64 (IntKind.wrap .u64 b.hs),.int .i64 8] h=some (d1,h1):=e1
 refine Wp.step e1 ?_
 simp only [bs]
 obtain ⟨d2,h2,e2,B2⟩:=b9m (IntKind.wrap .u64 b.nu) 8 (by omega) h.length h1 _ d1 B1.len B1.ow (by simp only [e0m,e0A,a1f];omega)
 have e2:R a4z [d1,.int .u64 (IntKind.wrap .u64 b.nu),.int .i64 8] h1=some (d2,h2):=e2
 refine Wp.step e2 ?_
 simp only [bs]
 have n2:=Nat.le_trans B1.len B2.len
 obtain ⟨d3,h3,e3,B3⟩:=b9m (IntKind.wrap .u64 b.its.length) 4 (by omega) h.length h2 _ d2 n2 B2.ow (by simp only [e0m,e0A,a1f];omega)
 have e3:R a4z [d2,.int .u64 (IntKind.wrap .u64 b.its.length),.int .i64 4] h2=some (d3,h3):=e3
 refine Wp.step e3 ?_
 simp only [bs,a1v]
 have hA:[]++a3X 8 (IntKind.wrap .u64 b.hs)++a3X 8 (IntKind.wrap .u64 b.nu)++a3X 4 (IntKind.wrap .u64 b.its.length)=c3F b:=by simp [-bind_some, c3F,pI,pN]
 rw [hA] at B3
 have BB:=(B1.trans B2).trans B3
 have n3:=Nat.le_trans n2 B3.len
 refine Wp.loop (fun k ds g=>h.length≤g.length∧∃ d' x y,∃ n:Nat,ds=[d',.int .i64 n,x,y]∧k+n=b.its.length∧Bw h.length h .nils g (c3F b++((b.its.take n).map a3a).flatten) d')
  (fun r=>r.1 = .ext 0∧h.length≤r.2.2.length∧(∃ d' x y z,r.2.1=[d',x,y,z]∧Bw h.length h .nils r.2.2 (a5p b) d')) b.its.length ⟨n3,_,_,_,0,rfl,rfl,by simpa using BB⟩ ?_ ?_
 ·rintro k ds g ⟨hg,d',x,y,n,rfl,hk,B⟩
  simp only [b3o,a0e,a0m,bs,e0h,f2,a7W,a4e b.hd,a0o]
  refine Wp.dif ?_ ?_
  ·intro h0
   have h0:n<b.its.length:=dl_ h0
   obtain ⟨i,hi⟩:=gx_ h0
   have hB:=hb.it i (e0w hi)
   have hw:=wi_ n (by omega)
   have hii:a0b tab a0S b.d (.int .i64 (n:Int))=some (.fptr (itr i)):=by rw [a6T b.hd];simp [-bind_some, hi]
   have hil:=b1W hB
   obtain ⟨de,ee,he⟩:=d6l i 0 g (fun g=>c9o i g hB.good) (by omega)
   rw [if_pos rfl] at he
   have hle:=a5w a3a b.its (n+1)
   rw [a1n a3a hi,e0m] at hle
   have hBl:(a5p b).length=20+(b.its.map a3a).flatten.length:=by simp only [a5p,e0m,a9u]
   simp only [hii,b2w,ee,bs,a0I,e0k,e0l]
   refine b6h B hg (a4g (.inl he)) (by simp only [e0m,a9u];omega) fun d4 g4 B4 n4=>?_
   simp only [bs,a0r,hw]
   refine .some (.inl ⟨rfl,k - 1,by omega,n4,_,_,_,n+1,rfl,by omega,?_⟩)
   rw [a1n a3a hi]
   simpa using B4
  ·intro h0
   have h0:n=b.its.length:=by
    have:¬ (n:Int)<b.its.length:=by simpa using h0
    omega
   subst h0
   rw [e0G] at B
   exact .some (.inr ⟨by simp,rfl,hg,_,_,_,_,rfl,B⟩)
 ·rintro ⟨ex,ds,g⟩ ⟨rfl,q2,d',x,y,z,rfl,B⟩
  simp only [a0l,a0k,bs,a0e,a1d]
  have hsl:=a1R (n0:=h.length) (n:=2) B.ow (Nat.le_refl _) (fun a _=>a5s _ g 2 a)
  rw [a0M (d' := .tup [frz h.length g 3 d',.int .i64 0]) (by simp) (by
   refine .tup _ fun d hd=>?_
   simp at hd
   rcases hd with rfl | rfl
   ·exact a1b hsl fun a _=>a7C _ a
   ·constructor) q2 (fun q hq=>B.old q hq fun hh=>by obtain ⟨z,n,hh⟩:=hh;cases hh)]
  exact .some ⟨rfl,_,rfl,hsl⟩
theorem d6j (host:Int) (b:Bat) (hb:BatOK host b) (j:List Int) (dj:D) (h:Hp) (hj:SlOf 1 byr j dj) (hjl:j.length≤10000000):∃ d',R b7L [dj,.agg (a3H b)] h=some (.tup [d',.int .i64 0],h)∧SlOf 1 byr (j++a3i (a5p b)) d':=by
 obtain ⟨d1,e1,h1⟩:=d6k host b h hb
 have hl:=a5T hb
 obtain ⟨d2,e2,h2⟩:=d5P j (a5p b) dj d1 h hj h1 (by omega) (by omega)
 have hE:a7r j (a5p b)=0:=by
  unfold a7r
  rw [if_neg (by omega),if_neg (by omega)]
 have hR:a8O j (a5p b)=j++a3i (a5p b):=by
  unfold a8O
  rw [if_pos hE]
  simp [-bind_some, a3i]
 rw [hE] at e2
 rw [hR] at h2
 have lb:∀ g,a0c tab g a0u (.fptr (a3H b))=some (.agg (a3H b)):=fun g=>id rfl
 refine ⟨d2,?_,h2⟩
 rw [d2h]
 simp only [c6L,a0V,bs,lb,e1,a0I,e0k,e0l,a0A,ne_eq,not_true,decide_false,a0d,e0i,if_false,e2,a1d]
theorem c2L (w x b k:Nat) (hb:b<2 ^ k) (hx:x*2 ^ k+b<2 ^ w):(BitVec.ofInt w ((x*2 ^ k:Nat):Int) ||| BitVec.ofInt w (b:Int)).toNat=x*2 ^ k+b:=by
 rw [BitVec.ofInt_natCast,BitVec.ofInt_natCast,BitVec.toNat_or,BitVec.toNat_ofNat,BitVec.toNat_ofNat,Nat.mod_eq_of_lt (by omega),Nat.mod_eq_of_lt (by omega)]
 rw [← Nat.shiftLeft_eq,← Nat.shiftLeft_add_eq_or_of_lt hb,Nat.shiftLeft_eq]
theorem b8R {x b:Int} (k:Nat) (h0:0≤x) (hb0:0≤b) (hb:b<2 ^ k) (hx:x*2 ^ k+b<4294967296):IntKind.wrap .u32 (BitVec.ofInt IntKind.u32.bits (x*2 ^ k) ||| BitVec.ofInt IntKind.u32.bits b).toNat=x*2 ^ k+b:=by
 obtain ⟨X,rfl⟩:=Int.eq_ofNat_of_zero_le h0
 obtain ⟨B,rfl⟩:=Int.eq_ofNat_of_zero_le hb0
 have e:((X:Int)*2 ^ k)=((X*2 ^ k:Nat):Int):=by push_cast;rfl
 have hB:B<2 ^ k:=by exact_mod_cast hb
 have hX:X*2 ^ k+B<2 ^ IntKind.u32.bits:=by
  have h2:(2:Nat) ^ IntKind.u32.bits=4294967296:=by decide
  rw [h2]
  rw [e] at hx
  generalize X*2 ^ k=Y at hx
  omega
 have:=c2L IntKind.u32.bits X B k hB hX
 rw [e,a5G,this]
 push_cast;rfl
theorem b9L (x:BitVec IntKind.u64.bits):IntKind.wrap .u64 (x.toNat:Int)=x.toNat:=by
 have:=x.isLt
 have h2:(2:Nat) ^ IntKind.u64.bits=18446744073709551616:=by decide
 exact a1Q (by omega) (by omega)
theorem c2M {x b:Int} (k:Nat) (h0:0≤x) (hb0:0≤b) (hb:b<2 ^ k) (hx:x*2 ^ k+b<18446744073709551616):IntKind.wrap .u64 (BitVec.ofInt IntKind.u64.bits (x*2 ^ k) ||| BitVec.ofInt IntKind.u64.bits b).toNat=x*2 ^ k+b:=by
 obtain ⟨X,rfl⟩:=Int.eq_ofNat_of_zero_le h0
 obtain ⟨B,rfl⟩:=Int.eq_ofNat_of_zero_le hb0
 have e:((X:Int)*2 ^ k)=((X*2 ^ k:Nat):Int):=by push_cast;rfl
 have hB:B<2 ^ k:=by exact_mod_cast hb
 have hX:X*2 ^ k+B<2 ^ IntKind.u64.bits:=by
  have h2:(2:Nat) ^ IntKind.u64.bits=18446744073709551616:=by decide
  rw [h2]
  rw [e] at hx
  generalize X*2 ^ k=Y at hx
  omega
 have:=c2L IntKind.u64.bits X B k hB hX
 rw [e,b9L,this]
 push_cast;rfl
theorem c9J (a b c e:Int) (d:D) (h:Hp) (hd:SlOf 1 byr [a,b,c,e] d) (ha:U8 a) (hb:U8 b) (hc:U8 c) (he:U8 e):R a5i [d] h=some (.int .u32 (num [a,b,c,e]),h):=by
 rw [c7T]
 unfold U8 at ha hb hc he
 have q:∀ z:Int,0≤z∧z<256→IntKind.wrap .u32 z=z:=fun z hz=>a3C hz.1 (by omega)
 have m1:min ((24:Int).toNat) IntKind.u32.bits=24:=by decide
 have m2:min ((16:Int).toNat) IntKind.u32.bits=16:=by decide
 have m3:min ((8:Int).toNat) IntKind.u32.bits=8:=by decide
 have p1:(2:Int) ^ 24=16777216:=by decide
 have p2:(2:Int) ^ 16=65536:=by decide
 have p3:(2:Int) ^ 8=256:=by decide
 have w1:IntKind.wrap .u32 (a*2 ^ 24)=(a*256)*2 ^ 16:=by rw [p1,p2,a3C (by omega) (by omega)];omega
 have w2:IntKind.wrap .u32 (b*2 ^ 16)=b*2 ^ 16:=by rw [p2];exact a3C (by omega) (by omega)
 have w3:IntKind.wrap .u32 (c*2 ^ 8)=c*2 ^ 8:=by rw [p3];exact a3C (by omega) (by omega)
 have o1:IntKind.wrap .u32 (BitVec.ofInt IntKind.u32.bits ((a*256)*2 ^ 16) ||| BitVec.ofInt IntKind.u32.bits (b*2 ^ 16)).toNat=((a*256+b)*256)*2 ^ 8:=by
  have e1:(a*256)*2 ^ 16=a*2 ^ 24:=by rw [p1,p2];omega
  rw [e1,b8R 24 ha.1 (by rw [p2];omega) (by rw [p1,p2];omega) (by rw [p1,p2];omega),p1,p2,p3]
  omega
 have o2:IntKind.wrap .u32 (BitVec.ofInt IntKind.u32.bits (((a*256+b)*256)*2 ^ 8) ||| BitVec.ofInt IntKind.u32.bits (c*2 ^ 8)).toNat=((a*256+b)*256+c)*2 ^ 8:=by
  have e1:((a*256+b)*256)*2 ^ 8=(a*256+b)*2 ^ 16:=by rw [p3,p2];omega
  rw [e1,b8R 16 (by omega) (by rw [p3];omega) (by rw [p2,p3];omega) (by rw [p2,p3];omega),p2,p3]
  omega
 have o3:IntKind.wrap .u32 (BitVec.ofInt IntKind.u32.bits (((a*256+b)*256+c)*2 ^ 8) ||| BitVec.ofInt IntKind.u32.bits e).toNat=num [a,b,c,e]:=by
  rw [b8R 8 (by omega) (by omega) (by rw [p3];omega) (by rw [p3];omega),d5G,p3]
 have i0:a0b tab a0L d (.int .i64 0)=some (.fptr (byr a)):=by rw [a5z hd];rfl
 have i1:a0b tab a0L d (.int .i64 1)=some (.fptr (byr b)):=by rw [a5z hd];rfl
 have i2:a0b tab a0L d (.int .i64 2)=some (.fptr (byr c)):=by rw [a5z hd];rfl
 have i3:a0b tab a0L d (.int .i64 3)=some (.fptr (byr e)):=by rw [a5z hd];rfl
 simp only [b9W,bs,i0,i1,i2,i3,b3E,b6J,q a ha,q b hb,q c hc,q e he,a9y,show ¬ (24:Int)<0 by omega,show ¬ (16:Int)<0 by omega,show ¬ (8:Int)<0 by omega,if_false,m1,m2,m3,w1,w2,w3,b2a,o1,o2,o3,a0j]
theorem b4Z {l:List Int} {n:Nat} {z:Int} (h:l[n]?=some z):num (l.take (n+1))=num (l.take n)*256+z:=by
 unfold num
 rw [e0u,h]
 simp [-bind_some]
def b6d (ps:List (List Int)) (x:D):Prop:=∃ qs:List (List Int × D),qs.map (·.1)=ps∧SlOf 1 (fun p:List Int × D=>[p.2]) qs x∧∀ p∈qs,SlOf 1 byr p.1 p.2
theorem c1t (p:List Int × D) (h:Hp):a0c tab h a0L (.fptr [p.2])=some p.2:=d5y _ _ _
theorem c3P {l:List Int} {d:D} (hd:SlOf 1 byr l d) (a b:Nat) (hab:a≤b) (hb:b≤l.length):∃ d',a0D tab a0L true true true [d,.int .i64 a,.int .i64 b,.int .i64 b]=some d'∧SlOf 1 byr ((l.take b).drop a) d':=by
 have t1:tab a0L=some ti22:=id rfl
 have t2:ti22.td = .sl ty5:=id rfl
 have t3:tab ty5=some ti5:=id rfl
 have t4:ti5.sz=1:=id rfl
 simp only [a0D,a2G,bs,a2b,t1,t2,t3]
 rcases hd with ⟨rfl,rfl⟩ | ⟨f,rfl⟩
 ·have:b=0:=by simpa using hb
  subst this
  have:a=0:=by omega
  subst this
  exact ⟨_,rfl,.inl ⟨rfl,rfl⟩⟩
 ·have h1:(a:Int)≤b:=by omega
  have h2:(b:Int)≤l.length:=by omega
  simp [-bind_some, t4,h1,h2,hb,hab]
  exact .inr ⟨_,by rw [List.map_drop,List.map_take]⟩
theorem b6G {l:List Int} {d:D} (hd:SlOf 1 byr l d) (a b:Nat) (hab:a≤b) (hb:b≤l.length):∃ d',a0D tab a0L true true false [d,.int .i64 a,.int .i64 b]=some d'∧SlOf 1 byr ((l.take b).drop a) d':=by
 have t1:tab a0L=some ti22:=id rfl
 have t2:ti22.td = .sl ty5:=id rfl
 have t3:tab ty5=some ti5:=id rfl
 have t4:ti5.sz=1:=id rfl
 simp only [a0D,a2G,bs,a2b,t1,t2,t3]
 rcases hd with ⟨rfl,rfl⟩ | ⟨f,rfl⟩
 ·have:b=0:=by simpa using hb
  subst this
  have:a=0:=by omega
  subst this
  exact ⟨_,rfl,.inl ⟨rfl,rfl⟩⟩
 ·have h1:(a:Int)≤b:=by omega
  have h2:(b:Int)≤l.length:=by omega
  simp [-bind_some, t4,h1,h2,hb,hab]
  exact .inr ⟨_,by rw [List.map_drop,List.map_take]⟩
theorem b1Y {l:List Int} {d:D} (h:Hp) (hd:SlOf 1 byr l d) (a b:Nat) (hab:a≤b) (hb:b≤l.length):∃ d',b3J tab h a0L true true [d,.int .i64 a,.int .i64 b,.int .i64 b]=some (d',h)∧SlOf 1 byr ((l.take b).drop a) d':=by
 obtain ⟨d',e,hs⟩:=c3P hd a b hab hb
 exact ⟨d',by simp only [b3J,e],hs⟩
theorem d7o (l:List Int) (h:l.length=4):∃ a b c e,l=[a,b,c,e]:=by
 match l,h with
 | [a,b,c,e],_=>exact ⟨a,b,c,e,rfl⟩
theorem c1s {l:List Int} (h:l.length=4) (hu:∀ z∈l,U8 z):U32 (num l):=by
 obtain ⟨a,b,c,e,rfl⟩:=d7o l h
 exact c4J (hu a (by simp)) (hu b (by simp)) (hu c (by simp)) (hu e (by simp))
theorem c2Z (l:List Int) (d:D) (h:Hp) (hd:SlOf 1 byr l d) (hl:l.length=4) (hu:∀ z∈l,U8 z):R a5i [d] h=some (.int .u32 (num l),h):=by
 obtain ⟨a,b,c,e,rfl⟩:=d7o l hl
 exact c9J a b c e d h hd (hu a (by simp)) (hu b (by simp)) (hu c (by simp)) (hu e (by simp))
theorem b8K (q:Nat):¬ D.inOb .nils q:=fun hh=>by obtain ⟨z,n,hh⟩:=hh;cases hh
theorem a4Y {h:Hp} {n0 e z:Nat} {rows:List (List D)} {d:D} (ow:Own h n0 e z rows d) {q:Nat} (hq:d.inOb q):h[q]?=some (.row e z rows):=by
 obtain ⟨z',n,rfl⟩:=hq
 rcases ow with ⟨hd,_⟩ | ⟨o,ho,hd,hg⟩
 ·cases hd
 ·injection hd with _ h2
  subst h2
  exact hg
theorem b8S {h:Hp} {n n' e e' z z':Nat} {rows rows':List (List D)} {d d':D} (a:Own h n e z rows d) (b:Own h n' e' z' rows' d') (hne:e≠e') {q:Nat} (hq:d.inOb q):¬ d'.inOb q:=fun hx=>by
 have h1:=a4Y a hq
 have h2:=a4Y b hx
 rw [h1] at h2
 injection h2 with h2
 injection h2 with h3
 exact hne h3
theorem d5w (v:Int) (n0:Nat):∀ (k:Nat),k≤8→∀ (h:Hp) (l:List Int) (d a:D),n0≤h.length→Own h n0 ty5 1 (l.map byr) d→l.length+k≤1000000000→∃ d' h' b,a0J (a7i (.int .u64 v)) [d,.int .i64 (8*((k:Int) - 1)),a] h=some (.ext 0,[d',b,.bool false],h')∧Bw n0 h d h' (l++a3X k v) d':=by
 intro k
 induction k with
 | zero =>
  intro _ h l d a hn ow hr
  rw [a1r]
  refine ⟨d,h,_,by simp [-bind_some, a7i];rfl,?_⟩
  simpa [-bind_some, a3X] using Bw.refl ow
 | succ k ih =>
  intro hk h l d a hn ow hr
  have hg:(0:Int)≤8*(((k+1:Nat):Int) - 1):=by omega
  have hw1:8*(((k+1:Nat):Int) - 1)=8*(k:Int):=by omega
  have hw2:IntKind.wrap .i64 (8*(k:Int) - 8)=8*((k:Int) - 1):=by rw [wrap_i64 (by omega) (by omega)];omega
  have h8:¬ (8*(k:Int))<0:=by omega
  have hmn:min (8*(k:Int)).toNat IntKind.u64.bits=8*k:=by
   have:IntKind.u64.bits=64:=rfl
   rw [this];omega
  obtain ⟨x',g,e1,B1⟩:=b5t (y := .sl 1 true [byr (IntKind.wrap .u8 (v.fdiv (2 ^ (8*k))))]) (m:=[IntKind.wrap .u8 (v.fdiv (2 ^ (8*k)))]) hn ow (a1e _ _ _ _) (by simp;omega)
  obtain ⟨d',h',b,e2,B2⟩:=ih (by omega) g _ x' (.bool true) (Nat.le_trans hn B1.len) B1.ow (by simp;omega)
  refine ⟨d',h',b,?_,?_⟩
  ·rw [a1r]
   rw [hw1] at hg ⊢
   simp only [a7i,a0e,a0m,bs,a2Y,decide_eq_true hg,a0d,if_true,a2E,h8,if_false,hmn,a7l,b3D,show ∀ z,([[D.int .u8 z]]:List (List D))=[byr z] from fun _=>rfl,e1,a0N,hw2]
   exact e2
  ·have:=B1.trans B2
   simpa [-bind_some, a3X] using this
theorem b9p (v:Int) (k:Nat) (hk:k≤8) (n0:Nat) (h:Hp) (l:List Int) (d:D) (hn:n0≤h.length) (ow:Own h n0 ty5 1 (l.map byr) d) (hr:l.length≤999999000):∃ d' h',R a4o [d,.int .u64 v,.int .i64 k] h=some (d',h')∧Bw n0 h d h' (l++a3X k v) d':=by
 obtain ⟨d',h',b,e1,B⟩:=d5w v n0 k hk h l d .any hn ow (by omega)
 refine ⟨d',h',?_,B⟩
 rw [d2t]
 have hw:IntKind.wrap .i64 ((k:Int) - 1)=(k:Int) - 1:=by rw [wrap_i64 (by omega) (by omega)]
 have hw2:IntKind.wrap .i64 (8*((k:Int) - 1))=8*((k:Int) - 1):=by rw [wrap_i64 (by omega) (by omega)]
 simp only [c6W,bs,a0N,hw,a4R,hw2,e0h,e1,a0l,a0k,a0e,a0j]
theorem c9M (l:List Int) (d:D) (h:Hp) (hd:RdB h l d) (hl:l.length≤9223372036854775806) (hu:∀ z∈l,U8 z):R b4B [d] h=some (.int .u64 (a4q l),h):=by
 apply Wp.val
 rw [d2u]
 simp only [c6X,bs,e0h,a6H hd]
 refine Wp.loop (fun k ds g=>g=h∧∃ x y,∃ n:Nat,ds=[.int .u64 (a4q (l.take n)),x,.int .i64 n,y]∧k+n=l.length) (fun r=>r.1 = .ext 0∧r.2.2=h∧∃ a b c,r.2.1=[.int .u64 (a4q l),a,b,c]) l.length ⟨rfl,_,_,0,rfl,rfl⟩ ?_ ?_
 ·rintro k ds g ⟨rfl,x,y,n,rfl,hk⟩
  simp only [b3r,a0e,a0m,bs,e0h,a0o]
  refine Wp.dif ?_ ?_
  ·intro h0
   have h0:n<l.length:=dl_ h0
   obtain ⟨z,hz⟩:=gx_ h0
   have hzu:=hu z (e0w hz)
   obtain ⟨q,q1,q2⟩:=b9b hd n z hz
   have hr:=a6w (l.take n)
   have hw:=wi_ n (by omega)
   unfold U8 at hzu
   have w1:IntKind.wrap .u64 (a4q (l.take n)*31)=a4q (l.take n)*31:=a1Q (by omega) (by omega)
   have w2:IntKind.wrap .u64 z=z:=a1Q (by omega) (by omega)
   have w3:IntKind.wrap .u64 (a4q (l.take n)*31+z)=a4q (l.take n)*31+z:=a1Q (by omega) (by omega)
   have w4:(a4q (l.take n)*31+z).tmod 4294967291=a4q (l.take (n+1)):=by
    rw [b0L hz,Int.tmod_eq_emod_of_nonneg (by omega)]
   simp only [a4R,w1,q1,q2,a9x,w2,a0r,w3,bs,a4S,show ¬ ((4294967291:Int)=0) by omega,if_false,w4,hw]
   exact .some (.inl ⟨rfl,k - 1,by omega,rfl,_,_,n+1,rfl,by omega⟩)
  ·intro h0
   have h0:n=l.length:=by
    have:¬ (n:Int)<l.length:=by simpa using h0
    omega
   subst h0
   rw [e0G]
   exact .some (.inr ⟨by simp,rfl,rfl,_,_,_,rfl⟩)
 ·rintro ⟨ex,ds,g⟩ ⟨rfl,q2,a,b,c,rfl⟩
  simp only at q2
  subst q2
  simp only [a0l,a0k,bs,a0e,a0j]
  exact .some rfl
structure WrS (n0 oi ow:Nat) (h0:Hp) (it:List D) (g:Hp) (l:List Int):Prop where
 hi:g[oi]?=some (.row a0z 11 [it])
 hw:∃ d,g[ow]?=some (.row a2j 1 [[d]])∧Own g n0 ty5 1 (l.map byr) d
 lo:∀ q,q<n0→g[q]?=h0[q]?
 ln:n0≤g.length
theorem ldw {g:Hp} {ow:Nat} {d:D} (h:g[ow]?=some (.row a2j 1 [[d]])):a0c tab g a0L (.ptr ow 0 (0+0))=some d:=by rw [c8J,a0F h];rfl
theorem WrS.put {n0 oi ow:Nat} {h0:Hp} {it:List D} {g g':Hp} {l l':List Int} {d d':D} (s:WrS n0 oi ow h0 it g l) (hn:n0≤ow) (hw:g[ow]?=some (.row a2j 1 [[d]])) (hb:Own g n0 ty5 1 (l.map byr) d) (B:Bw n0 g d g' l' d') {β:Type} {f:Hp→Option β} {Q:β→Prop}
  (k:∀ g2,WrS n0 oi ow h0 it g2 l'→Wp (f g2) Q):Wp ((a0p tab g' a0L (.ptr ow 0 (0+0)) d').bind f) Q:=by
 have hnd:∀ {q T z:Nat} {rows:List (List D)},g[q]?=some (.row T z rows)→T≠ty5→¬ d.inOb q:=fun hq hT hx=>by
  have:=a4Y hb hx
  rw [hq] at this
  injection this with this
  injection this with h1
  exact hT h1
 have keep:∀ {q T z:Nat} {rows:List (List D)},g[q]?=some (.row T z rows)→T≠ty5→g'[q]?=some (.row T z rows):=fun hq hT=>by
  rw [B.old _ (e0y.1 hq).1 (hnd hq hT)];exact hq
 have hw':=keep hw (by decide)
 have hi':=keep s.hi (by decide)
 refine d0d hw' (by rfl) (by rcases B.ow with ⟨rfl,_⟩ | ⟨o,_,rfl,_⟩ <;> rfl) (by simp) (by rcases B.ow with ⟨rfl,_⟩ | ⟨o,_,rfl,_⟩ <;> rfl) fun g2 h2 s2=>?_
 have hne:oi≠ow:=fun hh=>by
  subst hh
  rw [s.hi] at hw
  injection hw with hw
  injection hw with h1
  exact absurd h1 (by decide)
 have hc:a0B d'=[d']:=by rcases B.ow with ⟨rfl,_⟩ | ⟨o,_,rfl,_⟩ <;> rfl
 have h2:g2[ow]?=some (.row a2j 1 [[d']]):=by rw [h2,hc];rfl
 refine k g2 ⟨by rw [s2.2 oi hne];exact hi',⟨d',h2,B.ow.keep fun q _ hx=>s2.2 q fun hh=>?_⟩,fun q hq=>?_,?_⟩
 ·subst hh
  have:=a4Y B.ow hx
  rw [hw'] at this
  injection this with this
  injection this with h1
  exact absurd h1 (by decide)
 ·rw [s2.2 q (by omega),B.old q (by have:=s.ln;omega) (fun hx=>by have:=(hb.lt hx).1;omega)]
  exact s.lo q hq
 ·have:=s2.1;have:=B.len;have:=s.ln;omega
theorem b9I {n0 oi ow:Nat} {h0:Hp} {it:List D} {g:Hp} {l:List Int} (s:WrS n0 oi ow h0 it g l) (hn:n0≤ow) (hl:l.length≤999999000) (t:D) (n:Int) (ht:a0h tab t=some t) (hld:a0c tab g ty3 t=some (.int .i64 n)) {β:Type} {f:D × Hp→Option β} {Q:β→Prop}
  (k:∀ g2,WrS n0 oi ow h0 it g2 (l++pI n)→Wp (f (a0f [],g2)) Q):Wp ((R b7N [.ptr ow 0 0,t] g).bind f) Q:=by
 obtain ⟨d,hw,hb⟩:=s.hw
 obtain ⟨d',g1,e1,B⟩:=b9p (IntKind.wrap .u64 n) 8 (by omega) n0 g l d s.ln hb hl
 have e1:R a4o [d,.int .u64 (IntKind.wrap .u64 n),.int .i64 8] g=some (d',g1):=e1
 rw [d2x]
 simp only [c7a,bs,a0s,a6e,ldw hw,ht,hld,a2D,e1,e0h]
 refine s.put hn hw hb B fun g2 s2=>?_
 try simp only [bs]
 exact k g2 s2
theorem c9Y {n0 oi ow:Nat} {h0:Hp} {it:List D} {g:Hp} {l:List Int} (s:WrS n0 oi ow h0 it g l) (hn:n0≤ow) (hl:l.length≤999999000) (n:Nat) {β:Type} {f:D × Hp→Option β} {Q:β→Prop}
  (k:∀ g2,WrS n0 oi ow h0 it g2 (l++pN n)→Wp (f (.int .i64 n,g2)) Q):Wp ((R b7M [.ptr ow 0 0,.int .i64 n] g).bind f) Q:=by
 obtain ⟨d,hw,hb⟩:=s.hw
 obtain ⟨d',g1,e1,B⟩:=b9p (IntKind.wrap .u64 n) 4 (by omega) n0 g l d s.ln hb hl
 have e1:R a4o [d,.int .u64 (IntKind.wrap .u64 n),.int .i64 4] g=some (d',g1):=e1
 rw [d2w]
 simp only [c6Z,bs,a0s,a6e,ldw hw,a2D,e1,e0h]
 refine s.put hn hw hb B fun g2 s2=>?_
 simp only [bs,a0j]
 exact k g2 s2
theorem b5V {n0 oi ow:Nat} {h0:Hp} {it:List D} {g:Hp} {l:List Int} (s:WrS n0 oi ow h0 it g l) (hn:n0≤ow) (u:Str) (hl:l.length+u.length≤999998000) (t:D) (ht:a0h tab t=some t) (hld:∀ g':Hp,g'[oi]?=some (.row a0z 11 [it])→a0c tab g' ty9 t=some (.str u)) {β:Type} {f:D × Hp→Option β} {Q:β→Prop}
  (k:∀ g2,WrS n0 oi ow h0 it g2 (l++pS u)→Wp (f (a0f [],g2)) Q):Wp ((R b7O [.ptr ow 0 0,t] g).bind f) Q:=by
 obtain ⟨d,hw,hb⟩:=s.hw
 obtain ⟨d1,g1,e1,B1⟩:=b9p (IntKind.wrap .u64 u.length) 4 (by omega) n0 g l d s.ln hb (by omega)
 have e1:R a4o [d,.int .u64 (IntKind.wrap .u64 u.length),.int .i64 4] g=some (d1,g1):=e1
 obtain ⟨d2,g2,e2,B2⟩:=c7t (Nat.le_trans s.ln B1.len) B1.ow u (by simp only [e0m,a1f];omega)
 have hi1:g1[oi]?=some (.row a0z 11 [it]):=by
  rw [B1.old oi (e0y.1 s.hi).1 (fun hx=>by
   have:=a4Y hb hx
   rw [s.hi] at this
   injection this with this
   injection this with h1
   exact absurd h1 (by decide))]
  exact s.hi
 have B:=B1.trans B2
 have hpS:l++a3X 4 (IntKind.wrap .u64 u.length)++sby u=l++pS u:=by simp [-bind_some, pS,pN]
 rw [hpS] at B
 rw [d2y]
 simp only [c7b,bs,a0s,a6e,ldw hw,ht,hld g s.hi,a5I,a2D,e1,hld g1 hi1,e2,e0h]
 refine s.put hn hw hb B fun g2 s2=>?_
 simp only [bs,a1v]
 exact k g2 s2
theorem nmN (d:D):a0h tab (.fn (.method "logtide/event.number") [.iface a4N d] [])=some (.fn (.method "logtide/event.number") [.iface a4N d] []):=by kernel_rfl
theorem nmT (d:D):a0h tab (.fn (.method "logtide/event.text") [.iface a4N d] [])=some (.fn (.method "logtide/event.text") [.iface a4N d] []):=by kernel_rfl
theorem nmC (d:D):a0h tab (.fn (.method "logtide/event.count") [.iface a4N d] [])=some (.fn (.method "logtide/event.count") [.iface a4N d] []):=by kernel_rfl
theorem a2w (cs:List D):a0h tab (.fptr cs)=some (.fptr cs):=id rfl
theorem itA {g:Hp} {oi:Nat} {i:It} (h:g[oi]?=some (.row a0z 11 [itr i])):a0c tab g ty9 (.ptr oi 0 (0+0))=some (.str i.r)∧a0c tab g ty3 (.ptr oi 0 (0+1+0))=some (.int .i64 i.e.a0)∧a0c tab g ty3 (.ptr oi 0 (0+1+1))=some (.int .i64 i.e.a1) ∧
  a0c tab g ty3 (.ptr oi 0 (0+1+2))=some (.int .i64 i.e.a2)∧a0c tab g ty3 (.ptr oi 0 (0+1+3))=some (.int .i64 i.e.a3)∧a0c tab g a1j (.ptr oi 0 (0+1+4))=some i.e.ld∧a0c tab g ty3 (.ptr oi 0 (0+1+5))=some (.int .i64 i.e.a5) ∧
  a0c tab g ty3 (.ptr oi 0 (0+1+6))=some (.int .i64 i.e.a6)∧a0c tab g ty9 (.ptr oi 0 (0+1+7))=some (.str i.e.s7)∧a0c tab g ty9 (.ptr oi 0 (0+1+8))=some (.str i.e.s8)∧a0c tab g a1p (.ptr oi 0 (0+1+9))=some i.e.fd:=by
 refine ⟨?_,?_,?_,?_,?_,?_,?_,?_,?_,?_,?_⟩
 ·rw [b0x,a0F h];rfl
 ·rw [a6D,a0F h];rfl
 ·rw [a6D,a0F h];rfl
 ·rw [a6D,a0F h];rfl
 ·rw [a6D,a0F h];rfl
 ·rw [a7b,a0F h];rfl
 ·rw [a6D,a0F h];rfl
 ·rw [a6D,a0F h];rfl
 ·rw [b0x,a0F h];rfl
 ·rw [b0x,a0F h];rfl
 ·rw [c1j,a0F h];rfl
def pl4 (oi:Nat):List (List D):=[[.ptr oi 0 (0+1+0)],[.ptr oi 0 (0+1+1)],[.ptr oi 0 (0+1+2)],[.ptr oi 0 (0+1+3)]]
def a9O (i:It):List Int:=[i.e.a0,i.e.a1,i.e.a2,i.e.a3]
theorem c3Y {g:Hp} {oi:Nat} {i:It} (h:g[oi]?=some (.row a0z 11 [itr i])) (n:Nat) (hn:n<4):∃ t a,a0b tab a6r (.sl 1 true (pl4 oi)) (.int .i64 n)=some (.fptr [t])∧a0h tab t=some t∧a0c tab g ty3 t=some (.int .i64 a)∧(a9O i)[n]?=some a:=by
 obtain ⟨_,h0,h1,h2,h3,_⟩:=itA h
 have:n=0∨n=1∨n=2∨n=3:=by omega
 rcases this with rfl | rfl | rfl | rfl
 ·exact ⟨_,_,by rw [b1u];rfl,a0s _ _ _ _,h0,rfl⟩
 ·exact ⟨_,_,by rw [b1u];rfl,a0s _ _ _ _,h1,rfl⟩
 ·exact ⟨_,_,by rw [b1u];rfl,a0s _ _ _ _,h2,rfl⟩
 ·exact ⟨_,_,by rw [b1u];rfl,a0s _ _ _ _,h3,rfl⟩
theorem d6V (i:It) {n0 oi ow:Nat} {h0 g:Hp} {l:List Int} (s:WrS n0 oi ow h0 (itr i) g l) (hn:n0≤ow) (hl:l.length+(a1w i).length≤900000000) {β:Type} {f:D × Hp→Option β} {Q:β→Prop}
  (k:∀ g2,WrS n0 oi ow h0 (itr i) g2 (l++a1w i)→Wp (f (a0f [],g2)) Q):Wp ((R b1k [.iface a4N (.ptr ow 0 0),.ptr oi 0 0] g).bind f) Q:=by
 have hbb:=hl
 simp only [a1w,a5r,a3D,e0m,a1i,a1N,a1x] at hbb
 have hll:=i.e.hll
 have hlf:=i.e.hl
 rw [c7U]
 simp only [c3w,bs,e0h,a0s,a9K,a2I,nmT,nmN,nmC,a3z,a2q,a4c,a9I,a9J,a5v,a7O]
 refine b5V s hn i.r (by omega) _ (a0s _ _ _ _) (fun g' h=>(itA h).1) fun g1 s1=>?_
 simp only [bs,b3C (.ptr oi 0 (0+1+0)) (.ptr oi 0 (0+1+1)) (.ptr oi 0 (0+1+2)) (.ptr oi 0 (0+1+3)) rfl rfl rfl rfl,show ([[.ptr oi 0 (0+1+0)],[.ptr oi 0 (0+1+1)],[.ptr oi 0 (0+1+2)],[.ptr oi 0 (0+1+3)]]:List (List D))=pl4 oi from rfl,b8k,show (pl4 oi).length=4 from rfl]
 refine Wp.loop (fun kk ds g'=>∃ a b,∃ n:Nat,ds=[a,.int .i64 n,b]∧kk+n=4∧WrS n0 oi ow h0 (itr i) g' (l++pS i.r++(((a9O i).take n).map pI).flatten))
  (fun r=>r.1 = .ext 0∧(∃ a b c,r.2.1=[a,b,c])∧WrS n0 oi ow h0 (itr i) r.2.2 (l++pS i.r++((a9O i).map pI).flatten)) 4 ⟨_,_,0,rfl,rfl,by simpa using s1⟩ ?_ ?_
 ·rintro kk ds g' ⟨a,b,n,rfl,hk,s'⟩
  simp only [a9l,a0e,a0m,bs,e0h,a0o]
  refine Wp.dif ?_ ?_
  ·intro h1
   have h1:n<4:=by
    have:(n:Int)<((4:Nat):Int):=by simpa using h1
    omega
   obtain ⟨t,v,q1,q2,q3,q4⟩:=c3Y s'.hi n h1
   have hw:=wi_ n (by omega)
   have hle:=a5w pI (a9O i) n
   have hl32:((a9O i).map pI).flatten.length=32:=by simp only [a9O,e0p,e0q,List.flatten_cons,List.flatten_nil,e0m,a1i,e0A]
   simp only [q1,b1y,bs,a2q]
   refine b9I s' hn (by simp only [e0m,a1x];omega) t v q2 q3 fun g2 s2=>?_
   simp only [bs,a0r,hw]
   refine .some (.inl ⟨rfl,kk - 1,by omega,_,_,n+1,rfl,by omega,?_⟩)
   rw [a1n pI q4]
   simpa using s2
  ·intro h1
   have h1:n=4:=by
    have:¬ (n:Int)<((4:Nat):Int):=by simpa using h1
    omega
   subst h1
   exact .some (.inr ⟨by simp,rfl,⟨_,_,_,rfl⟩,s'⟩)
 rintro ⟨ex,ds,g2⟩ ⟨rfl,⟨a,b,c,rfl⟩,s2⟩
 have s2:WrS n0 oi ow h0 (itr i) g2 (l++pS i.r++((a9O i).map pI).flatten):=s2
 have h4:((a9O i).map pI).flatten=pI i.e.a0++pI i.e.a1++pI i.e.a2++pI i.e.a3:=by simp [-bind_some, a9O]
 rw [h4] at s2
 simp only [a0l,a0k,bs,e0h,a0s,a2c,(itA s2.hi).2.2.2.2.2.1,a2L i.e.hld,nmC,a4c]
 refine c9Y s2 hn (by simp only [e0m,a1i,a1x];omega) i.e.ls.length fun g3 s3=>?_
 have hA:l++pS i.r++(pI i.e.a0++pI i.e.a1++pI i.e.a2++pI i.e.a3)++pN i.e.ls.length=l++a3D i:=by simp [-bind_some, a3D]
 rw [hA] at s3
 have hAl:(a3D i).length=4+i.r.length+36:=by simp only [a3D,e0m,a1x,a1i,a1N]
 simp only [bs]
 refine Wp.loop (fun kk ds g'=>∃ a b c d,∃ n:Nat,ds=[a,b,.int .i64 n,c,d]∧kk+n=i.e.ls.length∧WrS n0 oi ow h0 (itr i) g' (l++a3D i++((i.e.ls.take n).map lnB).flatten))
  (fun r=>r.1 = .ext 2∧(∃ a b c d e,r.2.1=[a,b,c,d,e])∧WrS n0 oi ow h0 (itr i) r.2.2 (l++a3D i++(i.e.ls.map lnB).flatten)) i.e.ls.length ⟨_,_,_,_,0,rfl,rfl,by simpa using s3⟩ ?_ ?_
 ·rintro kk ds g' ⟨a,b,c,d,n,rfl,hk,s'⟩
  simp only [a7g,a0e,a0m,bs,e0h,a0o]
  refine Wp.dif ?_ ?_
  ·intro h1
   have h1:n<i.e.ls.length:=dl_ h1
   obtain ⟨x,hx⟩:=gx_ h1
   have hw:=wi_ n (by omega)
   have hix:a0b tab a1j i.e.ld (.int .i64 (n:Int))=some (.fptr (a1D x)):=by rw [b1v i.e.hld];simp [-bind_some, hx]
   have hle:=a5w lnB i.e.ls (n+1)
   rw [a1n lnB hx,e0m] at hle
   have hln:(lnB x).length=20+x.txt.length:=by simp only [lnB,e0m,a1i,a1x];omega
   have hne:¬ (n:Int)=(i.e.ls.length:Int):=by omega
   simp only [a0s,a2c,bs,(itA s'.hi).2.2.2.2.2.1,a2L i.e.hld,a0P,hne,decide_false,a0d,e0i,if_false,a0k,hix,a2w,lF0,lF1,lF2,nmN,nmT,a2q,a3z]
   refine b9I s' hn (by simp only [e0m];omega) _ x.off (a2w _) (lL0 x g') fun g4 s4=>?_
   simp only [bs]
   refine b9I s4 hn (by simp only [e0m,a1i];omega) _ x.len (a2w _) (ld3 _ _ _) fun g5 s5=>?_
   simp only [bs]
   refine b5V s5 hn x.txt (by simp only [e0m,a1i];omega) _ (a2w _) (fun g' _=>ld9 _ _ _) fun g6 s6=>?_
   simp only [bs,a0r,hw]
   refine .some (.inl ⟨rfl,kk - 1,by omega,_,_,_,_,n+1,rfl,by omega,?_⟩)
   rw [a1n lnB hx]
   simpa [-bind_some, lnB] using s6
  ·intro h1
   have h1:n=i.e.ls.length:=by
    have:¬ (n:Int)<i.e.ls.length:=by simpa using h1
    omega
   subst h1
   rw [e0G] at s'
   exact .some (.inr ⟨by simp,rfl,⟨_,_,_,_,_,rfl⟩,s'⟩)
 rintro ⟨ex,ds,g4⟩ ⟨rfl,⟨a,b,c,d,e,rfl⟩,s4⟩
 have s4:WrS n0 oi ow h0 (itr i) g4 (l++a3D i++(i.e.ls.map lnB).flatten):=s4
 simp only [a0l,a0k,bs,e0h,a0s,b2h,b2i,b2j,b2k,a4a,nmN,nmT,nmC,a2q,a3z,a4c]
 refine b9I s4 hn (by simp only [e0m];omega) _ i.e.a5 (a0s _ _ _ _) (itA s4.hi).2.2.2.2.2.2.1 fun g5 s5=>?_
 simp only [bs]
 refine b9I s5 hn (by simp only [e0m,a1i];omega) _ i.e.a6 (a0s _ _ _ _) (itA s5.hi).2.2.2.2.2.2.2.1 fun g6 s6=>?_
 simp only [bs]
 refine b5V s6 hn i.e.s7 (by simp only [e0m,a1i];omega) _ (a0s _ _ _ _) (fun g' h=>(itA h).2.2.2.2.2.2.2.2.1) fun g7 s7'=>?_
 simp only [bs]
 refine b5V s7' hn i.e.s8 (by simp only [e0m,a1i,a1x];omega) _ (a0s _ _ _ _) (fun g' h=>(itA h).2.2.2.2.2.2.2.2.2.1) fun g8 s8'=>?_
 simp only [bs,(itA s8'.hi).2.2.2.2.2.2.2.2.2.2,a2r i.e.hfd]
 refine c9Y s8' hn (by simp only [e0m,a1i,a1x];omega) i.e.fs.length fun g9 s9=>?_
 have hB:l++a3D i++(i.e.ls.map lnB).flatten++pI i.e.a5++pI i.e.a6++pS i.e.s7++pS i.e.s8++pN i.e.fs.length=l++a5r i:=by simp [-bind_some, a5r]
 rw [hB] at s9
 have hBl:(a5r i).length=(a3D i).length+(i.e.ls.map lnB).flatten.length+16+(4+i.e.s7.length)+(4+i.e.s8.length)+4:=by simp only [a5r,e0m,a1i,a1x,a1N]
 simp only [bs]
 refine Wp.loop (fun kk ds g'=>∃ a b c,∃ n:Nat,ds=[a,.int .i64 n,b,c]∧kk+n=i.e.fs.length∧WrS n0 oi ow h0 (itr i) g' (l++a5r i++((i.e.fs.take n).map fdB).flatten))
  (fun r=>r.1 = .ext 4∧(∃ a b c d,r.2.1=[a,b,c,d])∧WrS n0 oi ow h0 (itr i) r.2.2 (l++a1w i)) i.e.fs.length ⟨_,_,_,0,rfl,rfl,by simpa using s9⟩ ?_ ?_
 ·rintro kk ds g' ⟨a,b,c,n,rfl,hk,s'⟩
  simp only [a7h,a0e,a0m,bs,e0h,a0o]
  refine Wp.dif ?_ ?_
  ·intro h1
   have h1:n<i.e.fs.length:=dl_ h1
   obtain ⟨x,hx⟩:=gx_ h1
   have hw:=wi_ n (by omega)
   have hix:a0b tab a1p i.e.fd (.int .i64 (n:Int))=some (.fptr (fld x)):=by rw [a7a i.e.hfd];simp [-bind_some, hx]
   have hle:=a5w fdB i.e.fs (n+1)
   rw [a1n fdB hx,e0m] at hle
   have hln:(fdB x).length=8+x.1.length+x.2.length:=by simp only [fdB,e0m,a1x];omega
   have hne:¬ (n:Int)=(i.e.fs.length:Int):=by omega
   simp only [a0s,a4a,bs,(itA s'.hi).2.2.2.2.2.2.2.2.2.2,a2r i.e.hfd,a0P,hne,decide_false,a0d,e0i,if_false,a0k,hix,a2w,fF0,nmN,nmT,a2q,a3z]
   refine b5V s' hn x.1 (by simp only [e0m];omega) _ (a2w _) (fun g' _=>fL0 x g') fun g4 s4=>?_
   simp only [bs,(itA s4.hi).2.2.2.2.2.2.2.2.2.2,hix,fF1]
   refine b5V s4 hn x.2 (by simp only [e0m,a1x];omega) _ (a2w _) (fun g' _=>ld9 _ _ _) fun g6 s6=>?_
   simp only [bs,a0r,hw]
   refine .some (.inl ⟨rfl,kk - 1,by omega,_,_,_,n+1,rfl,by omega,?_⟩)
   rw [a1n fdB hx]
   simpa [-bind_some, fdB] using s6
  ·intro h1
   have h1:n=i.e.fs.length:=by
    have:¬ (n:Int)<i.e.fs.length:=by simpa using h1
    omega
   subst h1
   rw [e0G] at s'
   exact .some (.inr ⟨by simp,rfl,⟨_,_,_,_,rfl⟩,by simpa [-bind_some, a1w] using s'⟩)
 rintro ⟨ex,ds,gz⟩ ⟨rfl,⟨a,b,c,d,rfl⟩,sz⟩
 simp only [a0l,a2k,bs,e0h]
 exact k gz sz
theorem c8V (g:Hp):a9A tab g a0L (.int .i64 4) (.int .i64 4)=some (.msl 1 g.length 0 4,a0C g ty5 1 ([0,0,0,0].map byr)):=by
 have h1:tab a0L=some ti22:=id rfl
 have h2:ti22.td = .sl ty5:=id rfl
 have h3:tab ty5=some ti5:=id rfl
 have h4:ti5.sz=1:=id rfl
 have h5:ti5.zero=byr 0:=id rfl
 have h6:lim 4 ti5.by_=true:=a2n (by have:ti5.by_=1:=rfl;rw [this];omega) (by omega)
 have h7:(4:Int).toNat=4:=rfl
 simp only [a9A,h1,h2,h3,h4,h5,h7,h6,show (0:Int)≤4∧(4:Int)≤4∧true=true∧0<1 from ⟨by omega,by omega,rfl,by omega⟩,if_true]
 rfl
theorem d7A {g:Hp} {o:Nat} {p m r:List Int} {y:D} (ho:g[o]?=some (.row ty5 1 ((p++r).map byr))) (hy:a1a g 1 y=some (m.map byr)) (hl:m.length=p.length):∃ g',a6Y tab g a0L a0L (.msl 1 o 0 (p++r).length) y=some (.int .i64 m.length,g')∧g'[o]?=some (.row ty5 1 ((m++r).map byr))∧Same o g g':=by
 have h1:tab a0L=some ti22:=id rfl
 have h2:ti22.td = .sl ty5:=id rfl
 have h3:tab ty5=some ti5:=id rfl
 have h4:ti5.sz=1:=id rfl
 have hs:a6t g ti22 ti5 y=some (m.map byr):=by simp only [a6t,h2,h4,hy]
 have hn:a8b ti22=true:=rfl
 have hb:Nat.blt 0 1=true:=rfl
 have holt:=(e0y.1 ho).1
 have hmin:min (m.map byr).length (p++r).length=m.length:=by simp;omega
 refine ⟨g.set o (.row ty5 1 (((p++r).map byr).take 0++(m.map byr).take (p++r).length++((p++r).map byr).drop (0+m.length))),?a1,?a2,?a3⟩
 case a1=>simp only [a6Y,h1,h2,hn,h3,h4,hb,hs,ho,and_self,if_true,hmin]
 case a2 =>
  rw [List.getElem?_set_self holt]
  have e1:(m.map byr).take (p++r).length=m.map byr:=List.take_of_length_le (by simp;omega)
  rw [e1,List.take_zero,List.nil_append,Nat.zero_add,hl,e0o,List.drop_left' (by simp),e0o]
 case a3=>exact ⟨by simp,fun q hq=>e0I (Ne.symm hq)⟩
theorem d6q (i:It) (c:Int) (h:Hp) (hc:∀ g,R a6h [.agg (itr i)] g=some (.int .i64 c,g)) (hb:(a1w i).length≤800000000):∃ d',R b4z [.agg (itr i)] h=some (.tup [d',.int .i64 c],h)∧SlOf 1 byr (if c=0 then a3a i else []) d':=by
 suffices Wp (R b4z [.agg (itr i)] h) (fun p=>p.2=h∧∃ d',p.1 = .tup [d',.int .i64 c]∧SlOf 1 byr (if c=0 then a3a i else []) d') by
  obtain ⟨⟨x,h'⟩,h1,rfl,d',rfl,h2⟩:=this
  exact ⟨d',h1,h2⟩
 have hi0:(a0C h a0z 11 [itr i])[h.length]?=some (.row a0z 11 [itr i]):=a0Z _ _ _ _
 have ld0:a0c tab (a0C h a0z 11 [itr i]) a0z (.ptr h.length 0 0)=some (.agg (itr i)):=by rw [b2y,a0F hi0];rfl
 have hl0:(a0C h a0z 11 [itr i]).length=h.length+1:=by simp [-bind_some, a0C]
 rw [d2r]
 simp only [c6U,a3l a0z 11 h (itr i) rfl (by omega),bs,e0h,ld0,hc,a0A]
 refine Wp.dif ?_ ?_
 ·intro h0
  have h0:¬ c=0:=by simpa using h0
  simp only [bs,a1d]
  rw [a0M (d' := .tup [.nils,.int .i64 c]) (by simp) (.tup _ fun d hd=>by simp at hd;rcases hd with rfl | rfl <;> constructor) (by omega) fun q hq=>a0H _ _ _ _ hq]
  exact .some ⟨rfl,_,rfl,by rw [if_neg h0];exact .nils _ _⟩
 ·intro h0
  have h0:c=0:=by simpa using h0
  subst h0
  generalize hg0:a0C h a0z 11 [itr i]=g0 at *
  have hl1:(a0C g0 ty5 1 ([0,0,0,0].map byr)).length=h.length+2:=by simp [-bind_some, a0C,hl0]
  have hb1:(a0C g0 ty5 1 ([0,0,0,0].map byr))[h.length+1]?=some (.row ty5 1 ([0,0,0,0].map byr)):=by rw [← hl0];exact a0Z _ _ _ _
  have hi1:(a0C g0 ty5 1 ([0,0,0,0].map byr))[h.length]?=some (.row a0z 11 [itr i]):=by rw [a0H _ _ _ _ (by omega)];exact hi0
  have hq1:∀ q,q<h.length→(a0C g0 ty5 1 ([0,0,0,0].map byr))[q]?=h[q]?:=fun q hq=>by rw [a0H _ _ _ _ (by omega),← hg0,a0H _ _ _ _ hq]
  simp only [c8V,bs,hl0]
  generalize a0C g0 ty5 1 ([0,0,0,0].map byr)=g1 at *
  simp only [c0g (.msl 1 (h.length+1) 0 4) rfl,bs,a3l a2j 1 g1 [.msl 1 (h.length+1) 0 4] rfl (by omega),hl1]
  have hw2:(a0C g1 a2j 1 [[.msl 1 (h.length+1) 0 4]])[h.length+2]?=some (.row a2j 1 [[.msl 1 (h.length+1) 0 4]]):=by rw [← hl1];exact a0Z _ _ _ _
  have S0:WrS h.length h.length (h.length+2) h (itr i) (a0C g1 a2j 1 [[.msl 1 (h.length+1) 0 4]]) [0,0,0,0] :=
   ⟨by rw [a0H _ _ _ _ (by omega)];exact hi1,⟨_,hw2,.inr ⟨h.length+1,by omega,rfl,by rw [a0H _ _ _ _ (by omega)];exact hb1⟩⟩,fun q hq=>by rw [a0H _ _ _ _ (by omega)];exact hq1 q hq,by simp [-bind_some, a0C];omega⟩
  refine d6V i S0 (by omega) (by simp;omega) fun g2 S=>?_
  obtain ⟨d,hw,ho⟩:=S.hw
  have ldd:=ldw hw
  have hlen:([0,0,0,0]++a1w i:List Int).length=(a1w i).length+4:=by simp
  obtain ⟨P,hP⟩:∃ P,P=a3X 4 (IntKind.wrap .u64 (((a1w i).length:Int)+4)):=⟨_,rfl⟩
  have hPl:P.length=([0,0,0,0]:List Int).length:=by rw [hP,a1f];rfl
  have hH:P++a1w i=a5c i:=by rw [hP];rfl
  have rb:=RdB.own ho
  have hli:(([0,0,0,0]++a1w i:List Int).length:Int)=((a1w i).length:Int)+4:=by rw [hlen];omega
  obtain ⟨dp,g3,e3,B3⟩:=b9p (IntKind.wrap .u64 (((a1w i).length:Int)+4)) 4 (by omega) g2.length g2 [] .nils (Nat.le_refl _) (Own.nils _ _ _ _) (by simp)
  rw [List.nil_append,← hP] at B3
  have e3:R a4o [.nils,.int .u64 (IntKind.wrap .u64 (((a1w i).length:Int)+4)),.int .i64 4] g2=some (dp,g3):=e3
  simp only [bs,a0s,a6e,ldd,a6H rb,hli,a2D]
  refine Wp.step e3 ?_
  have old3:∀ q,q<g2.length→g3[q]?=g2[q]?:=fun q hq=>B3.old q hq (b8K q)
  have hw3:g3[h.length+2]?=some (.row a2j 1 [[d]]):=by rw [old3 _ (e0y.1 hw).1];exact hw
  have ldd3:=ldw hw3
  have ho3:Own g3 h.length ty5 1 (([0,0,0,0]++a1w i:List Int).map byr) d:=ho.keep fun q _ hx=>old3 q (ho.lt hx).2
  obtain ⟨o,hon,hdo,hob⟩:=a5m ho3 (i:=0) (by simp)
  rw [e0n] at hdo
  obtain ⟨g4,e4,ho4,s4⟩:=d7A hob (a4g (RdB.own B3.ow)) hPl
  rw [← hdo] at e4
  have hne:h.length+2≠o:=fun hh=>by
   rw [hh,hob] at hw3
   injection hw3 with hw3
   injection hw3 with h1
   exact absurd h1 (by decide)
  have hw4:g4[h.length+2]?=some (.row a2j 1 [[d]]):=by rw [s4.2 _ hne];exact hw3
  have ldd4:=ldw hw4
  have ho4':g4[o]?=some (.row ty5 1 ((a5c i).map byr)):=by rw [← hH];exact ho4
  have hHl:(a5c i).length=4+(a1w i).length:=by simp only [a5c,e0m,a1f]
  have own4:Own g4 h.length ty5 1 ((a5c i).map byr) d := .inr ⟨o,hon,by rw [hdo,hlen,e0n,hHl,Nat.add_comm],ho4'⟩
  have hn4:h.length≤g4.length:=by have:=s4.1;have:=B3.len;have:=S.ln;omega
  have e5:=c9M (a5c i) _ g4 (RdB.own own4) (by omega) (b2f i)
  obtain ⟨d5,g5,e6,B5⟩:=b9p (a4q (a5c i)) 4 (by omega) h.length g4 (a5c i) _ hn4 own4 (by omega)
  have e6:R a4o [d,.int .u64 (a4q (a5c i)),.int .i64 4] g4=some (d5,g5):=e6
  simp only [bs,e4,ldd3,ldd4,e5,e6,a1v,a1d]
  have hE:a5c i++a3X 4 (a4q (a5c i))=a3a i:=rfl
  rw [hE] at B5
  have hsl:=a1R (n0:=h.length) (n:=2) B5.ow (Nat.le_refl _) (fun a _=>a5s _ g5 2 a)
  have hlow:∀ q,q<h.length→g5[q]?=h[q]?:=fun q hq=>by
   rw [B5.old q (by omega) (fun hx=>by have:=(own4.lt hx).1;omega),s4.2 q (by omega),old3 q (by have:=S.ln;omega)]
   exact S.lo q hq
  rw [a0M (d' := .tup [frz h.length g5 3 d5,.int .i64 0]) (by simp) (by
   refine .tup _ fun d hd=>?_
   simp at hd
   rcases hd with rfl | rfl
   ·exact a1b hsl fun a _=>a7C _ a
   ·constructor) (Nat.le_trans hn4 B5.len) hlow]
  exact .some ⟨rfl,_,rfl,by simpa using hsl⟩
def bys (l:List Int):Str:=l.map fun z=>UInt8.ofNat z.toNat
theorem c3M (s:Str):bys (sby s)=s:=by
 unfold bys sby
 rw [List.map_map]
 conv=>rhs;rw [← List.map_id s]
 apply List.map_congr_left
 intro c _
 simp [-bind_some]
theorem b0Q:∀ (l:List Int),a7F (l.map byr)=some (bys l)
 | []=>rfl
 | z::l=>by
  simp only [e0p,byr,a7F]
  rw [b0Q l]
  rfl
theorem b0s {h:Hp} {l:List Int} {d:D} (hd:SlOf 1 byr l d):a7G h d=some (.str (bys l)):=by
 simp only [a7G,a4g (h:=h) (.inl hd),b0Q]
theorem a3S:∀ (n:Nat) (l:List Int),l.length=n→(∀ z∈l,U8 z)→0≤num l∧num l<256 ^ n
 | 0,l,h,_=>by
  have:l=[]:=List.length_eq_zero_iff.1 h
  subst this
  simp [-bind_some, num]
 | n+1,l,h,hu=>by
  have hz:l[n]?=some l[n]:=e0x (by omega)
  have h1:=b4Z hz
  rw [List.take_of_length_le (by omega)] at h1
  have h2:=a3S n (l.take n) (by simp;omega) fun z hz=>hu z (List.mem_of_mem_take hz)
  have h3:=hu l[n] (List.getElem_mem _)
  unfold U8 at h3
  rw [h1,Int.pow_succ]
  omega
theorem c1y (l:List Int) (d:D) (h:Hp) (hd:SlOf 1 byr l d) (hl:l.length≤8) (hu:∀ z∈l,U8 z):R a6R [d] h=some (.int .u64 (num l),h):=by
 apply Wp.val
 rw [d2v]
 simp only [c6Y,bs,e0h,a1z hd]
 refine Wp.loop (fun k ds g=>g=h∧∃ x y,∃ n:Nat,ds=[.int .u64 (num (l.take n)),x,.int .i64 n,y]∧k+n=l.length) (fun r=>r.1 = .ext 0∧r.2.2=h∧∃ a b c,r.2.1=[.int .u64 (num l),a,b,c]) l.length ⟨rfl,_,_,0,rfl,rfl⟩ ?_ ?_
 ·rintro k ds g ⟨rfl,x,y,n,rfl,hk⟩
  simp only [b3s,a0e,a0m,bs,e0h,a0o]
  refine Wp.dif ?_ ?_
  ·intro h0
   have h0:n<l.length:=dl_ h0
   obtain ⟨z,hz⟩:=gx_ h0
   have hzu:=hu z (e0w hz)
   have hw:=wi_ n (by omega)
   unfold U8 at hzu
   obtain ⟨hn0,hn1⟩:=a3S n (l.take n) (by simp;omega) fun z hz=>hu z (List.mem_of_mem_take hz)
   have hb:num (l.take n)<72057594037927936:=by
    have:n=0∨n=1∨n=2∨n=3∨n=4∨n=5∨n=6∨n=7:=by omega
    rcases this with rfl | rfl | rfl | rfl | rfl | rfl | rfl | rfl <;> omega
   have m3:min ((8:Int).toNat) IntKind.u64.bits=8:=by decide
   have p3:(2:Int) ^ 8=256:=by decide
   have w1:IntKind.wrap .u64 (num (l.take n)*2 ^ 8)=num (l.take n)*2 ^ 8:=by rw [p3];exact a1Q (by omega) (by omega)
   have w2:IntKind.wrap .u64 z=z:=a1Q (by omega) (by omega)
   have w3:=c2M (x:=num (l.take n)) (b:=z) 8 hn0 (by omega) (by rw [p3];omega) (by rw [p3];omega)
   have hii:a0b tab a0L d (.int .i64 (n:Int))=some (.fptr (byr z)):=by rw [a5z hd];simp [-bind_some, hz]
   rw [p3,← b4Z hz] at w3
   rw [p3] at w1
   simp only [hii,b3E,bs,a9y,show ¬ (8:Int)<0 by omega,if_false,m3,p3,w1,a9x,w2,b2a,w3,a0r,hw]
   exact .some (.inl ⟨rfl,k - 1,by omega,rfl,_,_,n+1,rfl,by omega⟩)
  ·intro h0
   have h0:n=l.length:=by
    have:¬ (n:Int)<l.length:=by simpa using h0
    omega
   subst h0
   rw [e0G]
   exact .some (.inr ⟨by simp,rfl,rfl,_,_,_,rfl⟩)
 ·rintro ⟨ex,ds,g⟩ ⟨rfl,q2,a,b,c,rfl⟩
  simp only at q2
  subst q2
  simp only [a0l,a0k,bs,a0e,a0j]
  exact .some rfl
abbrev Cur:=List Int × Bool
def a1S (s:Cur) (n:Int):List Int × Cur:=if s.2=true∨n<0∨(s.1.length:Int)<n then ([],(s.1,true)) else (s.1.take n.toNat,(s.1.drop n.toNat,false))
def a2z (s:Cur):Int × Cur:=(IntKind.wrap .i64 (num (a1S s 8).1),(a1S s 8).2)
def a3v (s:Cur):Int × Cur:=(IntKind.wrap .i64 (num (a1S s 4).1),(a1S s 4).2)
def a1Y (s:Cur):Option Str × Cur:=if (a1S (a3v s).2 (a3v s).1).2.2=true then (none,(a1S (a3v s).2 (a3v s).1).2) else (some (bys (a1S (a3v s).2 (a3v s).1).1),(a1S (a3v s).2 (a3v s).1).2)
def a1l (s:Cur):Int × Cur:=if (a3v s).2.2=true∨((a3v s).2.1.length:Int).tdiv 8<(a3v s).1 then (0,((a3v s).2.1,true)) else a3v s
def CuO (g:Hp) (oc:Nat) (s:Cur):Prop:=∃ d,g[oc]?=some (.row a1O 2 [[d,.bool s.2]])∧SlOf 1 byr s.1 d∧(∀ z∈s.1,U8 z)∧s.1.length≤1000000000
theorem c0D {g:Hp} {oc:Nat} {d:D} {b:Bool} (h:g[oc]?=some (.row a1O 2 [[d,.bool b]])):a0c tab g a0L (.ptr oc 0 (0+0))=some d∧a0c tab g ty4 (.ptr oc 0 (0+1))=some (.bool b):=⟨by rw [c8J,a0F h];rfl,by rw [d9A,a0F h];rfl⟩
theorem b0n {s:Cur} (hu:∀ z∈s.1,U8 z) (n:Int):(∀ z∈(a1S s n).1,U8 z)∧(∀ z∈(a1S s n).2.1,U8 z)∧(a1S s n).2.1.length≤s.1.length:=by
 unfold a1S
 split
 ·exact ⟨by simp,hu,Nat.le_refl _⟩
 ·exact ⟨fun z hz=>hu z (List.mem_of_mem_take hz),fun z hz=>hu z (List.mem_of_mem_drop hz),by simp⟩
theorem a8j (s:Cur) (n:Nat):(a1S s n).1.length≤n:=by
 unfold a1S
 split
 ·simp [-bind_some]
 ·simp [-bind_some];omega
theorem c3O {g:Hp} {oc:Nat} {s:Cur} (hc:CuO g oc s) (n:Int):∃ d g',R a6k [.ptr oc 0 0,.int .i64 n] g=some (d,g')∧SlOf 1 byr (a1S s n).1 d∧CuO g' oc (a1S s n).2∧Same oc g g':=by
 suffices Wp (R a6k [.ptr oc 0 0,.int .i64 n] g) (fun p=>SlOf 1 byr (a1S s n).1 p.1∧CuO p.2 oc (a1S s n).2∧Same oc g p.2) by
  obtain ⟨⟨x,h'⟩,h1,h2⟩:=this
  exact ⟨x,h',h1,h2⟩
 obtain ⟨d,ho,hd,hu,hl⟩:=hc
 obtain ⟨l1,l2⟩:=c0D ho
 obtain ⟨b,bad⟩:=s
 simp only at ho hd hu hl l2
 rw [d2C]
 have bad1:∀ {β:Type} (F:Hp→Option β) (Q:β→Prop),(∀ g',SlOf 1 byr ([]:List Int) .nils→CuO g' oc (b,true)→Same oc g g'→Wp (F g') Q)→Wp ((a0p tab g ty4 (.ptr oc 0 (0+1)) (.bool true)).bind F) Q:=fun F Q k=>by
  refine d7w ho (by rfl) (by rfl) (by simp) (by rfl) fun g' h' s'=>?_
  exact k g' (.nils _ _) ⟨d,h',hd,hu,hl⟩ s'
 simp only [c7f,bs,a0s,a2p,a6f,l1,l2,a1z hd,a0v,e0h]
 by_cases hb:bad=true
 ·subst hb
  have ht:a1S (b,true) n=([],(b,true)):=by simp [-bind_some, a1S]
  rw [ht]
  simp only [reduceCtorEq,e0j,if_false,bs,a0g,if_true,a0d,a0v]
  refine bad1 _ _ fun g' h1 h2 h3=>?_
  simp only [bs,a0j]
  exact .some ⟨h1,h2,h3⟩
 ·have hb:bad=false:=by simpa using hb
  subst hb
  by_cases hn:n<0
  ·have ht:a1S (b,false) n=([],(b,true)):=by simp [-bind_some, a1S,hn]
   rw [ht]
   simp only [a0v,a0s,a2p,l1,a1z hd,e0h,if_true,bs,a0o,hn,decide_true,reduceCtorEq,e0j,e0i,if_false,a0g,a0d]
   refine bad1 _ _ fun g' h1 h2 h3=>?_
   simp only [bs,a0j]
   exact .some ⟨h1,h2,h3⟩
  ·by_cases hgt:n>(b.length:Int)
   ·have ht:a1S (b,false) n=([],(b,true)):=by simp [-bind_some, a1S,hn,hgt]
    rw [ht]
    simp only [a0v,a0s,a2p,l1,a1z hd,e0h,if_true,bs,a0o,hn,decide_false,a0x,hgt,decide_true,reduceCtorEq,e0j,e0i,if_false,a0g,a0d]
    refine bad1 _ _ fun g' h1 h2 h3=>?_
    simp only [bs,a0j]
    exact .some ⟨h1,h2,h3⟩
   ·have ht:a1S (b,false) n=(b.take n.toNat,(b.drop n.toNat,false)):=by
      unfold a1S
      rw [if_neg (by simp only [e0i,false_or];omega)]
    rw [ht]
    obtain ⟨d1,e1,s1⟩:=c1D hd (k := .i64) (n:=n) (by omega) (by omega)
    obtain ⟨d2,e2,s2⟩:=b5S hd (k := .i64) (n:=n) (by omega) (by omega)
    simp only [a0v,a0s,a2p,l1,a1z hd,e0h,if_true,bs,a0o,hn,decide_false,a0x,hgt,reduceCtorEq,e0j,e0i,if_false,a0g,a0d,e1,e2]
    have hcl:a0B d2=[d2]:=(a0O (a0X s2)).1
    refine d0d ho (kk:=0) (row:=[d,.bool false]) (by rfl) (by rw [hcl];rfl) (by simp) (a0O (a0X s2)).2 fun g' h' s'=>?_
    rw [hcl] at h'
    simp only [bs,a0j]
    exact .some ⟨s1,⟨d2,h',s2,fun z hz=>hu z (List.mem_of_mem_drop hz),by simp;omega⟩,s'⟩
theorem b2K (row:List D) (off:Nat) (v:D) (hv:v.one=true) (ho:off<row.length):spl row off (a0B v)=row.set off v:=by
 rw [(a0O hv).1]
 simp only [spl,List.length_singleton]
 rw [List.set_eq_take_append_cons_drop,if_pos ho]
 simp [-bind_some]
structure Cell (g:Hp) (oc o k off:Nat) (T z:Nat) (rows:List (List D)) (row:List D):Prop where
 ho:g[o]?=some (.row T z rows)
 hr:rows[k]?=some row
 lt:off<row.length
 ne:o≠oc
def Wrt (g g':Hp) (oc o:Nat):Prop:=g'.length=g.length∧∀ q,q≠oc→q≠o→g'[q]?=g[q]?
theorem c3N {g:Hp} {oc:Nat} {s:Cur} (hc:CuO g oc s) {o k off T z:Nat} {rows:List (List D)} {row:List D} (C:Cell g oc o k off T z rows row) {β:Type} {f:D × Hp→Option β} {Q:β→Prop}
  (K:∀ g',CuO g' oc (a2z s).2→g'[o]?=some (.row T z (rows.set k (row.set off (.int .i64 (a2z s).1))))→Wrt g g' oc o→Wp (f (a0f [],g')) Q):Wp ((R b4D [.ptr oc 0 0,.ptr o k off] g).bind f) Q:=by
 obtain ⟨d,g1,e1,h1,h2,h3⟩:=c3O hc 8
 have hu:=hc.choose_spec.2.2.1
 have e2:=c1y _ d g1 h1 (a8j s 8) (b0n hu 8).1
 have ho1:g1[o]?=some (.row T z rows):=by rw [h3.2 o C.ne];exact C.ho
 rw [d2A]
 simp only [c7d,bs,e1,e2,a5Z,a0s,e0h]
 refine b9O ho1 C.hr (by rfl) (by have:=C.lt;omega) (by rfl) fun g2 p2 s2=>?_
 try simp only [bs]
 rw [b2K _ _ _ rfl C.lt] at p2
 refine K g2 ?_ p2 ⟨by rw [s2.1,h3.1],fun q q1 q2=>by rw [s2.2 q q2,h3.2 q q1]⟩
 obtain ⟨dd,x1,x2⟩:=h2
 exact ⟨dd,by rw [s2.2 oc (Ne.symm C.ne)];exact x1,x2⟩
theorem c7I {g:Hp} {oc:Nat} {s:Cur} (hc:CuO g oc s):∃ d g1,R a6k [.ptr oc 0 0,.int .i64 4] g=some (d,g1)∧R a6R [d] g1=some (.int .u64 (num (a1S s 4).1),g1)∧CuO g1 oc (a3v s).2∧Same oc g g1:=by
 obtain ⟨d,g1,e1,h1,h2,h3⟩:=c3O hc 4
 have hu:=hc.choose_spec.2.2.1
 exact ⟨d,g1,e1,c1y _ d g1 h1 (Nat.le_trans (a8j s 4) (by omega)) (b0n hu 4).1,h2,h3⟩
theorem c0t {g:Hp} {oc:Nat} {s:Cur} (hc:CuO g oc s) {o k off T z:Nat} {rows:List (List D)} {row:List D} (C:Cell g oc o k off T z rows row) {u:Str} (hold:row[off]?=some (.str u)) {β:Type} {f:D × Hp→Option β} {Q:β→Prop}
  (K:∀ g',CuO g' oc (a1Y s).2→g'[o]?=some (.row T z (rows.set k (row.set off (.str ((a1Y s).1.getD u)))))→Wrt g g' oc o→Wp (f (a0f [],g')) Q):Wp ((R b4E [.ptr oc 0 0,.ptr o k off] g).bind f) Q:=by
 obtain ⟨d,g1,e1,e2,h2,h3⟩:=c7I hc
 obtain ⟨d3,g3,e3,q1,q2,q3⟩:=c3O h2 (a3v s).1
 have e3:R a6k [.ptr oc 0 0,.int .i64 (IntKind.wrap .i64 (num (a1S s 4).1))] g1=some (d3,g3):=e3
 have st13:Same oc g g3:=h3.trans q3
 have ho3:g3[o]?=some (.row T z rows):=by rw [st13.2 o C.ne];exact C.ho
 obtain ⟨dd,x1,x2⟩:=q2
 have l2:=(c0D x1).2
 rw [d2B]
 simp only [c7e,bs,e1,e2,a5Z,e3,a0s,a6f,l2,a1A,e0h]
 cases hbad:(a1S (a3v s).2 (a3v s).1).2.2 with
 | true =>
  have ht:a1Y s=(none,(a1S (a3v s).2 (a3v s).1).2):=by unfold a1Y;rw [if_pos hbad]
  rw [ht] at K
  simp only [hbad,e0s,a0d,e0i,if_false,bs,a2k]
  refine K g3 ⟨dd,x1,x2⟩ ?_ ⟨st13.1,fun q a _=>st13.2 q a⟩
  rw [ho3]
  have hrs:row.set off (.str u)=row:=by
   have hlt:=C.lt
   have:row[off] = .str u:=(e0y.1 hold).2
   rw [← this,List.set_getElem_self]
  have hrr:rows.set k row=rows:=by
   obtain ⟨hk1,hk2⟩:=e0y.1 C.hr
   rw [← hk2,List.set_getElem_self]
  simp only [Option.getD_none,hrs,hrr]
 | false =>
  have ht:a1Y s=(some (bys (a1S (a3v s).2 (a3v s).1).1),(a1S (a3v s).2 (a3v s).1).2):=by unfold a1Y;rw [if_neg (by rw [hbad];simp [-bind_some])]
  rw [ht] at K
  simp only [hbad,e0t,a0d,if_true,b0s q1,bs,e0h]
  refine d0f ho3 C.hr (by rfl) (by have:=C.lt;omega) (by rfl) fun g2 p2 s2=>?_
  rw [b2K _ _ _ rfl C.lt] at p2
  simp only [bs,a2k]
  exact K g2 ⟨dd,by rw [s2.2 oc (Ne.symm C.ne)];exact x1,x2⟩ p2 ⟨by rw [s2.1,st13.1],fun q a b=>by rw [s2.2 q b,st13.2 q a]⟩
theorem d0P {g:Hp} {oc:Nat} {s:Cur} (hc:CuO g oc s) (m:D) {β:Type} {f:D × Hp→Option β} {Q:β→Prop}
  (K:∀ g',CuO g' oc (a1l s).2→Same oc g g'→Wp (f (.int .i64 (a1l s).1,g')) Q):Wp ((R b4C [.ptr oc 0 0,m] g).bind f) Q:=by
 obtain ⟨d,g1,e1,e2,h2,h3⟩:=c7I hc
 obtain ⟨dd,x1,x2,x3,x4⟩:=h2
 obtain ⟨l1,l2⟩:=c0D x1
 rw [d2z]
 have hn:(a3v s).1=IntKind.wrap .i64 (num (a1S s 4).1):=rfl
 have wq:IntKind.wrap .i64 (((a3v s).2.1.length:Int).tdiv 8)=((a3v s).2.1.length:Int).tdiv 8:=by
  rw [Int.tdiv_eq_ediv_of_nonneg (by omega)]
  exact wrap_i64 (by omega) (by omega)
 have bad1:∀ {γ:Type} (F:Hp→Option γ) (Q:γ→Prop),(∀ g',CuO g' oc ((a3v s).2.1,true)→Same oc g g'→Wp (F g') Q)→Wp ((a0p tab g1 ty4 (.ptr oc 0 (0+1)) (.bool true)).bind F) Q:=fun F Q k=>by
  refine d7w x1 (by rfl) (by rfl) (by simp) (by rfl) fun g' h' s'=>?_
  exact k g' ⟨dd,h',x2,x3,x4⟩ (h3.trans s')
 simp only [c7c,bs,e1,e2,a5Z,← hn,a0s,a2p,a6f,l1,l2,a0v,a1z x2,e0h]
 cases hb:(a3v s).2.2 with
 | true =>
  have ht:a1l s=(0,((a3v s).2.1,true)):=by unfold a1l;rw [if_pos (.inl hb)]
  rw [ht] at K
  simp only [a0v,a0s,a2p,l1,a1z x2,reduceCtorEq,e0j,if_false,bs,a0g,if_true,a0d,e0h]
  refine bad1 _ _ fun g' h1 h2=>?_
  simp only [bs,a0j]
  exact K g' h1 h2
 | false =>
  by_cases hgt:(a3v s).1>((a3v s).2.1.length:Int).tdiv 8
  ·have ht:a1l s=(0,((a3v s).2.1,true)):=by unfold a1l;rw [if_pos (.inr hgt)]
   rw [ht] at K
   simp only [a0v,a0s,a2p,l1,a1z x2,if_true,bs,b3I,show ¬ ((8:Int)=0) by omega,if_false,wq,a0x,hgt,decide_true,reduceCtorEq,e0j,e0i,a0g,a0d,e0h]
   refine bad1 _ _ fun g' h1 h2=>?_
   simp only [bs,a0j]
   exact K g' h1 h2
  ·have ht:a1l s=a3v s:=by unfold a1l;rw [if_neg (by rw [hb];simp only [e0i,false_or];exact hgt)]
   rw [ht] at K
   simp only [a0v,a0s,a2p,l1,a1z x2,if_true,bs,b3I,show ¬ ((8:Int)=0) by omega,if_false,wq,a0x,hgt,decide_false,reduceCtorEq,e0j,e0i,a0g,a0d,e0h,a0j]
   exact K g1 ⟨dd,x1,x2,x3,x4⟩ h3
def b8s (s:Cur):Lin × Cur:=(⟨(a2z s).1,(a2z (a2z s).2).1,(a1Y (a2z (a2z s).2).2).1.getD []⟩,(a1Y (a2z (a2z s).2).2).2)
def a7s:Nat→Cur→List Lin × Cur
 | 0,s=>([],s)
 | n+1,s=>((b8s s).1::(a7s n (b8s s).2).1,(a7s n (b8s s).2).2)
def fdS (s:Cur):(Str × Str) × Cur:=(((a1Y s).1.getD [],(a1Y (a1Y s).2).1.getD []),(a1Y (a1Y s).2).2)
def a7P:Nat→Cur→List (Str × Str) × Cur
 | 0,s=>([],s)
 | n+1,s=>((fdS s).1::(a7P n (fdS s).2).1,(a7P n (fdS s).2).2)
theorem d0D (d:D):a0h tab (.fn (.method "logtide/event.number") [.iface a3W d] [])=some (.fn (.method "logtide/event.number") [.iface a3W d] []):=by kernel_rfl
theorem d0E (d:D):a0h tab (.fn (.method "logtide/event.text") [.iface a3W d] [])=some (.fn (.method "logtide/event.text") [.iface a3W d] []):=by kernel_rfl
theorem d5F (d:D):a0h tab (.fn (.method "logtide/event.count") [.iface a3W d] [])=some (.fn (.method "logtide/event.count") [.iface a3W d] []):=by kernel_rfl
structure ViS (n0 oi oc:Nat) (h0 g:Hp) (row:List D) (s:Cur):Prop where
 hi:g[oi]?=some (.row a0z 11 [row])
 hc:CuO g oc s
 lo:∀ q,q<n0→g[q]?=h0[q]?
 ni:n0≤oi
 nc:n0≤oc
theorem ViS.ne {n0 oi oc:Nat} {h0 g:Hp} {row:List D} {s:Cur} (v:ViS n0 oi oc h0 g row s):oi≠oc:=fun hh=>by
 obtain ⟨d,h1,_⟩:=v.hc
 rw [← hh,v.hi] at h1
 injection h1 with h1
 injection h1 with h2
 exact absurd h2 (by decide)
theorem ViS.ln {n0 oi oc:Nat} {h0 g:Hp} {row:List D} {s:Cur} (v:ViS n0 oi oc h0 g row s):n0≤g.length:=by
 have:=(e0y.1 v.hi).1
 have:=v.ni
 omega
theorem a1X {g:Hp} {n e z o T z':Nat} {rows:List (List D)} {rr:List (List D)} {d:D} (ow:Own g n e z rows d) (ho:g[o]?=some (.row T z' rr)) (hne:e≠T) {q:Nat} (hq:d.inOb q):q≠o:=fun hh=>by
 have:=a4Y ow hq
 rw [hh,ho] at this
 injection this with this
 injection this with h2
 exact hne h2.symm
theorem Own.wrt {g g':Hp} {oc o n e z:Nat} {rows:List (List D)} {d:D} (ow:Own g n e z rows d) (hw:Wrt g g' oc o) {T1 z1 T2 z2:Nat} {r1 r2:List (List D)} (h1:g[oc]?=some (.row T1 z1 r1)) (h2:g[o]?=some (.row T2 z2 r2)) (e1:e≠T1) (e2:e≠T2):Own g' n e z rows d :=
 ow.keep fun q _ hx=>hw.2 q (a1X ow h1 e1 hx) (a1X ow h2 e2 hx)
theorem c5J {n0 oi oc:Nat} {h0 g:Hp} {row:List D} {s:Cur} (v:ViS n0 oi oc h0 g row s) (off:Nat) (hoff:off<row.length) {β:Type} {f:D × Hp→Option β} {Q:β→Prop}
  (K:∀ g',ViS n0 oi oc h0 g' (row.set off (.int .i64 (a2z s).1)) (a2z s).2→Wrt g g' oc oi→Wp (f (a0f [],g')) Q):Wp ((R b4D [.ptr oc 0 0,.ptr oi 0 off] g).bind f) Q :=
 c3N v.hc ⟨v.hi,rfl,hoff,v.ne⟩ fun g' h1 h2 h3=>K g' ⟨h2,h1,fun q hq=>by rw [h3.2 q (by have:=v.nc;omega) (by have:=v.ni;omega)];exact v.lo q hq,v.ni,v.nc⟩ h3
theorem c5j {n0 oi oc:Nat} {h0 g:Hp} {row:List D} {s:Cur} (v:ViS n0 oi oc h0 g row s) (off:Nat) {u:Str} (hu:row[off]?=some (.str u)) {β:Type} {f:D × Hp→Option β} {Q:β→Prop}
  (K:∀ g',ViS n0 oi oc h0 g' (row.set off (.str ((a1Y s).1.getD u))) (a1Y s).2→Wrt g g' oc oi→Wp (f (a0f [],g')) Q):Wp ((R b4E [.ptr oc 0 0,.ptr oi 0 off] g).bind f) Q :=
 c0t v.hc ⟨v.hi,rfl,(e0y.1 hu).1,v.ne⟩ hu fun g' h1 h2 h3=>K g' ⟨h2,h1,fun q hq=>by rw [h3.2 q (by have:=v.nc;omega) (by have:=v.ni;omega)];exact v.lo q hq,v.ni,v.nc⟩ h3
theorem c3h {n0 oi oc:Nat} {h0 g:Hp} {row:List D} {s:Cur} (v:ViS n0 oi oc h0 g row s) (m:D) {β:Type} {f:D × Hp→Option β} {Q:β→Prop}
  (K:∀ g',ViS n0 oi oc h0 g' row (a1l s).2→Wrt g g' oc oi→Wp (f (.int .i64 (a1l s).1,g')) Q):Wp ((R b4C [.ptr oc 0 0,m] g).bind f) Q :=
 d0P v.hc m fun g' h1 h2=>K g' ⟨by rw [h2.2 oi v.ne];exact v.hi,h1,fun q hq=>by rw [h2.2 q (by have:=v.nc;omega)];exact v.lo q hq,v.ni,v.nc⟩ ⟨h2.1,fun q a _=>h2.2 q a⟩
theorem a6N {g:Hp} {oc:Nat} {s:Cur} (hc:CuO g oc s):0≤(a1l s).1∧(a1l s).1≤1000000000:=by
 obtain ⟨d,h1,h2,h3,h4⟩:=hc
 have h5:=b0n h3 4
 have hl:(a1S s 4).1.length≤4:=a8j s 4
 obtain ⟨r0,r1⟩:=a3S _ _ rfl h5.1
 have r2:num (a1S s 4).1<4294967296:=by
  have hc:(a1S s 4).1.length=0∨(a1S s 4).1.length=1∨(a1S s 4).1.length=2∨(a1S s 4).1.length=3∨(a1S s 4).1.length=4:=by omega
  rcases hc with h | h | h | h | h <;> rw [h] at r1 <;> omega
 have hn:(a3v s).1=num (a1S s 4).1:=wrap_i64 (by omega) (by omega)
 unfold a1l
 split
 ·exact ⟨by simp,by simp⟩
 ·rename_i hh
  have h6:((a3v s).2.1.length:Int)≤1000000000:=by
   have:(a3v s).2.1.length≤s.1.length:=h5.2.2
   omega
  rw [Int.tdiv_eq_ediv_of_nonneg (by omega)] at hh
  have h7:¬ ((a3v s).2.1.length:Int) / 8<(a3v s).1:=fun hx=>hh (.inr hx)
  rw [hn] at h7
  rw [hn]
  omega
def itc (r:Str) (a0 a1 a2 a3:Int) (ld:D) (a5 a6:Int) (s7 s8:Str) (fd:D):List D:=[.str r,.int .i64 a0,.int .i64 a1,.int .i64 a2,.int .i64 a3,ld,.int .i64 a5,.int .i64 a6,.str s7,.str s8,fd]
theorem c4i {g:Hp} {oi:Nat} {r:Str} {a0 a1 a2 a3:Int} {ld:D} {a5 a6:Int} {t7 t8:Str} {fd:D} (h:g[oi]?=some (.row a0z 11 [itc r a0 a1 a2 a3 ld a5 a6 t7 t8 fd])):a0c tab g a1j (.ptr oi 0 (0+1+4))=some ld∧a0c tab g a1p (.ptr oi 0 (0+1+9))=some fd:=⟨by rw [a7b,a0F h];rfl,by rw [c1j,a0F h];rfl⟩
def a6L:List D:=[.int .i64 0,.int .i64 0,.str []]
theorem c9X {n0 oi oc:Nat} {h0:Hp} {r:Str} {a0 a1 a2 a3:Int} {a5 a6:Int} {t7 t8:Str} {fd:D} {g:Hp} {s:Cur} (N:Nat) (hN:N≤1000000000) {pp:D × Hp} (hpp:pp.1 = .int .i64 N) (v:ViS n0 oi oc h0 g (itc r a0 a1 a2 a3 .nils a5 a6 t7 t8 fd) s) (hfd:fd = .nils) (x1 x2 x3 x4:D) {β:Type} {K:Out→Option β} {Q:β→Prop}
  (k:∀ g' ld b1 b2 b3 b4 b5,ViS n0 oi oc h0 g' (itc r a0 a1 a2 a3 ld a5 a6 t7 t8 fd) (a7s N s).2→Own g' n0 a1Z 3 ((a7s N s).1.map a1D) ld→Wp (K (.ext 2,[b1,b2,b3,b4,b5],g')) Q):Wp ((a0J (a7g (.iface a3W (.ptr oc 0 0)) (.ptr oi 0 (0+1)) pp) [x1,x2,.int .i64 0,x3,x4] g).bind K) Q:=by
 refine Wp.loop (fun kk ds g'=>∃ b1 b2 b4 b5 ld,∃ n:Nat,∃ L:List Lin,∃ s':Cur,ds=[b1,b2,.int .i64 n,b4,b5]∧kk+n=N∧ViS n0 oi oc h0 g' (itc r a0 a1 a2 a3 ld a5 a6 t7 t8 fd) s'∧Own g' n0 a1Z 3 (L.map a1D) ld∧L.length=n∧L++(a7s (N - n) s').1=(a7s N s).1∧(a7s (N - n) s').2=(a7s N s).2)
  (fun r2=>r2.1 = .ext 2∧∃ b1 b2 b3 b4 b5 ld,r2.2.1=[b1,b2,b3,b4,b5]∧ViS n0 oi oc h0 r2.2.2 (itc r a0 a1 a2 a3 ld a5 a6 t7 t8 fd) (a7s N s).2∧Own r2.2.2 n0 a1Z 3 ((a7s N s).1.map a1D) ld) N ⟨_,_,_,_,.nils,0,[],s,rfl,rfl,v,Own.nils _ _ _ _,rfl,by simp,by simp⟩ ?_ ?_
 ·rintro kk ds g' ⟨b1,b2,b4,b5,ld,n,L,s',rfl,hk,v',ow,hL,e1,e2⟩
  simp only [a7g,a0e,a0m,bs,e0h,hpp,a0o]
  refine Wp.dif ?_ ?_
  ·intro h1
   have h1:n<N:=by
    have:(n:Int)<(N:Int):=by simpa using h1
    omega
   have hw:=wi_ n (by omega)
   have hll:((L.map a1D).length:Int)=n:=by simp [-bind_some, hL]
   have hbz:a0W tab a1j 1 [0] [.agg a6L]=some (.sl 3 true [a6L]):=id rfl
   have hzl:a0U tab a1Z [] []=some (.agg a6L):=id rfl
   simp only [a0s,a2c,(c4i v'.hi).1,c2D ow,hll,bs,a0P,decide_true,a0d,if_true,hzl,hbz,e0h]
   refine b5W (ys:=[a6L]) v'.ln ow (a1e _ _ _ _) (by simp;omega) fun ld2 g2 ow2 len2 bel2 old2 _=>?_
   obtain ⟨dc,c1,c2,c3,c4⟩:=v'.hc
   have hi2:g2[oi]?=some (.row a0z 11 [itc r a0 a1 a2 a3 ld a5 a6 t7 t8 fd]):=by rw [old2 oi (e0y.1 v'.hi).1 (fun hx=>a1X ow v'.hi (by decide) hx rfl)];exact v'.hi
   have hc2:g2[oc]?=some (.row a1O 2 [[dc,.bool s'.2]]):=by rw [old2 oc (e0y.1 c1).1 (fun hx=>a1X ow c1 (by decide) hx rfl)];exact c1
   simp only [bs]
   refine b2T hi2 (by rfl) (by rw [(a0O (a2f ow2)).1];rfl) (by simp [-bind_some, itc]) (a0O (a2f ow2)).2 fun g3 p3 s3=>?_
   rw [(a0O (a2f ow2)).1] at p3
   have p3:g3[oi]?=some (.row a0z 11 [itc r a0 a1 a2 a3 ld2 a5 a6 t7 t8 fd]):=p3
   have hc3:g3[oc]?=some (.row a1O 2 [[dc,.bool s'.2]]):=by rw [s3.2 oc (Ne.symm v'.ne)];exact hc2
   have ow3:Own g3 n0 a1Z 3 (L.map a1D++[a6L]) ld2:=ow2.keep fun q _ hx=>s3.2 q (a1X ow2 hi2 (by decide) hx)
   have v3:ViS n0 oi oc h0 g3 (itc r a0 a1 a2 a3 ld2 a5 a6 t7 t8 fd) s':=⟨p3,⟨dc,hc3,c2,c3,c4⟩,fun q hq=>by rw [s3.2 q (by have:=v'.ni;omega),bel2 q hq];exact v'.lo q hq,v'.ni,v'.nc⟩
   obtain ⟨ol,hol,hld2,ho3⟩:=a5m ow3 (i:=n) (by simp;omega)
   have hlen3:(L.map a1D++[a6L]).length=n+1:=by simp [-bind_some, hL]
   have hrn:(L.map a1D++[a6L])[n]?=some a6L:=by rw [List.getElem?_append_right (by simp [-bind_some, hL])];simp [-bind_some, hL]
   have hne3:ol≠oc:=fun hh=>by rw [hh,hc3] at ho3;injection ho3 with ho3;injection ho3 with h2;exact absurd h2 (by decide)
   have hne3i:ol≠oi:=fun hh=>by rw [hh,p3] at ho3;injection ho3 with ho3;injection ho3 with h2;exact absurd h2 (by decide)
   have i0:(0:Int)≤(n:Int)∧(n:Int)<(((L.map a1D++[a6L]).length:Nat):Int):=by omega
   have hix:a0b tab a1j ld2 (.int .i64 (n:Int))=some (.ptr ol n 0):=by rw [hld2,c1g,if_pos i0];simp [-bind_some]
   simp only [bs,a0k,a0s,a2c,(c4i v3.hi).1,hix,a3F,a3G,a3h,d0D,d0E,a1J,a3d,e0h]
   refine c3N v3.hc ⟨ho3,hrn,by simp [-bind_some, a6L],hne3⟩ fun g4 q1 q2 q3=>?_
   have hsn:∀ (x:List D),(L.map a1D++[a6L]).set n x=L.map a1D++[x]:=fun x=>by rw [List.set_append_right _ _ (by simp [-bind_some, hL])];simp [-bind_some, hL]
   rw [hsn] at q2
   have hgn:∀ (x:List D),(L.map a1D++[x])[n]?=some x:=fun x=>by rw [List.getElem?_append_right (by simp [-bind_some, hL])];simp [-bind_some, hL]
   have hsn':∀ (y x:List D),(L.map a1D++[y]).set n x=L.map a1D++[x]:=fun y x=>by rw [List.set_append_right _ _ (by simp [-bind_some, hL])];simp [-bind_some, hL]
   simp only [bs]
   refine c3N q1 ⟨q2,hgn _,by simp [-bind_some, a6L],hne3⟩ fun g5 q4 q5 q6=>?_
   rw [hsn'] at q5
   simp only [bs]
   refine c0t q4 ⟨q5,hgn _,by simp [-bind_some, a6L],hne3⟩ (u:=[]) (by rfl) fun g6 q7 q8 q9=>?_
   rw [hsn'] at q8
   have q8:g6[ol]?=some (.row a1Z 3 (L.map a1D++[a1D (b8s s').1])):=q8
   simp only [bs,a0r,hw]
   have hN:N - n=(N - (n+1))+1:=by omega
   rw [hN] at e1 e2
   refine .some (.inl ⟨rfl,kk - 1,by omega,_,_,_,_,ld2,n+1,L++[(b8s s').1],(b8s s').2,rfl,by omega,⟨?_,q7,fun q hq=>?_,v'.ni,v'.nc⟩,?_,by simp [-bind_some, hL],?_,?_⟩)
   ·rw [q9.2 oi v3.ne (Ne.symm hne3i),q6.2 oi v3.ne (Ne.symm hne3i),q3.2 oi v3.ne (Ne.symm hne3i)];exact p3
   ·have a1:=v'.nc
    rw [q9.2 q (by omega) (by omega),q6.2 q (by omega) (by omega),q3.2 q (by omega) (by omega)]
    exact v3.lo q hq
   ·refine .inr ⟨ol,hol,?_,by rw [q8];simp [-bind_some]⟩
    rw [hld2,hlen3];simp [-bind_some, hL]
   ·rw [← e1];simp [-bind_some, a7s]
   ·rw [← e2];simp [-bind_some, a7s]
  ·intro h1
   have h1:n=N:=by
    have:¬ (n:Int)<(N:Int):=by simpa using h1
    omega
   subst h1
   rw [Nat.sub_self] at e1 e2
   have f1:L++[]=(a7s n s).1:=e1
   have f2:s'=(a7s n s).2:=e2
   rw [List.append_nil] at f1
   rw [f2] at v'
   exact .some (.inr ⟨by simp,rfl,_,_,_,_,_,ld,rfl,v',by rw [← f1];exact ow⟩)
 ·rintro ⟨ex,ds,g'⟩ ⟨rfl,b1,b2,b3,b4,b5,ld,rfl,v',ow⟩
  exact k g' ld b1 b2 b3 b4 b5 v' ow
def b5Y:List D:=[.str [],.str []]
theorem c5h {n0 oi oc:Nat} {h0:Hp} {r:Str} {a0 a1 a2 a3:Int} {a5 a6:Int} {t7 t8:Str} {ld:D} {L:List Lin} {g:Hp} {s:Cur} (N:Nat) (hN:N≤1000000000) {pp:D × Hp} (hpp:pp.1 = .int .i64 N) (v:ViS n0 oi oc h0 g (itc r a0 a1 a2 a3 ld a5 a6 t7 t8 .nils) s) (hld:Own g n0 a1Z 3 (L.map a1D) ld) (x1 x2 x3:D) {β:Type} {K:Out→Option β} {Q:β→Prop}
  (k:∀ g' fd b1 b2 b3 b4,ViS n0 oi oc h0 g' (itc r a0 a1 a2 a3 ld a5 a6 t7 t8 fd) (a7P N s).2→Own g' n0 a1Z 3 (L.map a1D) ld→Own g' n0 a0T 2 ((a7P N s).1.map fld) fd→Wp (K (.ext 4,[b1,b2,b3,b4],g')) Q):Wp ((a0J (a7h (.iface a3W (.ptr oc 0 0)) (.ptr oi 0 (0+1)) pp) [x1,.int .i64 0,x2,x3] g).bind K) Q:=by
 refine Wp.loop (fun kk ds g'=>∃ b1 b4 b5 fd,∃ n:Nat,∃ M:List (Str × Str),∃ s':Cur,ds=[b1,.int .i64 n,b4,b5]∧kk+n=N∧ViS n0 oi oc h0 g' (itc r a0 a1 a2 a3 ld a5 a6 t7 t8 fd) s'∧Own g' n0 a1Z 3 (L.map a1D) ld∧Own g' n0 a0T 2 (M.map fld) fd∧M.length=n∧M++(a7P (N - n) s').1=(a7P N s).1∧(a7P (N - n) s').2=(a7P N s).2)
  (fun r2=>r2.1 = .ext 4∧∃ b1 b2 b3 b4 fd,r2.2.1=[b1,b2,b3,b4]∧ViS n0 oi oc h0 r2.2.2 (itc r a0 a1 a2 a3 ld a5 a6 t7 t8 fd) (a7P N s).2∧Own r2.2.2 n0 a1Z 3 (L.map a1D) ld∧Own r2.2.2 n0 a0T 2 ((a7P N s).1.map fld) fd) N ⟨_,_,_,.nils,0,[],s,rfl,rfl,v,hld,Own.nils _ _ _ _,rfl,by simp,by simp⟩ ?_ ?_
 ·rintro kk ds g' ⟨b1,b4,b5,fd,n,M,s',rfl,hk,v',owL,ow,hL,e1,e2⟩
  simp only [a7h,a0e,a0m,bs,e0h,hpp,a0o]
  refine Wp.dif ?_ ?_
  ·intro h1
   have h1:n<N:=by
    have:(n:Int)<(N:Int):=by simpa using h1
    omega
   have hw:=wi_ n (by omega)
   have hll:((M.map fld).length:Int)=n:=by simp [-bind_some, hL]
   have hbz:a0W tab a1p 1 [0] [.agg b5Y]=some (.sl 2 true [b5Y]):=id rfl
   have hzl:a0U tab a0T [] []=some (.agg b5Y):=id rfl
   simp only [a0s,a4a,(c4i v'.hi).2,c2E ow,hll,bs,a0P,decide_true,a0d,if_true,hzl,hbz,e0h]
   refine c5m (ys:=[b5Y]) v'.ln ow (a1e _ _ _ _) (by simp;omega) fun fd2 g2 ow2 len2 bel2 old2 _=>?_
   obtain ⟨dc,c1,c2,c3,c4⟩:=v'.hc
   have hi2:g2[oi]?=some (.row a0z 11 [itc r a0 a1 a2 a3 ld a5 a6 t7 t8 fd]):=by rw [old2 oi (e0y.1 v'.hi).1 (fun hx=>a1X ow v'.hi (by decide) hx rfl)];exact v'.hi
   have hc2:g2[oc]?=some (.row a1O 2 [[dc,.bool s'.2]]):=by rw [old2 oc (e0y.1 c1).1 (fun hx=>a1X ow c1 (by decide) hx rfl)];exact c1
   have owL2:Own g2 n0 a1Z 3 (L.map a1D) ld:=owL.keep fun q _ hx=>old2 q (owL.lt hx).2 (b8S owL ow (by decide) hx)
   simp only [bs]
   refine c1K hi2 (by rfl) (by rw [(a0O (a2f ow2)).1];rfl) (by simp [-bind_some, itc]) (a0O (a2f ow2)).2 fun g3 p3 s3=>?_
   rw [(a0O (a2f ow2)).1] at p3
   have p3:g3[oi]?=some (.row a0z 11 [itc r a0 a1 a2 a3 ld a5 a6 t7 t8 fd2]):=p3
   have hc3:g3[oc]?=some (.row a1O 2 [[dc,.bool s'.2]]):=by rw [s3.2 oc (Ne.symm v'.ne)];exact hc2
   have ow3:Own g3 n0 a0T 2 (M.map fld++[b5Y]) fd2:=ow2.keep fun q _ hx=>s3.2 q (a1X ow2 hi2 (by decide) hx)
   have owL3:Own g3 n0 a1Z 3 (L.map a1D) ld:=owL2.keep fun q _ hx=>s3.2 q (a1X owL2 hi2 (by decide) hx)
   have v3:ViS n0 oi oc h0 g3 (itc r a0 a1 a2 a3 ld a5 a6 t7 t8 fd2) s':=⟨p3,⟨dc,hc3,c2,c3,c4⟩,fun q hq=>by rw [s3.2 q (by have:=v'.ni;omega),bel2 q hq];exact v'.lo q hq,v'.ni,v'.nc⟩
   obtain ⟨ol,hol,hld2,ho3⟩:=a5m ow3 (i:=n) (by simp;omega)
   have hlen3:(M.map fld++[b5Y]).length=n+1:=by simp [-bind_some, hL]
   have hrn:(M.map fld++[b5Y])[n]?=some b5Y:=by rw [List.getElem?_append_right (by simp [-bind_some, hL])];simp [-bind_some, hL]
   have hne3:ol≠oc:=fun hh=>by rw [hh,hc3] at ho3;injection ho3 with ho3;injection ho3 with h2;exact absurd h2 (by decide)
   have hne3i:ol≠oi:=fun hh=>by rw [hh,p3] at ho3;injection ho3 with ho3;injection ho3 with h2;exact absurd h2 (by decide)
   have i0:(0:Int)≤(n:Int)∧(n:Int)<(((M.map fld++[b5Y]).length:Nat):Int):=by omega
   have hix:a0b tab a1p fd2 (.int .i64 (n:Int))=some (.ptr ol n 0):=by rw [hld2,b5J,if_pos i0];simp [-bind_some]
   simp only [bs,a0k,a0s,a4a,(c4i v3.hi).2,hix,a7p,b3V,d0D,d0E,a1J,a3d,e0h]
   have hsn:∀ (x:List D),(M.map fld++[b5Y]).set n x=M.map fld++[x]:=fun x=>by rw [List.set_append_right _ _ (by simp [-bind_some, hL])];simp [-bind_some, hL]
   have hgn:∀ (x:List D),(M.map fld++[x])[n]?=some x:=fun x=>by rw [List.getElem?_append_right (by simp [-bind_some, hL])];simp [-bind_some, hL]
   have hsn':∀ (y x:List D),(M.map fld++[y]).set n x=M.map fld++[x]:=fun y x=>by rw [List.set_append_right _ _ (by simp [-bind_some, hL])];simp [-bind_some, hL]
   refine c0t v3.hc ⟨ho3,hrn,by simp [-bind_some, b5Y],hne3⟩ (u:=[]) (by rfl) fun g4 q1 q2 q3=>?_
   rw [hsn] at q2
   have hi4:g4[oi]?=some (.row a0z 11 [itc r a0 a1 a2 a3 ld a5 a6 t7 t8 fd2]):=by rw [q3.2 oi v3.ne (Ne.symm hne3i)];exact p3
   simp only [bs,(c4i hi4).2,hix,b3V,a0s,a3d]
   refine c0t q1 ⟨q2,hgn _,by simp [-bind_some, b5Y],hne3⟩ (u:=[]) (by rfl) fun g6 q7 q8 q9=>?_
   rw [hsn'] at q8
   have q8:g6[ol]?=some (.row a0T 2 (M.map fld++[fld (fdS s').1])):=q8
   simp only [bs,a0r,hw]
   have hN:N - n=(N - (n+1))+1:=by omega
   rw [hN] at e1 e2
   have keepL:Own g6 n0 a1Z 3 (L.map a1D) ld:=by
    have k4:Own g4 n0 a1Z 3 (L.map a1D) ld:=owL3.keep fun q _ hx=>q3.2 q (a1X owL3 hc3 (by decide) hx) (a1X owL3 ho3 (by decide) hx)
    obtain ⟨dd,y1,_⟩:=q1
    exact k4.keep fun q _ hx=>q9.2 q (a1X k4 y1 (by decide) hx) (a1X k4 q2 (by decide) hx)
   refine .some (.inl ⟨rfl,kk - 1,by omega,_,_,_,fd2,n+1,M++[(fdS s').1],(fdS s').2,rfl,by omega,⟨?_,q7,fun q hq=>?_,v'.ni,v'.nc⟩,keepL,?_,by simp [-bind_some, hL],?_,?_⟩)
   ·rw [q9.2 oi v3.ne (Ne.symm hne3i)];exact hi4
   ·have a1:=v'.nc
    rw [q9.2 q (by omega) (by omega),q3.2 q (by omega) (by omega)]
    exact v3.lo q hq
   ·refine .inr ⟨ol,hol,?_,by rw [q8];simp [-bind_some]⟩
    rw [hld2,hlen3];simp [-bind_some, hL]
   ·rw [← e1];simp [-bind_some, a7P]
   ·rw [← e2];simp [-bind_some, a7P]
  ·intro h1
   have h1:n=N:=by
    have:¬ (n:Int)<(N:Int):=by simpa using h1
    omega
   subst h1
   rw [Nat.sub_self] at e1 e2
   have f1:M++[]=(a7P n s).1:=e1
   have f2:s'=(a7P n s).2:=e2
   rw [List.append_nil] at f1
   rw [f2] at v'
   exact .some (.inr ⟨by simp,rfl,_,_,_,_,fd,rfl,v',owL,by rw [← f1];exact ow⟩)
 ·rintro ⟨ex,ds,g'⟩ ⟨rfl,b1,b2,b3,b4,fd,rfl,v',owL,ow⟩
  exact k g' fd b1 b2 b3 b4 v' owL ow
structure RI where
 r:Str
 a0:Int
 a1:Int
 a2:Int
 a3:Int
 ls:List Lin
 a5:Int
 a6:Int
 t7:Str
 t8:Str
 fs:List (Str × Str)
def a7z (s:Cur):Cur:=(a2z (a2z (a2z (a2z (a1Y s).2).2).2).2).2
def b0y (s:Cur):Cur:=(a7s (a1l (a7z s)).1.toNat (a1l (a7z s)).2).2
def b0u (s:Cur):Cur:=(a1Y (a1Y (a2z (a2z (b0y s)).2).2).2).2
def a1T (s:Cur):RI :=
 { r:=(a1Y s).1.getD [],a0:=(a2z (a1Y s).2).1,a1:=(a2z (a2z (a1Y s).2).2).1,a2:=(a2z (a2z (a2z (a1Y s).2).2).2).1,a3:=(a2z (a2z (a2z (a2z (a1Y s).2).2).2).2).1,
   ls:=(a7s (a1l (a7z s)).1.toNat (a1l (a7z s)).2).1,a5:=(a2z (b0y s)).1,a6:=(a2z (a2z (b0y s)).2).1,t7:=(a1Y (a2z (a2z (b0y s)).2).2).1.getD [],t8:=(a1Y (a1Y (a2z (a2z (b0y s)).2).2).2).1.getD [],
   fs:=(a7P (a1l (b0u s)).1.toNat (a1l (b0u s)).2).1 }
def b5U (s:Cur):Cur:=(a7P (a1l (b0u s)).1.toNat (a1l (b0u s)).2).2
def RI.row (x:RI) (ld fd:D):List D:=itc x.r x.a0 x.a1 x.a2 x.a3 ld x.a5 x.a6 x.t7 x.t8 fd
theorem d6T {n0 oi oc:Nat} {h0 g:Hp} {s:Cur} (v:ViS n0 oi oc h0 g (itc [] 0 0 0 0 .nils 0 0 [] [] .nils) s) {β:Type} {f:D × Hp→Option β} {Q:β→Prop}
  (k:∀ g2 ld fd,ViS n0 oi oc h0 g2 ((a1T s).row ld fd) (b5U s)→Own g2 n0 a1Z 3 ((a1T s).ls.map a1D) ld→Own g2 n0 a0T 2 ((a1T s).fs.map fld) fd→Wp (f (a0f [],g2)) Q):Wp ((R b1k [.iface a3W (.ptr oc 0 0),.ptr oi 0 0] g).bind f) Q:=by
 rw [c7U]
 simp only [c3w,bs,e0h,a0s,a9K,a2I,d0E,d0D,d5F,a3d,a1J,a4d,a9I,a9J,a5v,a7O]
 refine c5j v 0 (u:=[]) (by rfl) fun g1 v1 _=>?_
 have v1:ViS n0 oi oc h0 g1 (itc (a1T s).r 0 0 0 0 .nils 0 0 [] [] .nils) (a1Y s).2:=v1
 simp only [bs,b3C (.ptr oi 0 (0+1+0)) (.ptr oi 0 (0+1+1)) (.ptr oi 0 (0+1+2)) (.ptr oi 0 (0+1+3)) rfl rfl rfl rfl,show ([[.ptr oi 0 (0+1+0)],[.ptr oi 0 (0+1+1)],[.ptr oi 0 (0+1+2)],[.ptr oi 0 (0+1+3)]]:List (List D))=pl4 oi from rfl,b8k,show (pl4 oi).length=4 from rfl]
 refine Wp.loop (fun kk ds g'=>∃ a b,∃ n:Nat,ds=[a,.int .i64 n,b]∧kk+n=4∧((n=0∧ViS n0 oi oc h0 g' (itc (a1T s).r 0 0 0 0 .nils 0 0 [] [] .nils) (a1Y s).2)∨(n=1∧ViS n0 oi oc h0 g' (itc (a1T s).r (a1T s).a0 0 0 0 .nils 0 0 [] [] .nils) (a2z (a1Y s).2).2) ∨
   (n=2∧ViS n0 oi oc h0 g' (itc (a1T s).r (a1T s).a0 (a1T s).a1 0 0 .nils 0 0 [] [] .nils) (a2z (a2z (a1Y s).2).2).2)∨(n=3∧ViS n0 oi oc h0 g' (itc (a1T s).r (a1T s).a0 (a1T s).a1 (a1T s).a2 0 .nils 0 0 [] [] .nils) (a2z (a2z (a2z (a1Y s).2).2).2).2) ∨
   (n=4∧ViS n0 oi oc h0 g' (itc (a1T s).r (a1T s).a0 (a1T s).a1 (a1T s).a2 (a1T s).a3 .nils 0 0 [] [] .nils) (a7z s))))
  (fun r=>r.1 = .ext 0∧(∃ a b c,r.2.1=[a,b,c])∧ViS n0 oi oc h0 r.2.2 (itc (a1T s).r (a1T s).a0 (a1T s).a1 (a1T s).a2 (a1T s).a3 .nils 0 0 [] [] .nils) (a7z s)) 4 ⟨_,_,0,rfl,rfl,.inl ⟨rfl,v1⟩⟩ ?_ ?_
 ·rintro kk ds g' ⟨a,b,n,rfl,hk,hv⟩
  simp only [a9l,a0e,a0m,bs,e0h,a0o]
  have ix:∀ j:Nat,j<4→a0b tab a6r (.sl 1 true (pl4 oi)) (.int .i64 j)=some (.fptr [.ptr oi 0 (0+1+j)]):=fun j hj=>by
   have:j=0∨j=1∨j=2∨j=3:=by omega
   rcases this with rfl | rfl | rfl | rfl <;> (rw [b1u];rfl)
  rcases hv with ⟨rfl,v'⟩ | ⟨rfl,v'⟩ | ⟨rfl,v'⟩ | ⟨rfl,v'⟩ | ⟨rfl,v'⟩
  ·simp only [show decide (((0:Nat):Int)<((4:Nat):Int))=true from rfl,a0d,if_true,ix 0 (by omega),b1y,bs,a1J]
   refine c5J v' (0+1+0) (by simp [-bind_some, itc]) fun g2 v2 _=>?_
   simp only [bs,a0r]
   exact .some (.inl ⟨rfl,3,by omega,_,_,1,rfl,rfl,.inr (.inl ⟨rfl,v2⟩)⟩)
  ·simp only [show decide (((1:Nat):Int)<((4:Nat):Int))=true from rfl,a0d,if_true,ix 1 (by omega),b1y,bs,a1J]
   refine c5J v' (0+1+1) (by simp [-bind_some, itc]) fun g2 v2 _=>?_
   simp only [bs,a0r]
   exact .some (.inl ⟨rfl,2,by omega,_,_,2,rfl,rfl,.inr (.inr (.inl ⟨rfl,v2⟩))⟩)
  ·simp only [show decide (((2:Nat):Int)<((4:Nat):Int))=true from rfl,a0d,if_true,ix 2 (by omega),b1y,bs,a1J]
   refine c5J v' (0+1+2) (by simp [-bind_some, itc]) fun g2 v2 _=>?_
   simp only [bs,a0r]
   exact .some (.inl ⟨rfl,1,by omega,_,_,3,rfl,rfl,.inr (.inr (.inr (.inl ⟨rfl,v2⟩)))⟩)
  ·simp only [show decide (((3:Nat):Int)<((4:Nat):Int))=true from rfl,a0d,if_true,ix 3 (by omega),b1y,bs,a1J]
   refine c5J v' (0+1+3) (by simp [-bind_some, itc]) fun g2 v2 _=>?_
   simp only [bs,a0r]
   exact .some (.inl ⟨rfl,0,by omega,_,_,4,rfl,rfl,.inr (.inr (.inr (.inr ⟨rfl,v2⟩)))⟩)
  ·simp only [show decide (((4:Nat):Int)<((4:Nat):Int))=false from rfl,a0d,e0i,if_false]
   exact .some (.inr ⟨by simp,rfl,⟨_,_,_,rfl⟩,v'⟩)
 rintro ⟨ex,ds,g2⟩ ⟨rfl,⟨a,b,c,rfl⟩,v2⟩
 have v2:ViS n0 oi oc h0 g2 (itc (a1T s).r (a1T s).a0 (a1T s).a1 (a1T s).a2 (a1T s).a3 .nils 0 0 [] [] .nils) (a7z s):=v2
 simp only [a0l,a0k,bs,e0h,a0s,a2c,(c4i v2.hi).1,c8O,d5F,a4d]
 have hcr:=a6N v2.hc
 refine c3h v2 _ fun g3 v3 _=>?_
 obtain ⟨N,hN⟩:∃ N:Nat,(a1l (a7z s)).1=N:=⟨(a1l (a7z s)).1.toNat,by omega⟩
 have hNt:(a1l (a7z s)).1.toNat=N:=by omega
 simp only [bs]
 refine c9X N (by omega) (by rw [hN]) v3 rfl _ _ _ _ fun g4 ld b1 b2 b3 b4 b5 v4 ow4=>?_
 have hB:(a7s N (a1l (a7z s)).2).2=b0y s:=by unfold b0y;rw [hNt]
 have hL:(a7s N (a1l (a7z s)).2).1=(a1T s).ls:=by unfold a1T;simp only [hNt]
 rw [hB] at v4
 rw [hL] at ow4
 simp only [a0l,a0k,bs,e0h,a0s,b2h,b2i,b2j,b2k,a4a,d0D,d0E,d5F,a1J,a3d,a4d]
 have keep:∀ {g g':Hp} {row:List D} {s':Cur},Own g n0 a1Z 3 ((a1T s).ls.map a1D) ld→ViS n0 oi oc h0 g row s'→Wrt g g' oc oi→Own g' n0 a1Z 3 ((a1T s).ls.map a1D) ld:=fun ow v w=>by
  obtain ⟨d,h1,_⟩:=v.hc
  exact Own.wrt ow w h1 v.hi (by decide) (by decide)
 refine c5J v4 (0+1+5) (by simp [-bind_some, itc]) fun g5 v5 w5=>?_
 have ow5:=keep ow4 v4 w5
 have v5:ViS n0 oi oc h0 g5 (itc (a1T s).r (a1T s).a0 (a1T s).a1 (a1T s).a2 (a1T s).a3 ld (a1T s).a5 0 [] [] .nils) (a2z (b0y s)).2:=v5
 simp only [bs]
 refine c5J v5 (0+1+6) (by simp [-bind_some, itc]) fun g6 v6 w6=>?_
 have ow6:=keep ow5 v5 w6
 have v6:ViS n0 oi oc h0 g6 (itc (a1T s).r (a1T s).a0 (a1T s).a1 (a1T s).a2 (a1T s).a3 ld (a1T s).a5 (a1T s).a6 [] [] .nils) (a2z (a2z (b0y s)).2).2:=v6
 simp only [bs]
 refine c5j v6 (0+1+7) (u:=[]) (by rfl) fun g7 v7 w7=>?_
 have ow7:=keep ow6 v6 w7
 have v7:ViS n0 oi oc h0 g7 (itc (a1T s).r (a1T s).a0 (a1T s).a1 (a1T s).a2 (a1T s).a3 ld (a1T s).a5 (a1T s).a6 (a1T s).t7 [] .nils) (a1Y (a2z (a2z (b0y s)).2).2).2:=v7
 simp only [bs]
 refine c5j v7 (0+1+8) (u:=[]) (by rfl) fun g8 v8 w8=>?_
 have ow8:=keep ow7 v7 w8
 have v8:ViS n0 oi oc h0 g8 (itc (a1T s).r (a1T s).a0 (a1T s).a1 (a1T s).a2 (a1T s).a3 ld (a1T s).a5 (a1T s).a6 (a1T s).t7 (a1T s).t8 .nils) (b0u s):=v8
 simp only [bs,(c4i v8.hi).2,c8P]
 have hcr2:=a6N v8.hc
 refine c3h v8 _ fun g9 v9 w9=>?_
 have ow9:=keep ow8 v8 w9
 obtain ⟨M,hM⟩:∃ M:Nat,(a1l (b0u s)).1=M:=⟨(a1l (b0u s)).1.toNat,by omega⟩
 have hMt:(a1l (b0u s)).1.toNat=M:=by omega
 simp only [bs]
 refine c5h M (by omega) (by rw [hM]) v9 ow9 _ _ _ fun g10 fd b1 b2 b3 b4 v10 owL owF=>?_
 have hE:(a7P M (a1l (b0u s)).2).2=b5U s:=by unfold b5U;rw [hMt]
 have hF:(a7P M (a1l (b0u s)).2).1=(a1T s).fs:=by unfold a1T;simp only [hMt]
 rw [hE] at v10
 rw [hF] at owF
 simp only [a0l,a2k,bs,e0h]
 exact k g10 ld fd v10 owL owF
theorem b0c (z:Int) (l:List Int):num (z::l)=z*256 ^ l.length+num l:=by
 have key:∀ (l:List Int) (c:Int),l.foldl (fun v b=>v*256+b) c=c*256 ^ l.length+l.foldl (fun v b=>v*256+b) 0:=by
  intro l
  induction l with
  | nil=>intro c;simp [-bind_some]
  | cons a r ih =>
   intro c
   simp only [List.foldl_cons,e0z]
   rw [ih (c*256+a),ih (0*256+a),Int.pow_succ]
   generalize (256:Int) ^ r.length=P
   generalize List.foldl (fun v b=>v*256+b) 0 r=F
   simp only [Int.add_mul,Int.zero_mul,Int.zero_add]
   rw [Int.mul_assoc,Int.mul_comm 256 P,Int.add_assoc]
 unfold num
 simp only [List.foldl_cons]
 rw [key l (0*256+z)]
 simp [-bind_some]
theorem a6p:∀ (k:Nat) (v:Int),0≤v→num (a3X k v)=v % 256 ^ k
 | 0,v,_=>by simp [-bind_some, a3X,num]
 | k+1,v,h=>by
  simp only [a3X]
  rw [b0c,a1f,a6p k v h,a6s]
  have hP:(2:Int) ^ (8*k)=256 ^ k:=by rw [Int.pow_mul];rfl
  rw [hP]
  have hpos:(0:Int)<256 ^ k:=Int.pow_pos (by omega)
  rw [Int.fdiv_eq_ediv_of_nonneg _ (by omega)]
  rw [Int.pow_succ]
  generalize (256:Int) ^ k=P at hpos
  have h1:=Int.mul_ediv_add_emod v P
  have h2:=Int.mul_ediv_add_emod (v / P) 256
  have h3:=Int.emod_nonneg v (show P≠0 by omega)
  have h4:=Int.emod_lt_of_pos v hpos
  have h5:=Int.emod_nonneg (v / P) (show (256:Int)≠0 by omega)
  have h6:=Int.emod_lt_of_pos (v / P) (show (0:Int)<256 by omega)
  generalize v % P=r at *
  generalize hq:v / P=q at *
  generalize q % 256=s at *
  generalize q / 256=t at *
  have e:v=(s*P+r)+(P*256)*t:=by
   rw [← h1,← h2]
   simp only [Int.mul_add,Int.add_mul]
   rw [Int.mul_comm P s,← Int.mul_assoc P 256 t]
   omega
  rw [e,Int.add_mul_emod_self_left]
  have hsP:s*P+P≤P*256:=by
   have:(s+1)*P≤256*P:=Int.mul_le_mul_of_nonneg_right (by omega) (by omega)
   rw [Int.add_mul,Int.one_mul,Int.mul_comm 256 P] at this
   exact this
  have hs0:0≤s*P:=Int.mul_nonneg h5 (by omega)
  exact (Int.emod_eq_of_lt (by omega) (by omega)).symm
def I64 (n:Int):Prop := -9223372036854775808≤n∧n<9223372036854775808
theorem a8n (n:Int):IntKind.wrap .u64 n=n % 18446744073709551616:=by
 unfold IntKind.wrap
 simp [-bind_some, IntKind.signed,IntKind.bits,IntKind.min,IntKind.max]
theorem c9e:(256:Int) ^ 8=18446744073709551616:=by decide
theorem a8T:(256:Int) ^ 4=4294967296:=by decide
theorem b8N {n:Int} (h:I64 n):IntKind.wrap .i64 (num (pI n))=n:=by
 unfold pI
 rw [a6p 8 _ (by rw [a8n];omega),c9e,a8n]
 unfold I64 at h
 unfold IntKind.wrap
 simp [-bind_some, IntKind.signed,IntKind.bits,IntKind.min,IntKind.max]
 omega
theorem c2J {n:Nat} (h:n<4294967296):num (pN n)=n:=by
 unfold pN
 rw [a1Q (by omega) (by omega),a6p 4 _ (by omega),a8T]
 omega
theorem a8i (p r:List Int) (n:Nat) (hn:p.length=n):a1S (p++r,false) n=(p,(r,false)):=by
 unfold a1S
 rw [if_neg (by simp;omega)]
 subst hn
 simp [-bind_some]
theorem a2i {n:Int} (h:I64 n) (r:List Int):a2z (pI n++r,false)=(n,(r,false)):=by
 unfold a2z
 rw [show (8:Int)=((8:Nat):Int) from rfl,a8i (pI n) r 8 (a1i n),b8N h]
theorem b4Q {n:Nat} (h:n<4294967296) (r:List Int):a3v (pN n++r,false)=((n:Int),(r,false)):=by
 unfold a3v
 rw [show (4:Int)=((4:Nat):Int) from rfl,a8i (pN n) r 4 (a1N n),c2J h]
 rw [wrap_i64 (by omega) (by omega)]
theorem a2Q {s:Str} (h:s.length<4294967296) (r:List Int):a1Y (pS s++r,false)=(some s,(r,false)):=by
 have e:pS s++r=pN s.length++(sby s++r):=by simp [-bind_some, pS]
 unfold a1Y
 rw [e,b4Q h,a8i (sby s) r s.length (b2J s)]
 simp [-bind_some, c3M]
theorem a8C {n:Nat} (h:n<4294967296) (r:List Int) (hr:8*n≤r.length):a1l (pN n++r,false)=((n:Int),(r,false)):=by
 unfold a1l
 rw [b4Q h,if_neg]
 simp only [e0i,false_or]
 rw [Int.tdiv_eq_ediv_of_nonneg (by omega)]
 omega
structure LnR (l:Lin):Prop where
 o:I64 l.off
 n:I64 l.len
 t:l.txt.length<4294967296
theorem c1o {l:Lin} (h:LnR l) (r:List Int):b8s (lnB l++r,false)=(l,(r,false)):=by
 have e:lnB l++r=pI l.off++(pI l.len++(pS l.txt++r)):=by simp [-bind_some, lnB]
 unfold b8s
 rw [e,a2i h.o]
 simp only
 rw [a2i h.n]
 simp only
 rw [a2Q h.t]
 rfl
theorem b4U:∀ (ls:List Lin),(∀ l∈ls,LnR l)→∀ r,a7s ls.length ((ls.map lnB).flatten++r,false)=(ls,(r,false))
 | [],_,r=>rfl
 | l::ls,h,r=>by
  have e:((l::ls).map lnB).flatten++r=lnB l++((ls.map lnB).flatten++r):=by simp
  rw [e,e0z]
  unfold a7s
  rw [c1o (h l (by simp))]
  simp only
  rw [b4U ls (fun x hx=>h x (by simp [-bind_some, hx])) r]
theorem c3W {p:Str × Str} (h1:p.1.length<4294967296) (h2:p.2.length<4294967296) (r:List Int):fdS (fdB p++r,false)=(p,(r,false)):=by
 have e:fdB p++r=pS p.1++(pS p.2++r):=by simp [-bind_some, fdB]
 unfold fdS
 rw [e,a2Q h1]
 simp only
 rw [a2Q h2]
 rfl
theorem b3W:∀ (fs:List (Str × Str)),(∀ p∈fs,p.1.length<4294967296∧p.2.length<4294967296)→∀ r,a7P fs.length ((fs.map fdB).flatten++r,false)=(fs,(r,false))
 | [],_,r=>rfl
 | p::fs,h,r=>by
  have e:((p::fs).map fdB).flatten++r=fdB p++((fs.map fdB).flatten++r):=by simp
  rw [e,e0z]
  unfold a7P
  rw [c3W (h p (by simp)).1 (h p (by simp)).2]
  simp only
  rw [b3W fs (fun x hx=>h x (by simp [-bind_some, hx])) r]
structure ItR (i:It):Prop where
 r:i.r.length<4294967296
 a0:I64 i.e.a0
 a1:I64 i.e.a1
 a2:I64 i.e.a2
 a3:I64 i.e.a3
 nl:i.e.ls.length<4294967296
 ls:∀ l∈i.e.ls,LnR l
 a5:I64 i.e.a5
 a6:I64 i.e.a6
 t7:i.e.s7.length<4294967296
 t8:i.e.s8.length<4294967296
 nf:i.e.fs.length<4294967296
 fs:∀ p∈i.e.fs,p.1.length<4294967296∧p.2.length<4294967296
def a4v (i:It):RI:=⟨i.r,i.e.a0,i.e.a1,i.e.a2,i.e.a3,i.e.ls,i.e.a5,i.e.a6,i.e.s7,i.e.s8,i.e.fs⟩
theorem a9M {α:Type} (f:α→List Int) (m:Nat):∀ (l:List α),(∀ a∈l,m≤(f a).length)→m*l.length≤(l.map f).flatten.length
 | [],_=>by simp
 | a::l,h=>by
  have h1:=h a (by simp)
  have h2:=a9M f m l fun b hb=>h b (by simp [-bind_some, hb])
  simp only [e0p,List.flatten_cons,e0m,e0z,Nat.mul_succ]
  omega
theorem c1I {i:It} (h:ItR i) (r:List Int):a1T (a1w i++r,false)=a4v i∧b5U (a1w i++r,false)=(r,false):=by
 have e:a1w i++r=pS i.r++(pI i.e.a0++(pI i.e.a1++(pI i.e.a2++(pI i.e.a3++(pN i.e.ls.length++((i.e.ls.map lnB).flatten++(pI i.e.a5++(pI i.e.a6++(pS i.e.s7++(pS i.e.s8++(pN i.e.fs.length++((i.e.fs.map fdB).flatten++r)))))))))))):=by simp [-bind_some, a1w,a5r,a3D]
 have hl8:=a9M lnB 8 i.e.ls fun l _=>by simp only [lnB,e0m,a1i,a1x];omega
 have hf8:=a9M fdB 8 i.e.fs fun l _=>by simp only [fdB,e0m,a1x];omega
 rw [e]
 have hA:a7z (pS i.r++(pI i.e.a0++(pI i.e.a1++(pI i.e.a2++(pI i.e.a3++(pN i.e.ls.length++((i.e.ls.map lnB).flatten++(pI i.e.a5++(pI i.e.a6++(pS i.e.s7++(pS i.e.s8++(pN i.e.fs.length++((i.e.fs.map fdB).flatten++r)))))))))))),false)=(pN i.e.ls.length++((i.e.ls.map lnB).flatten++(pI i.e.a5++(pI i.e.a6++(pS i.e.s7++(pS i.e.s8++(pN i.e.fs.length++((i.e.fs.map fdB).flatten++r))))))),false):=by
  unfold a7z
  rw [a2Q h.r];simp only
  rw [a2i h.a0];simp only
  rw [a2i h.a1];simp only
  rw [a2i h.a2];simp only
  rw [a2i h.a3]
 have hc1:=a8C h.nl ((i.e.ls.map lnB).flatten++(pI i.e.a5++(pI i.e.a6++(pS i.e.s7++(pS i.e.s8++(pN i.e.fs.length++((i.e.fs.map fdB).flatten++r))))))) (by rw [e0m];omega)
 have hls:=b4U i.e.ls h.ls (pI i.e.a5++(pI i.e.a6++(pS i.e.s7++(pS i.e.s8++(pN i.e.fs.length++((i.e.fs.map fdB).flatten++r))))))
 have hB:b0y (pS i.r++(pI i.e.a0++(pI i.e.a1++(pI i.e.a2++(pI i.e.a3++(pN i.e.ls.length++((i.e.ls.map lnB).flatten++(pI i.e.a5++(pI i.e.a6++(pS i.e.s7++(pS i.e.s8++(pN i.e.fs.length++((i.e.fs.map fdB).flatten++r)))))))))))),false)=(pI i.e.a5++(pI i.e.a6++(pS i.e.s7++(pS i.e.s8++(pN i.e.fs.length++((i.e.fs.map fdB).flatten++r))))),false):=by
  unfold b0y
  rw [hA,hc1];simp only [e0r]
  rw [hls]
 have hC:b0u (pS i.r++(pI i.e.a0++(pI i.e.a1++(pI i.e.a2++(pI i.e.a3++(pN i.e.ls.length++((i.e.ls.map lnB).flatten++(pI i.e.a5++(pI i.e.a6++(pS i.e.s7++(pS i.e.s8++(pN i.e.fs.length++((i.e.fs.map fdB).flatten++r)))))))))))),false)=(pN i.e.fs.length++((i.e.fs.map fdB).flatten++r),false):=by
  unfold b0u
  rw [hB,a2i h.a5];simp only
  rw [a2i h.a6];simp only
  rw [a2Q h.t7];simp only
  rw [a2Q h.t8]
 have hc2:=a8C h.nf ((i.e.fs.map fdB).flatten++r) (by rw [e0m];omega)
 have hfs:=b3W i.e.fs h.fs r
 refine ⟨?_,?_⟩
 ·unfold a1T a4v
  rw [hA,hB,hC,hc1,hc2]
  simp only [e0r]
  rw [hls,hfs,a2Q h.r]
  simp only [Option.getD_some]
  rw [a2i h.a0];simp only
  rw [a2i h.a1];simp only
  rw [a2i h.a2];simp only
  rw [a2i h.a3,a2i h.a5];simp only
  rw [a2i h.a6];simp only
  rw [a2Q h.t7];simp only [Option.getD_some]
  rw [a2Q h.t8]
  simp only [Option.getD_some]
 ·unfold b5U
  rw [hC,hc2]
  simp only [e0r]
  rw [hfs]
theorem b5f {h:Hp} {n1 e z:Nat} {α:Type} {f:α→List D} {l:List α} {d:D} {n:Nat} (hd:Own h n1 e z (l.map f) d) (hr:∀ a∈l,∀ d∈f a,b2L h n d=d):SlOf z f l (b2L h (n+1) d):=by
 rcases hd with ⟨rfl,hn⟩ | ⟨o,ho,rfl,hg⟩
 ·exact .inl ⟨rfl,by simpa using hn⟩
 ·refine .inr ⟨false,?_⟩
  simp only [b2L,hg,List.drop_zero]
  rw [List.take_of_length_le (by simp)]
  congr 1
  rw [List.map_map]
  refine List.map_congr_left fun a ha=>?_
  simp only [Function.comp]
  conv=>rhs;rw [← List.map_id (f a)]
  exact List.map_congr_left fun d hd=>hr a ha d hd
theorem b8t (h:Hp) (n:Nat) (l:Lin):∀ d∈a1D l,b2L h n d=d:=by
 intro d hd
 simp only [a1D,e0D,List.not_mem_nil,or_false] at hd
 cases n <;> rcases hd with rfl | rfl | rfl <;> rfl
theorem c0T (h:Hp) (n:Nat) (p:Str × Str):∀ d∈fld p,b2L h n d=d:=by
 intro d hd
 simp only [fld,e0D,List.not_mem_nil,or_false] at hd
 cases n <;> rcases hd with rfl | rfl <;> rfl
theorem b0m (s:Cur) (n:Int):(a1S s n).2.1.length≤s.1.length:=by
 unfold a1S
 split
 ·exact Nat.le_refl _
 ·simp [-bind_some]
theorem a4H (s:Cur):(a2z s).2.1.length≤s.1.length:=b0m s 8
theorem b8l (s:Cur):(a3v s).2.1.length≤s.1.length:=b0m s 4
theorem a7x (s:Cur):(a1Y s).2.1.length≤s.1.length:=by
 have h1:=b0m (a3v s).2 (a3v s).1
 have h2:=b8l s
 unfold a1Y
 split
 ·simp only;omega
 ·simp only;omega
theorem a7D (s:Cur):(a1l s).1.toNat≤s.1.length∧(a1l s).2.1.length≤s.1.length:=by
 have h2:=b8l s
 unfold a1l
 split
 ·exact ⟨by simp,h2⟩
 ·rename_i hh
  refine ⟨?_,h2⟩
  have h3:¬ ((a3v s).2.1.length:Int).tdiv 8<(a3v s).1:=fun hx=>hh (.inr hx)
  rw [Int.tdiv_eq_ediv_of_nonneg (by omega)] at h3
  omega
theorem c4B (s:Cur):(b8s s).2.1.length≤s.1.length:=by
 have h1:=a4H s
 have h2:=a4H (a2z s).2
 have h3:=a7x (a2z (a2z s).2).2
 unfold b8s
 simp only
 omega
theorem b2A:∀ (n:Nat) (s:Cur),(a7s n s).1.length=n∧(a7s n s).2.1.length≤s.1.length
 | 0,s=>⟨rfl,Nat.le_refl _⟩
 | n+1,s=>by
  have h1:=b2A n (b8s s).2
  have h2:=c4B s
  exact ⟨by simp [-bind_some, a7s,h1.1],Nat.le_trans h1.2 h2⟩
theorem b3X:∀ (n:Nat) (s:Cur),(a7P n s).1.length=n
 | 0,s=>rfl
 | n+1,s=>by simp [-bind_some, a7P,b3X n]
theorem b9H (s:Cur):(a7z s).1.length≤s.1.length:=by
 have h0:=a7x s
 have h1:=a4H (a1Y s).2
 have h2:=a4H (a2z (a1Y s).2).2
 have h3:=a4H (a2z (a2z (a1Y s).2).2).2
 have h4:=a4H (a2z (a2z (a2z (a1Y s).2).2).2).2
 unfold a7z
 omega
theorem c5i (s:Cur):(b0u s).1.length≤s.1.length:=by
 have h0:=b9H s
 have h1:=(a7D (a7z s)).2
 have h2:=(b2A (a1l (a7z s)).1.toNat (a1l (a7z s)).2).2
 have hB:(b0y s).1.length≤s.1.length:=by unfold b0y;omega
 have h3:=a4H (b0y s)
 have h4:=a4H (a2z (b0y s)).2
 have h5:=a7x (a2z (a2z (b0y s)).2).2
 have h6:=a7x (a1Y (a2z (a2z (b0y s)).2).2).2
 unfold b0u
 omega
theorem c1J (s:Cur):(a1T s).ls.length≤s.1.length∧(a1T s).fs.length≤s.1.length:=by
 have h0:=b9H s
 have h1:=(a7D (a7z s)).1
 have h2:=(b2A (a1l (a7z s)).1.toNat (a1l (a7z s)).2).1
 have h3:=c5i s
 have h4:=(a7D (b0u s)).1
 have h5:=b3X (a1l (b0u s)).1.toNat (a1l (b0u s)).2
 refine ⟨?_,?_⟩
 ·show (a7s (a1l (a7z s)).1.toNat (a1l (a7z s)).2).1.length≤_
  omega
 ·show (a7P (a1l (b0u s)).1.toNat (a1l (b0u s)).2).1.length≤_
  omega
def d0B (x:RI) (ld fd:D) (h1:SlOf 3 a1D x.ls ld) (h2:SlOf 2 fld x.fs fd) (h3:x.ls.length≤9223372036854775807) (h4:x.fs.length≤9223372036854775807):It:=⟨x.r,⟨x.a0,x.a1,x.a2,x.a3,x.ls,ld,x.a5,x.a6,x.t7,x.t8,x.fs,fd,h2,h4,h1,h3⟩⟩
theorem c4E (x:RI) (ld fd:D) (h1:SlOf 3 a1D x.ls ld) (h2:SlOf 2 fld x.fs fd) (h3:x.ls.length≤9223372036854775807) (h4:x.fs.length≤9223372036854775807):a4v (d0B x ld fd h1 h2 h3 h4)=x:=rfl
def a6O (c:Int) (l:List Int):Int × Int × RI :=
 if l.length<4 then (14,0,⟨[],0,0,0,0,[],0,0,[],[],[]⟩)
 else if num (l.take 4)<4∨(l.length:Int) - 4<num (l.take 4) then (14,0,⟨[],0,0,0,0,[],0,0,[],[],[]⟩)
 else if a4q (l.take (num (l.take 4)).toNat)≠num ((l.drop (num (l.take 4)).toNat).take 4) then (15,0,⟨[],0,0,0,0,[],0,0,[],[],[]⟩)
 else if (b5U ((l.take (num (l.take 4)).toNat).drop 4,false)).2=true∨0<(b5U ((l.take (num (l.take 4)).toNat).drop 4,false)).1.length∨c≠0 then (1,0,⟨[],0,0,0,0,[],0,0,[],[],[]⟩)
 else (0,4+num (l.take 4),a1T ((l.take (num (l.take 4)).toNat).drop 4,false))
def zit:It:=⟨[],⟨0,0,0,0,[],.nils,0,0,[],[],[],.nils,SlOf.nils _ _,by simp,SlOf.nils _ _,by simp⟩⟩
theorem a8p:a4v zit=⟨[],0,0,0,0,[],0,0,[],[],[]⟩:=rfl
theorem c3S {h g:Hp} {a b:Int} {j:It} (hl:h.length≤g.length) (hb:∀ q,q<h.length→g[q]?=h[q]?):scope h g (.tup [.agg (itr j),.int .i64 a,.int .i64 b])=some (.tup [.agg (itr j),.int .i64 a,.int .i64 b],h):=by
 refine a0M ?_ ?_ hl hb
 ·have h1:(itr j).map (frz h.length g 2)=itr j:=by
    conv=>rhs;rw [← List.map_id (itr j)]
    exact List.map_congr_left fun d hd=>a9V _ g 1 j d hd
  show D.tup [D.agg ((itr j).map (frz h.length g 2)),.int .i64 a,.int .i64 b]=_
  rw [h1]
 ·refine .tup _ fun d hd=>?_
  simp at hd
  rcases hd with rfl | rfl | rfl
  ·exact a6n _ j
  ·constructor
  ·constructor
theorem a8a (a b c:D):a0f [a,b,c] = .tup [a,b,c]:=rfl
end Go.Proofs.YthaajlepgblimaaGreatDoor

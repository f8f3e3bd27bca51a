/- Laws, on plain data, about functions that the statement reaches. -/
import Derived.Test.YtehgglgadbmecaaGreatDoorT9
set_option linter.unusedSimpArgs false
set_option linter.unusedVariables false
set_option linter.unnecessarySimpa false
set_option maxRecDepth 100000
namespace Go.Proofs.YtehgglgadbmecaaGreatDoor
open Go.Eng Go.Pi
open Option (bind_some)
abbrev Str:=List UInt8
def fld (p:Str × Str):List D:=[.str p.1,.str p.2]
structure Lin where
 off:Int
 len:Int
 txt:Str
 deriving DecidableEq
def a6W (l:Lin):List D:=[.int .i64 l.off,.int .i64 l.len,.str l.txt]
structure Ev where
 a0:Int
 a1:Int
 a2:Int
 a3:Int
 ls:List Lin
 ld:D
 a5:Int
 a6:Int
 s7:Str
 s8:Str
 fs:List (Str × Str)
 fd:D
 hfd:SlOf 2 fld fs fd
 hl:fs.length≤9223372036854775807
 hld:SlOf 3 a6W ls ld
 hll:ls.length≤9223372036854775807
def evr (e:Ev):List D:=[.int .i64 e.a0,.int .i64 e.a1,.int .i64 e.a2,.int .i64 e.a3,e.ld,.int .i64 e.a5,.int .i64 e.a6,.str e.s7,.str e.s8,e.fd]
structure It where
 r:Str
 e:Ev
def itr (i:It):List D := .str i.r::evr i.e
theorem a8F (n0:Nat) (h:Hp) (n:Nat) (p:Str × Str):∀ d∈fld p,frz n0 h n d=d:=by simp [-bind_some, fld]
theorem b2n (n:Nat) (p:Str × Str):∀ d∈fld p,Ok n d:=by
 intro d hd
 simp [-bind_some, fld] at hd
 rcases hd with rfl | rfl <;> constructor
theorem a6X (n0:Nat) (h:Hp) (n:Nat) (p:Lin):∀ d∈a6W p,frz n0 h n d=d:=by simp [-bind_some, a6W]
theorem b2U (n:Nat) (p:Lin):∀ d∈a6W p,Ok n d:=by
 intro d hd
 simp [-bind_some, a6W] at hd
 rcases hd with rfl | rfl | rfl <;> constructor
theorem b2i (n0:Nat) (h:Hp) (n:Nat) (e:Ev):∀ d∈evr e,frz n0 h (n+1) d=d:=by
 intro d hd
 simp [-bind_some, evr] at hd
 rcases hd with rfl | rfl | rfl | rfl | rfl | rfl | rfl | rfl | rfl | rfl
 all_goals first | exact a2x e.hld (fun a _=>a6X _ _ _ a) | exact a2x e.hfd (fun a _=>a8F _ _ _ a) | simp [-bind_some]
theorem b5X (n:Nat) (e:Ev):∀ d∈evr e,Ok n d:=by
 intro d hd
 simp [-bind_some, evr] at hd
 rcases hd with rfl | rfl | rfl | rfl | rfl | rfl | rfl | rfl | rfl | rfl
 all_goals first | exact a1j e.hld (fun a _=>b2U _ a) | exact a1j e.hfd (fun a _=>b2n _ a) | constructor
theorem b6h (n:Nat) (i:It):Ok n (.agg (itr i)):=by
 refine .agg _ fun d hd=>?_
 simp [-bind_some, itr,evr] at hd
 rcases hd with rfl | rfl | rfl | rfl | rfl | rfl | rfl | rfl | rfl | rfl | rfl
 all_goals first | exact a1j i.e.hld (fun a _=>b2U _ a) | exact a1j i.e.hfd (fun a _=>b2n _ a) | constructor
theorem b7C (n0:Nat) (h:Hp) (n:Nat) (i:It):∀ d∈itr i,frz n0 h (n+1) d=d:=by
 intro d hd
 rcases d0c.1 hd with rfl | hd
 ·simp [-bind_some]
 ·exact b2i n0 h n i.e d hd
theorem b7D (n:Nat) (i:It):∀ d∈itr i,Ok n d:=by
 intro d hd
 rcases d0c.1 hd with rfl | hd
 ·exact .str _
 ·exact b5X n i.e d hd
theorem evL (e:Ev) (h:Hp):a0c tab h a0R (.fptr (evr e))=some (.agg (evr e)):=id rfl
theorem c8z (i:It):a0b tab a2j 1 (.fptr (itr i))=some (.fptr (evr i.e)):=id rfl
theorem c8y (i:It):a0b tab a2j 0 (.fptr (itr i))=some (.fptr (itr i)):=id rfl
theorem c8A (i:It) (h:Hp):a0c tab h ty9 (.fptr (itr i))=some (.str i.r):=id rfl
theorem c8H (i:It) (h:Hp):a0c tab h a2j (.fptr (itr i))=some (.agg (itr i)):=id rfl
theorem c2m (i:It):a7s 11 (.agg (itr i))=some (.fptr (itr i)):=a6x 11 _ rfl
theorem c6k (i:It):a0A tab a2r 1 [0] [.agg (itr i)]=some (.sl 11 true [itr i]):=id rfl
theorem c9p (i:It) (h:Hp):((a0b tab a2j 1 (.fptr (itr i))).bind fun p=>(a0b tab a0R 3 p).bind fun q=>a0c tab h ty3 q)=some (.int .i64 i.e.a3):=by simp [-bind_some, itr,evr]
theorem b7T {h:Hp} {n e z n' e' z' q:Nat} {rows rows':List (List D)} {d d':D} (a:Own h n e z rows d) (b:Own h n' e' z' rows' d') (hne:e≠e') (hd:d.inOb q):¬ d'.inOb q:=by
 rintro ⟨z2,m2,rfl⟩
 obtain ⟨z1,m1,rfl⟩:=hd
 rcases a with ⟨ha,_⟩ | ⟨o1,_,ha,ga⟩
 ·cases ha
 rcases b with ⟨hb,_⟩ | ⟨o2,_,hb,gb⟩
 ·cases hb
 injection ha with _ ha
 injection hb with _ hb
 subst ha;subst hb
 rw [ga] at gb
 injection gb with gb
 injection gb with gb
 exact hne gb
theorem a4O {n:Int} (h0:0≤n) (h1:n<18446744073709551616):IntKind.wrap .u64 n=n:=by
 unfold IntKind.wrap
 simp [-bind_some, IntKind.signed,IntKind.bits,IntKind.min,IntKind.max]
 omega
def c5b (a b:Ev):Bool:=decide (a.a0=b.a0)&&(decide (a.a1=b.a1)&&(decide (a.a2=b.a2)&&(decide (a.a3=b.a3)&&(decide (a.a5=b.a5)&&(decide (a.a6=b.a6)&&(decide (a.s7=b.s7)&&(decide (a.s8=b.s8)&&(decide (a.ls=b.ls)&&decide (a.fs=b.fs)))))))))
def a6L (l:List (Str × Str)) (n:Str):Option Str:=(l.find? fun p=>p.1==n).map (·.2)
def a8I (l:List (Str × Str)) (n:Str):D := .tup [.str ((a6L l n).getD []),.bool (a6L l n).isSome]
theorem l70 (l:List (Str × Str)) (d:D) (n:Str) (h:Hp) (hd:SlOf 2 fld l d) (hl:l.length≤9223372036854775807) {β:Type} (K:Out→Option β) (X:Str→Option β) (Y:Option β)
   (hX:∀ v r,K (.ret,.str v :: .bool true::r,h)=X v) (hY:∀ r,K (.ext 0,r,h)=Y):∀ (suf pre:List (Str × Str)),l=pre++suf→∀ a b c e f,
   (a0B (a7l (.str n) d (.int .i64 l.length)) [a,b,c,.int .i64 pre.length,e,f] h).bind K=match a6L suf n with | some v=>X v | none=>Y:=by
 intro suf
 induction suf with
 | nil =>
  rintro pre rfl a b c e f
  rw [a1i]
  simp [-bind_some, a7l,hY,a6L]
 | cons p suf ih =>
  rintro pre rfl a b c e f
  have hw:IntKind.wrap .i64 ((pre.length:Int)+1)=(pre++[p]).length:=by
   rw [wrap_i64 (by omega) (by simp at hl;omega)];simp [-bind_some]
  have hlt:(pre.length:Int)<(pre++p::suf).length:=by simp;omega
  rw [a1i]
  generalize hL:pre++p::suf=L at *
  have hg:L[pre.length]?=some p:=by rw [← hL];exact a6M _ _ _
  by_cases hp:p.1=n
  ·simp [-bind_some, a7l,b5g hd,hlt,hg,fld,hp,hX,a6L]
  ·have:=ih (pre++[p]) (by simp [-bind_some, ← hL]) a b (.fptr (fld p)) (.bool true) (.bool (p.1==n))
   simp only [← hw] at this
   simp [-bind_some, a7l,b5g hd,hlt,hg,fld,hp,a6L]
   simp [-bind_some, fld,a6L] at this
   exact this
theorem s70 (l:List (Str × Str)) (d:D) (n:Str) (h:Hp) (hd:SlOf 2 fld l d) (hl:l.length≤9223372036854775807):R c3I [d,.str n] h=some (a8I l n,h):=by
 rw [e70]
 simp only [F70,bs,a8d hd,c9H]
 rw [show (0:Int)=(([]:List (Str × Str)).length:Int) from rfl,l70 l d n h hd hl _ (fun v=>some (.tup [.str v,.bool true],h)) (some (.tup [.str [],.bool false],h)) (fun v r=>by simp) (fun r=>by simp) l [] rfl]
 unfold a8I
 cases a6L l n <;> rfl
theorem l76 (l:List (Str × Str)) (d:D) (n:Str) (h:Hp) (hd:SlOf 2 fld l d) (hl:l.length≤9223372036854775807) {β:Type} (K:Out→Option β) (X:Str→Option β) (Y:Option β)
   (hX:∀ v r,K (.ret,.str v :: .bool true::r,h)=X v) (hY:∀ r,K (.ext 0,r,h)=Y):∀ (suf pre:List (Str × Str)),l=pre++suf→∀ a b e f,
   (a0B (a7m d (.str n)) [a,b,.int .i64 pre.length,e,f] h).bind K=match a6L suf n with | some v=>X v | none=>Y:=by
 intro suf
 induction suf with
 | nil =>
  rintro pre rfl a b e f
  rw [a1i]
  simp [-bind_some, a7m,a8d hd,hY,a6L]
 | cons p suf ih =>
  rintro pre rfl a b e f
  have hw:IntKind.wrap .i64 ((pre.length:Int)+1)=(pre++[p]).length:=by
   rw [wrap_i64 (by omega) (by simp at hl;omega)];simp [-bind_some]
  have hlt:(pre.length:Int)<(pre++p::suf).length:=by simp;omega
  rw [a1i]
  generalize hL:pre++p::suf=L at *
  have hg:L[pre.length]?=some p:=by rw [← hL];exact a6M _ _ _
  by_cases hp:p.1=n
  ·simp [-bind_some, a7m,a8d hd,b5g hd,hlt,hg,fld,hp,hX,a6L]
  ·have:=ih (pre++[p]) (by simp [-bind_some, ← hL]) a b (.bool true) (.bool (p.1==n))
   simp only [← hw] at this
   simp [-bind_some, a7m,a8d hd,b5g hd,hlt,hg,fld,hp,a6L]
   simp [-bind_some, fld,a6L] at this
   exact this
theorem s76 (l:List (Str × Str)) (d:D) (n:Str) (h:Hp) (hd:SlOf 2 fld l d) (hl:l.length≤9223372036854775807):R c3J [d,.str n] h=some (a8I l n,h):=by
 rw [e76]
 simp only [F76,bs,a8d hd,c9H]
 rw [show (0:Int)=(([]:List (Str × Str)).length:Int) from rfl,l76 l d n h hd hl _ (fun v=>some (.tup [.str v,.bool true],h)) (some (.tup [.str [],.bool false],h)) (fun v r=>by simp) (fun r=>by simp) l [] rfl]
 unfold a8I
 cases a6L l n <;> rfl
def app (f v:Str) (e:Ev):Bool:=f==[]||a6L e.fs f==some v
theorem s75 (n:Str) (e:Ev) (h:Hp):R c1L [.agg (evr e),.str n] h=some (a8I e.fs n,h):=by
 rw [e75]
 simp [-bind_some, F75,evr,s70 _ _ _ _ e.hfd e.hl,a8I]
def idx {α:Type} (pr:α→Bool):Nat→List α→Int
 | _,[] => -1
 | k,x::r=>if pr x=true then k else idx pr (k+1) r
theorem a7Z {zs:List Int} {d:D} (hd:a3J .u8 zs d):a0w tab a5m d=some (.int .i64 zs.length):=by
 rcases hd with ⟨rfl,rfl⟩ | rfl
 ·rfl
 ·simp [-bind_some, b0w]
theorem s57 (o pos:Nat) (zs:List Int) (d:D) (h:Hp) (ho:h[o]?=some (.row a3s 2 [[d,.int .i64 pos]])) (hd:a3J .u8 zs d):R c1J [.ptr o 0 0] h=some (.bool (decide (pos<zs.length)),h):=by
 rw [e57]
 simp [-bind_some, F57,Hp.row,ho,a7Z hd]
theorem b5c {zs:List Int} {d:D} (hd:a3J .u8 zs d) (i:Nat) (z:Int) (hz:zs[i]?=some z):a0a tab a5m d (.int .i64 i)=some (.fptr [.int .u8 z]):=by
 rcases hd with ⟨rfl,rfl⟩ | rfl
 ·cases hz
 ·simp [-bind_some, b0w,hz]
theorem b1l (h:Hp) (o k f:Nat) (v:D):a0s tab h ty3 (.ptr o k f) v=pSt 1 h (.ptr o k f) v:=rfl
theorem s24 (o pos:Nat) (zs:List Int) (d:D) (n z:Int) (h:Hp) (ho:h[o]?=some (.row a3s 2 [[d,.int .i64 pos]])) (hd:a3J .u8 zs d) (hn:1≤n) (hn2:n≤1000000000) (hz:zs[pos]?=some z) (hz0:0≤z) (hz1:z<256) (hl:zs.length≤1000) :
  R a3S [.ptr o 0 0,.int .i64 n] h=some (.int .i64 (z*n / 256),h.set o (.row a3s 2 [[d,.int .i64 ((pos+1:Nat):Int)]])):=by
 have hp:pos<zs.length:=(c9X.1 hz).1
 have hn':¬ n<1:=by omega
 have hw:IntKind.wrap .i64 ((pos:Int)+1)=(pos:Int)+1:=wrap_i64 (by omega) (by omega)
 have hzw:IntKind.wrap .i64 z=z:=wrap_i64 (by omega) (by omega)
 rw [e24]
 simp [-bind_some, F24,s57 o pos zs d h ho hd,hp,hn',Hp.row,ho,b5c hd pos z hz,hw,hzw,b1l,pSt,D.okv,a0u,D.one,spl]
 have h0:0≤z*n:=Int.mul_nonneg hz0 (by omega)
 have h1:z*n≤255*1000000000:=Int.mul_le_mul (by omega) hn2 (by omega) (by omega)
 have e1:IntKind.wrap .i64 (z*n)=z*n:=wrap_i64 (by omega) (by omega)
 rw [e1,Int.tdiv_eq_ediv_of_nonneg h0,wrap_i64 (by omega) (by omega)]
def CO (h:Hp) (o:Nat) (rest:List Int):Prop:=∃ (d:D) (zs:List Int) (pos:Nat),h[o]?=some (.row a3s 2 [[d,.int .i64 pos]])∧a3J .u8 zs d∧zs.length≤1000∧rest=zs.drop pos∧∀ z∈zs,0≤z∧z<256
def nx (n:Int):List Int→Int × List Int
 | []=>(0,[])
 | z::r=>if n<1 then (0,z::r) else (z*n / 256,r)
theorem b7M {h:Hp} {o:Nat} {rest:List Int} (hc:CO h o rest):R c1J [.ptr o 0 0] h=some (.bool (decide (rest≠[])),h):=by
 obtain ⟨d,zs,pos,ho,hd,hl,rfl,hz⟩:=hc
 rw [s57 o pos zs d h ho hd]
 have:(pos<zs.length)↔zs.drop pos≠[]:=by
  rw [ne_eq,List.drop_eq_nil_iff];omega
 congr 3
 exact decide_eq_decide.2 this
theorem b7S {h:Hp} {o:Nat} {rest:List Int} (hc:CO h o rest) (n:Int) (hn2:n≤1000000000):∃ h',R a3S [.ptr o 0 0,.int .i64 n] h=some (.int .i64 (nx n rest).1,h')∧CO h' o (nx n rest).2∧Same o h h':=by
 have hl:=b7M hc
 cases hr:rest with
 | nil =>
  subst hr
  refine ⟨h,?_,hc,.refl _ _⟩
  rw [e24]
  simp [-bind_some, F24,hl,nx]
 | cons z r =>
  by_cases hn:n<1
  ·refine ⟨h,?_,by simpa [-bind_some, nx,hn,hr] using hc,.refl _ _⟩
   rw [e24]
   simp [-bind_some, F24,hl,nx,hn,hr]
  ·obtain ⟨d,zs,pos,ho,hd,hl4,hrest,hz⟩:=hc
   have hzp:zs[pos]?=some z:=by
    have:(zs.drop pos)[0]?=some z:=by rw [← hrest,hr];rfl
    simpa using this
   have hm:=hz z (c9V hzp)
   have holt:o<h.length:=(c9X.1 ho).1
   refine ⟨_,(s24 o pos zs d n z h ho hd (by omega) hn2 hzp hm.1 hm.2 hl4).trans (by rw [show (nx n (z::r)).1=z*n / 256 by simp [-bind_some, nx,hn]]),?_,?_⟩
   ·refine ⟨d,zs,pos+1,by simp [-bind_some, holt],hd,hl4,?_,hz⟩
    have:(zs.drop pos).drop 1=r:=by rw [← hrest,hr];rfl
    simpa [-bind_some, nx,hn] using this.symm
   ·exact ⟨by simp,fun q hq=>by rw [d0h (by omega)]⟩
theorem b0B (n:Int) (rest:List Int) (h:∀ z∈rest,0≤z∧z<256):0≤(nx n rest).1∧(1≤n→(nx n rest).1<n):=by
 cases rest with
 | nil=>simp [-bind_some, nx];omega
 | cons z r =>
  have:=h z (by simp)
  unfold nx
  by_cases hn:n<1
  ·simp [-bind_some, hn];omega
  ·simp only [hn,if_false]
   have h0:0≤z*n:=Int.mul_nonneg this.1 (by omega)
   have h1:z*n≤255*n:=Int.mul_le_mul_of_nonneg_right (by omega) (by omega)
   constructor
   ·omega
   ·intro _;omega
def CD (h:Hp) (o:Nat):Prop:=∃ rest,CO h o rest
theorem CD.keep {h h':Hp} {o:Nat} (hc:CD h o) (he:h'[o]?=h[o]?):CD h' o:=by
 obtain ⟨rest,d,zs,pos,ho,hr⟩:=hc
 exact ⟨rest,d,zs,pos,by rw [he];exact ho,hr⟩
theorem CD.lt {h:Hp} {o:Nat} (hc:CD h o):o<h.length:=by
 obtain ⟨rest,d,zs,pos,ho,hr⟩:=hc
 exact (c9X.1 ho).1
theorem CD.ok {h:Hp} {o:Nat} (hc:CD h o) (n:Nat):∀ T sz rows,h[o]?=some (.row T sz rows)→∀ row∈rows,∀ d∈row,Ok n d:=by
 obtain ⟨rest,d,zs,pos,ho,hd,_⟩:=hc
 intro T sz rows hr row hrow x hx
 rw [ho] at hr
 injection hr with hr
 injection hr with _ _ hr
 subst hr
 simp at hrow
 subst hrow
 simp at hx
 rcases hx with rfl | rfl
 ·exact b2G hd n
 ·exact .int _ _
theorem a1v {h:Hp} {o:Nat} (hc:CD h o) (n:Int) (hn:1≤n) (hn2:n≤1000000000):∃ v h',R a3S [.ptr o 0 0,.int .i64 n] h=some (.int .i64 v,h')∧CD h' o∧Same o h h'∧0≤v∧v<n:=by
 obtain ⟨rest,hc⟩:=hc
 obtain ⟨h',h1,h2,h3⟩:=b7S hc n hn2
 have hb:∀ z∈rest,0≤z∧z<256:=by
  obtain ⟨d,zs,pos,ho,hd,hl,rfl,hz⟩:=hc
  exact fun z hz'=>hz z (List.mem_of_mem_drop hz')
 exact ⟨_,h',h1,⟨_,h2⟩,h3,(b0B n rest hb).1,(b0B n rest hb).2 hn⟩
theorem c5M {h:Hp} {o:Nat} (hc:CD h o):∃ s h',R b4Z [.ptr o 0 0] h=some (.str s,h')∧CD h' o∧Same o h h'∧s.length≤7:=by
 obtain ⟨v,h',h1,h2,h3,h4,h5⟩:=a1v hc 14 (by omega) (by omega)
 obtain ⟨s,hs,hg⟩:=a2N lt98_10 v h4 h5
 refine ⟨s,h',?_,h2,h3,?_⟩
 ·rw [c6q];simp [-bind_some, c5H,h1,h4,hg]
 ·exact (show ∀ s∈lt98_10,s.length≤7 by decide) s hs
theorem d33 {h:Hp} {o:Nat} (hc:CD h o):∃ s h',R c3G [.ptr o 0 0] h=some (.str s,h')∧CD h' o∧Same o h h'∧s.length≤19:=by
 obtain ⟨v,h',h1,h2,h3,h4,h5⟩:=a1v hc 11 (by omega) (by omega)
 obtain ⟨s,hs,hg⟩:=a2N lt98_1 v h4 h5
 refine ⟨s,h',?_,h2,h3,?_⟩
 ·rw [e33];simp [-bind_some, F33,h1,h4,hg]
 ·exact (show ∀ s∈lt98_1,s.length≤19 by decide) s hs
theorem d97 {h:Hp} {o:Nat} (hc:CD h o):∃ n h',R c1O [.ptr o 0 0] h=some (.int .i64 n,h')∧CD h' o∧Same o h h'∧1≤n∧n≤5040∧Int.tmod 5040 n=0:=by
 obtain ⟨v,h',h1,h2,h3,h4,h5⟩:=a1v hc 6 (by omega) (by omega)
 obtain ⟨s,hs,hg⟩:=a2N lt82_8 v h4 h5
 refine ⟨s,h',?_,h2,h3,?_⟩
 ·rw [e97];simp [-bind_some, F97,h1,h4,hg]
 ·exact (show ∀ s∈lt82_8,1≤s∧s≤5040∧Int.tmod 5040 s=0 by decide) s hs
theorem d35 {h:Hp} {o:Nat} (hc:CD h o):∃ n h',R c1H [.ptr o 0 0] h=some (.int .i64 n,h')∧CD h' o∧Same o h h'∧0≤n∧n≤253402300799999:=by
 obtain ⟨v,h',h1,h2,h3,h4,h5⟩:=a1v hc 4 (by omega) (by omega)
 rw [e35]
 by_cases v0:v=0
 ·obtain ⟨u,g',g1,g2,g3,g4,g5⟩:=a1v h2 40 (by omega) (by omega)
  refine ⟨u*86400000,g',?_,g2,h3.trans g3,by omega,by omega⟩
  simp [-bind_some, F35,h1,v0,g1,wrap_i64 (n:=u*86400000) (by omega) (by omega)]
 ·by_cases v1:v=1
  ·obtain ⟨u,g',g1,g2,g3,g4,g5⟩:=a1v h2 3 (by omega) (by omega)
   refine ⟨253402300799999 - u*86400000,g',?_,g2,h3.trans g3,by omega,by omega⟩
   simp [-bind_some, F35,h1,v0,v1,g1,wrap_i64 (n:=u*86400000) (by omega) (by omega),wrap_i64 (n:=253402300799999 - u*86400000) (by omega) (by omega)]
  ·obtain ⟨u,g',g1,g2,g3,g4,g5⟩:=a1v h2 60 (by omega) (by omega)
   refine ⟨1000+u,g',?_,g2,h3.trans g3,by omega,by omega⟩
   simp [-bind_some, F35,h1,v0,v1,g1,wrap_i64 (n:=1000+u) (by omega) (by omega)]
structure St (h0:Hp) (o:Nat) (g:Hp):Prop where
 lt:o<h0.length
 cd:CD g o
 gr:Grow h0.length o h0 g
theorem St.refl {h:Hp} {o:Nat} (hc:CD h o):St h o h:=⟨hc.lt,hc,.refl _ _ _⟩
theorem St.next {h0 g g':Hp} {o:Nat} (s:St h0 o g) (hc:CD g' o) (hs:Same o g g'):St h0 o g':=⟨s.lt,hc,s.gr.trans hs.grow⟩
theorem St.app {h0 g g':Hp} {o:Nat} (s:St h0 o g) (hl:g.length≤g'.length) (hb:∀ q,q<h0.length→g'[q]?=g[q]?):St h0 o g':=⟨s.lt,s.cd.keep (hb o s.lt),s.gr.trans ⟨hl,fun q hq _=>hb q hq⟩⟩
theorem St.le {h0 g:Hp} {o:Nat} (s:St h0 o g):h0.length≤g.length:=s.gr.1
theorem St.scope {h0 g:Hp} {o:Nat} (s:St h0 o g) {d d':D} (hd:frz h0.length g 4 d=d') (hok:Ok h0.length d'):∃ h',scope h0 g d=some (d',h')∧CD h' o∧Same o h0 h':=by
 obtain ⟨h1,h2,h3⟩:=b1k hd hok s.gr (s.cd.ok h0.length)
 exact ⟨_,h1,s.cd.keep (h3 o s.lt),h2⟩
theorem d44 (zs:List Int) (d:D) (n:Int) (h:Hp) (hd:a3J .u8 zs d) (hn:0≤n) (hn2:n≤1000) (hz:∀ z∈zs,0≤z∧z<256):∃ h',R c3H [d,.int .i64 n] h=some (.ptr h.length 0 0,h')∧CD h' h.length∧h'.length=h.length+1:=by
 rw [e44]
 have hm:∃ m:Int,b1o (.int .i64 zs.length) (.int .i64 n)=some (.int .i64 m)∧0≤m∧m≤zs.length∧m≤1000:=by
  rw [b4L]
  split
  ·exact ⟨_,rfl,by omega,by omega,by omega⟩
  ·exact ⟨_,rfl,by omega,by omega,by omega⟩
 obtain ⟨m,hm,h0,h1,h2⟩:=hm
 obtain ⟨d',hs,hg⟩:=b5b (T:=tab) (t:=a5m) (i:=c1T) (j:=ti5) (id rfl) (id rfl) (id rfl) (id rfl) hd (k2 := .i64) h0 h1
 simp only [F44,bs,a7Z hd,hm,hs,b6V d' (b2H hg)]
 rw [b5F a3s 2 h [d',.int .i64 0] rfl (by omega)]
 refine ⟨_,rfl,⟨_,d',zs.take m.toNat,0,by simp [-bind_some, a0K],hg,?_,rfl,fun z hz'=>hz z (List.mem_of_mem_take hz')⟩,by simp [-bind_some, a0K]⟩
 simp [-bind_some];omega
theorem d96 {h:Hp} {o:Nat} (hc:CD h o):∃ s h',R c1N [.ptr o 0 0] h=some (.str s,h')∧CD h' o∧Same o h h'∧s.length≤34:=by
 suffices Wp (R c1N [.ptr o 0 0] h) (fun p=>∃ s,p.1 = .str s∧CD p.2 o∧Same o h p.2∧s.length≤34) by
  obtain ⟨⟨x,h'⟩,h1,s,rfl,h2⟩:=this
  exact ⟨s,h',h1,h2⟩
 rw [e96]
 simp only [F96,bs,c9H]
 obtain ⟨s,h1,e1,c1,s1,b1⟩:=c5M hc
 refine Wp.step e1 ?_
 simp only [bs]
 obtain ⟨v,h2,e2,c2,s2,v0,v1⟩:=a1v c1 4 (by omega) (by omega)
 refine Wp.step e2 ?_
 simp only [bs]
 refine Wp.loop (fun k ds g=>∃ s a,ds=[.str s,.int .i64 k,a]∧CD g o∧Same o h g∧k≤3∧s.length+9*k≤34) (fun r=>r.1 = .ext 0∧∃ s a b,r.2.1=[.str s,a,b]∧CD r.2.2 o∧Same o h r.2.2∧s.length≤34) v.toNat ⟨s,.any,by rw [Int.toNat_of_nonneg v0],c2,s1.trans s2,by omega,by omega⟩ ?_ ?_
 ·rintro k ds g ⟨s,a,rfl,cg,sg,hk,hs⟩
  simp only [b5L,a0e,a0g,bs,a1m]
  refine Wp.dif ?_ ?_
  ·intro h0
   have h0:0<(k:Int):=by simpa using h0
   simp only [b3d,bs]
   obtain ⟨v,h2,e2,c2,s2,v0,v1⟩:=a1v cg 5 (by omega) (by omega)
   obtain ⟨u,hu,hg⟩:=a2N lt98_7 v v0 v1
   have hul:=(show ∀ s∈lt98_7,s.length≤2 by decide) u hu
   refine Wp.step e2 ?_
   simp only [b8M,v0,if_true,c9U,hg,Option.map_some,bs,ld9]
   obtain ⟨w,h3,e3,c3,s3,b3⟩:=c5M c2
   refine Wp.step e3 ?_
   rw [a7z _ _ _ _ (by omega)]
   simp only [bs]
   rw [a7z _ _ _ _ (by simp;omega)]
   have hk1:IntKind.wrap .i64 ((k:Int) - 1)=((k - 1:Nat):Int):=by
    rw [wrap_i64 (by omega) (by omega)];omega
   simp only [bs,a0G,a1l,hk1]
   exact .some (.inl ⟨rfl,k - 1,by omega,s++(u++w),_,rfl,c3,(sg.trans s2).trans s3,by omega,by simp;omega⟩)
  ·intro _
   exact .some (.inr ⟨by simp,rfl,s,_,_,rfl,cg,sg,by omega⟩)
 ·rintro ⟨x,ds,g⟩ ⟨rfl,s,a,b,rfl,cg,sg,hs⟩
  simp only [a0m,a0l,a0e,bs,a0r]
  exact .some ⟨s,rfl,cg,sg,hs⟩
def b1n (l:List (Str × Str)):Prop:=(l.map (·.1)).Sublist lt98_9∧∀ p∈l,p.2.length≤19
theorem d98 {h:Hp} {o:Nat} (hc:CD h o):∃ x h',R c0x [.ptr o 0 0] h=some (x,h')∧CD h' o∧Same o h h'∧∃ l,SlOf 2 fld l x∧b1n l:=by
 suffices Wp (R c0x [.ptr o 0 0] h) (fun p=>CD p.2 o∧Same o h p.2∧∃ l,SlOf 2 fld l p.1∧b1n l) by
  obtain ⟨⟨x,h'⟩,h1,h2⟩:=this
  exact ⟨x,h',h1,h2⟩
 rw [e98]
 simp only [F98,bs,c9H,b3e]
 refine Wp.loop (fun k ds g=>∃ x a b,∃ (i:Nat) (l:List (Str × Str)),ds=[x,.int .i64 i,a,b]∧St h o g∧k+i=4∧Own g h.length a3B 2 (l.map fld) x∧(l.map (·.1)).Sublist (lt98_9.take i)∧∀ p∈l,p.2.length≤19)
  (fun r=>r.1 = .ext 0∧∃ x a b c l,r.2.1=[x,a,b,c]∧St h o r.2.2∧Own r.2.2 h.length a3B 2 (l.map fld) x∧b1n l) 4 ⟨.nils,.any,.any,0,[],rfl,.refl hc,rfl,Own.nils _ _ _ _,by simp,by simp⟩ ?_ ?_
 ·rintro k ds g ⟨x,a,b,i,l,rfl,S,hk,ow,hsub,hv⟩
  have hw:IntKind.wrap .i64 ((i:Int)+1)=(i+1:Nat):=by
   rw [wrap_i64 (by omega) (by omega)];omega
  simp only [b5M,a0e,a0g,bs,c4j,c9N,b1c,a0n]
  refine Wp.dif ?_ ?_
  ·intro h0
   have h0:i<4:=dl_ h0
   obtain ⟨v,h1,e1,c1,s1,v0,v1⟩:=a1v S.cd 3 (by omega) (by omega)
   have S1:=S.next c1 s1
   replace ow:=ow.same s1 hc.lt
   refine Wp.step e1 ?_
   simp only [a0U,bs]
   refine Wp.join (P:=fun r=>∃ x g,∃ l:List (Str × Str),r=(.nrm,[x],g)∧St h o g∧Own g h.length a3B 2 (l.map fld) x∧(l.map (·.1)).Sublist (lt98_9.take (i+1))∧∀ p∈l,p.2.length≤19) ?_ ?_ ?_
   ·intro _
    have hg:lt98_9[i]?=some lt98_9[i]:=c9W h0
    simp only [b8M,Int.natCast_nonneg,if_true,c9Q,c9U,hg,Option.map_some,bs,ld9]
    obtain ⟨u,h2,e2,c2,s2,hu⟩:=d33 S1.cd
    have S2:=S1.next c2 s2
    replace ow:=ow.same s2 hc.lt
    refine Wp.step e2 ?_
    simp only [bs,b1z,b9W]
    have hll:l.length≤4:=by
     have:=hsub.length_le
     simp at this
     omega
    refine c5w S2.le ow (a1e _ _ _ _) (by simp;omega) fun x' g' ow len bel _ _=>?_
    simp only [bs,a1l]
    refine .some ⟨x',g',l++[(lt98_9[i],u)],rfl,S2.app len bel,by rw [c9O];exact ow,?_,?_⟩
    ·rw [c9T,hg,c9O]
     exact hsub.append (List.Sublist.refl _)
    ·intro p hp
     rcases d0d.1 hp with hp | hp
     ·exact hv p hp
     ·simp at hp;subst hp;exact hu
   ·intro _
    refine .some ⟨_,_,l,rfl,S1,ow,hsub.trans ?_,hv⟩
    rw [c9T]
    exact List.sublist_append_left _ _
   ·rintro _ ⟨x,g,l,rfl,S,ow,hsub,hv⟩
    simp only [a0x,a0l,a0e,a0q,bs,hw]
    exact .some (.inl ⟨rfl,k - 1,by omega,x,_,_,i+1,l,rfl,S,by omega,ow,hsub,hv⟩)
  ·intro h0
   have h0:¬ i<4:=by
    have:¬ (i:Int)<4:=by simpa using h0
    omega
   refine .some (.inr ⟨by simp,rfl,x,_,_,_,l,rfl,S,ow,hsub.trans (List.take_sublist _ _),hv⟩)
 ·rintro ⟨x,ds,g⟩ ⟨rfl,x,a,b,c,l,rfl,S,ow,hl⟩
  simp only [a0m,a0l,a0e,bs,a0r]
  have hsl:=a2f (n:=3) ow (Nat.le_refl _) (fun a _=>a8F _ g _ a)
  obtain ⟨h',hs,hcd,hsm⟩:=S.scope rfl (a1j hsl fun a _=>b2n _ a)
  exact ⟨_,hs,hcd,hsm,l,hsl,hl⟩
def chain:Int→List Lin→Int→Prop
 | a,[],b=>a=b
 | a,l::r,b=>l.off=a∧1≤l.len∧l.len≤36∧l.txt.length+1≤l.len∧chain (a+l.len) r b
theorem a5C:∀ (ls:List Lin) (a b:Int) (l:Lin),chain a ls b→l.off=b→1≤l.len→l.len≤36→l.txt.length+1≤l.len→chain a (ls++[l]) (b+l.len)
 | [],a,b,l,h,h1,h2,h3,h4=>by
  simp only [chain] at h
  subst h
  exact ⟨h1,h2,h3,h4,rfl⟩
 | x::r,a,b,l,h,h1,h2,h3,h4=>⟨h.1,h.2.1,h.2.2.1,h.2.2.2.1,a5C r _ b l h.2.2.2.2 h1 h2 h3 h4⟩
def a4w (l:Lin):Lin:={ l with txt:=[] }
theorem a4T:∀ (ls:List Lin) (a b:Int),chain a ls b→chain a (ls.map a4w) b
 | [],a,b,h=>h
 | x::r,a,b,h=>⟨h.1,h.2.1,h.2.2.1,by simp [-bind_some, a4w];exact h.2.1,a4T r _ b h.2.2.2.2⟩
theorem a6A:∀ (ls:List Lin) (a b:Int),chain a ls b→a+ls.length≤b∧b≤a+36*ls.length
 | [],a,b,h=>by simp [-bind_some, chain] at h;simp [-bind_some];omega
 | x::r,a,b,h=>by
  have:=a6A r _ b h.2.2.2.2
  have:=h.2.1
  have:=h.2.2.1
  simp only [c9Y]
  omega
structure ItOK (hst fil frm:Int) (i:It):Prop where
 host:i.e.a0=hst
 file:i.e.a1=fil
 fr:i.e.a2=frm
 ch:chain frm i.e.ls i.e.a3
 n1:1≤i.e.ls.length
 n3:i.e.ls.length≤3
 ev:i.r=[]→0≤i.e.a5∧i.e.a5≤253402300799999∧1≤i.e.a6∧i.e.a6≤5040∧i.e.s7∈lt98_5∧i.e.s8∈lt98_6∧b1n i.e.fs∧∀ l∈i.e.ls,l.len≤l.txt.length+2
 wt:i.r=[]→Int.tmod 5040 i.e.a6=0
 sk:i.r≠[]→i.r∈lt98_4∧i.e.a5=0∧i.e.a6=0∧i.e.s7=[]∧i.e.s8=[]∧i.e.fs=[]∧∀ l∈i.e.ls,l.txt=[]
theorem b3G (ls:List Lin) (i:Nat) (hi:i<ls.length):(((ls.take i).map a4w++ls.drop i).map a6W).set i (a6W (a4w ls[i]))=((ls.take (i+1)).map a4w++ls.drop (i+1)).map a6W:=by
 rw [List.drop_eq_getElem_cons hi,c9T,c9W hi]
 simp only [c9O,c9P,Option.toList_some,List.map_nil]
 rw [List.set_append_right _ _ (by simp;omega)]
 simp [-bind_some, Nat.min_eq_left (Nat.le_of_lt hi)]
theorem b2F (ls:List Lin) (i:Nat) (hi:i<ls.length):(((ls.take i).map a4w++ls.drop i).map a6W)[i]?=some (a6W ls[i]):=by
 rw [List.drop_eq_getElem_cons hi,c9U,List.getElem?_append_right (by simp;omega)]
 simp [-bind_some, Nat.min_eq_left (Nat.le_of_lt hi)]
 exact ⟨_,c9W hi,rfl⟩
theorem c4f {h:Hp} {q T z:Nat} {cs:List D} (hq:h[q]?=some (.row T z [cs])) (hl:cs.length=10):a0c tab h a0R (.ptr q 0 0)=some (.agg cs):=by
 rw [c4g,a1r hq]
 simp [-bind_some, a9a,hl]
 exact List.take_of_length_le (by omega)
theorem b6j {h:Hp} {q T z:Nat} {cs:List D} (hq:h[q]?=some (.row T z [cs])) (hl:cs.length=11):a0c tab h a2j (.ptr q 0 0)=some (.agg cs):=by
 rw [c4h,a1r hq]
 simp [-bind_some, a9a,hl]
 exact List.take_of_length_le (by omega)
theorem b2Z:∀ s∈lt98_4,s≠[]:=by decide
theorem d84 {h:Hp} {o:Nat} (hc:CD h o) (host file fr:Int) (hf0:0≤fr) (hf1:fr≤1000000000):∃ i h',R c1M [.ptr o 0 0,.int .i64 host,.int .i64 file,.int .i64 fr] h=some (.agg (itr i),h')∧CD h' o∧Same o h h'∧ItOK host file fr i:=by
 suffices Wp (R c1M [.ptr o 0 0,.int .i64 host,.int .i64 file,.int .i64 fr] h) (fun p=>∃ i,p.1 = .agg (itr i)∧CD p.2 o∧Same o h p.2∧ItOK host file fr i) by
  obtain ⟨⟨x,h'⟩,h1,i,rfl,h2⟩:=this
  exact ⟨i,h',h1,h2⟩
 have ho:=hc.lt
 rw [e84]
 simp only [F84,bs,c9H,b0Q]
 generalize hg0:a0K (a0K h a2j 11 [[.str [],.int .i64 0,.int .i64 0,.int .i64 0,.int .i64 0,.nils,.int .i64 0,.int .i64 0,.str [],.str [],.nils]]) a0R 10 [[.int .i64 0,.int .i64 0,.int .i64 0,.int .i64 0,.nils,.int .i64 0,.int .i64 0,.str [],.str [],.nils]]=g0
 have S0:St h o g0:=(St.refl hc).app (by simp [-bind_some, ← hg0,a0K]) (fun q hq=>by simp only [← hg0,a0K];rw [d0g (by simp;omega),d0g hq])
 have p8:g0[h.length]?=some (.row a2j 11 [[.str [],.int .i64 0,.int .i64 0,.int .i64 0,.int .i64 0,.nils,.int .i64 0,.int .i64 0,.str [],.str [],.nils]]):=by
  simp only [← hg0,a0K];rw [d0g (by simp),List.getElem?_append_right (Nat.le_refl _)];simp [-bind_some]
 have p9:g0[h.length+1]?=some (.row a0R 10 [[.int .i64 0,.int .i64 0,.int .i64 0,.int .i64 0,.nils,.int .i64 0,.int .i64 0,.str [],.str [],.nils]]):=by
  simp only [← hg0,a0K];rw [List.getElem?_append_right (by simp)];simp [-bind_some]
 have hl9:(a0K h a2j 11 [[.str [],.int .i64 0,.int .i64 0,.int .i64 0,.int .i64 0,.nils,.int .i64 0,.int .i64 0,.str [],.str [],.nils]]).length=h.length+1:=by simp [-bind_some, a0K]
 rw [hl9]
 clear hl9 hg0
 have sm:∀ {a b:Hp},Same (h.length+1) a b→Grow h.length o a b:=fun s=>⟨Nat.le_of_eq s.1.symm,fun q hq _=>s.2 q (by omega)⟩
 refine c5z p9 (by rfl) (by rfl) (by simp) (by rfl) fun g1 q9 sg=>?_
 replace q9:g1[h.length+1]?=some (.row a0R 10 [[.int .i64 host,.int .i64 file,.int .i64 fr,.int .i64 0,.nils,.int .i64 0,.int .i64 0,.str [],.str [],.nils]]):=q9
 replace p8:=(sg.2 h.length (by omega)).trans p8
 have S1:St h o g1:=S0.app (Nat.le_of_eq sg.1.symm) fun q hq=>sg.2 q (by omega)
 clear p9 sg S0
 obtain ⟨v,h1,e1,c1,s1,v0,v1⟩:=a1v S1.cd 3 (by omega) (by omega)
 replace q9:=(s1.2 (h.length+1) (by omega)).trans q9
 replace p8:=(s1.2 h.length (by omega)).trans p8
 have S2:=S1.next c1 s1
 refine Wp.step e1 ?_
 simp only [a0q,bs]
 rw [wrap_i64 (n:=1+v) (by omega) (by omega)]
 refine Wp.loop (fun k ds g=>∃ po:Int,∃ a b c x,∃ ls:List Lin,ds=[.int .i64 po,.int .i64 k,a,b,c]∧St h o g∧g[h.length]?=some (.row a2j 11 [[.str [],.int .i64 0,.int .i64 0,.int .i64 0,.int .i64 0,.nils,.int .i64 0,.int .i64 0,.str [],.str [],.nils]])
   ∧ g[h.length+1]?=some (.row a0R 10 [[.int .i64 host,.int .i64 file,.int .i64 fr,.int .i64 0,x,.int .i64 0,.int .i64 0,.str [],.str [],.nils]])∧Own g (h.length+2) b3X 3 (ls.map a6W) x∧chain fr ls po∧ls.length+k=(1+v).toNat∧∀ l∈ls,l.len≤l.txt.length+2)
  (fun r=>r.1 = .ext 0∧∃ po:Int,∃ a b c d x,∃ ls:List Lin,r.2.1=[.int .i64 po,a,b,c,d]∧St h o r.2.2∧r.2.2[h.length]?=some (.row a2j 11 [[.str [],.int .i64 0,.int .i64 0,.int .i64 0,.int .i64 0,.nils,.int .i64 0,.int .i64 0,.str [],.str [],.nils]])
   ∧ r.2.2[h.length+1]?=some (.row a0R 10 [[.int .i64 host,.int .i64 file,.int .i64 fr,.int .i64 0,x,.int .i64 0,.int .i64 0,.str [],.str [],.nils]])∧Own r.2.2 (h.length+2) b3X 3 (ls.map a6W) x∧chain fr ls po∧1≤ls.length∧ls.length≤3∧∀ l∈ls,l.len≤l.txt.length+2)
  (1+v).toNat ⟨fr,.any,.any,.any,.nils,[],by rw [Int.toNat_of_nonneg (by omega)],S2,p8,q9,Own.nils _ _ _ _,rfl,by simp,by simp⟩ ?_ ?_
 ·clear e1 S1 S2 q9 p8 c1 s1
  rintro k ds g ⟨po,a,b,c,x,ls,rfl,S,p8,p9,ow,hch,hk,htx⟩
  simp only [b5J,a0e,a0g,bs,a1m]
  refine Wp.dif ?_ ?_
  ·intro h0
   have h0:0<(k:Int):=by simpa using h0
   obtain ⟨t,g1,e1,c1,s1,ht⟩:=d96 S.cd
   have S1:=S.next c1 s1
   refine Wp.step e1 ?_
   simp only [c8L,a0q,bs]
   obtain ⟨u,g2,e2,c2,s2,u0,u1⟩:=a1v c1 2 (by omega) (by omega)
   have S2:=S1.next c2 s2
   have s12:=s1.trans s2
   replace p9:=(s12.2 (h.length+1) (by omega)).trans p9
   replace p8:=(s12.2 h.length (by omega)).trans p8
   replace ow:=ow.same s12 (by omega)
   refine Wp.step e2 ?_
   have w1:=wrap_i64 (n:=(t.length:Int)+1) (by omega) (by omega)
   have w2:=wrap_i64 (n:=(t.length:Int)+1+u) (by omega) (by omega)
   simp only [bs,c9H,a0q,w1,w2,b2l,c0K,a1r p9,c9K,bs,Nat.zero_add,List.drop_succ_cons,List.drop_zero,List.head?_cons,b0R,b9V]
   have hlt:h.length+1<g2.length:=(c9X.1 p9).1
   have hcl:=a6A _ _ _ hch
   refine c5v (by omega) ow (a1e _ _ _ _) (by simp;omega) fun x' g3 ow3 len bel keep _=>?_
   have S3:=S2.app len fun q hq=>bel q (by omega)
   replace p9:=(bel (h.length+1) (by omega)).trans p9
   replace p8:=(bel h.length (by omega)).trans p8
   simp only [bs]
   refine c5x p9 (by rfl) (by cases x' <;> first | rfl | (have:=a2z ow3;simp [-bind_some, D.one] at this)) (by simp) (by cases x' <;> first | rfl | (have:=a2z ow3;simp [-bind_some, D.one] at this)) fun g4 p9' sg=>?_
   have hc1:a0u x'=[x']:=by cases x' <;> first | rfl | (have:=a2z ow3;simp [-bind_some, D.one] at this)
   rw [hc1] at p9'
   replace p9:g4[h.length+1]?=some (.row a0R 10 [[.int .i64 host,.int .i64 file,.int .i64 fr,.int .i64 0,x',.int .i64 0,.int .i64 0,.str [],.str [],.nils]]):=p9'
   replace p8:=(sg.2 h.length (by omega)).trans p8
   have S4:St h o g4:=S3.app (Nat.le_of_eq sg.1.symm) fun q hq=>sg.2 q (by omega)
   have ow4:=ow3.keep (h':=g4) fun q hq _=>sg.2 q (by omega)
   have w3:=wrap_i64 (n:=po+((t.length:Int)+1+u)) (by omega) (by omega)
   have hk1:IntKind.wrap .i64 ((k:Int) - 1)=((k - 1:Nat):Int):=by
    rw [wrap_i64 (by omega) (by omega)];omega
   simp only [a0q,bs,a0G,w3,hk1]
   refine .some (.inl ⟨rfl,k - 1,by omega,_,_,_,_,x',ls++[⟨po,(t.length:Int)+1+u,t⟩],rfl,S4,p8,p9,by rw [c9O];exact ow4,a5C _ _ _ _ hch rfl (by simp;omega) (by simp;omega) (by simp;omega),by simp;omega,?_⟩)
   intro l hl
   rcases d0d.1 hl with hl | hl
   ·exact htx l hl
   ·simp at hl;subst hl;simp [-bind_some];omega
  ·intro h0
   have h0:¬ 0<(k:Int):=by simpa using h0
   exact .some (.inr ⟨by simp,rfl,_,_,_,_,_,x,ls,rfl,S,p8,p9,ow,hch,by omega,by omega,htx⟩)
 ·clear e1 S1 S2 q9 p8 c1 s1
  rintro ⟨ex,ds,g⟩ ⟨rfl,po,a,b,c,d,x,ls,rfl,S,p8,p9,ow,hch,hl1,hl3,htx⟩
  simp only [a0m,a0l,a0e,bs,b7l]
  refine b8U p9 (by rfl) (by rfl) (by simp) (by rfl) fun g1 p9' sg=>?_
  replace p9:g1[h.length+1]?=some (.row a0R 10 [[.int .i64 host,.int .i64 file,.int .i64 fr,.int .i64 po,x,.int .i64 0,.int .i64 0,.str [],.str [],.nils]]):=p9'
  replace p8:=(sg.2 h.length (by omega)).trans p8
  have S1:St h o g1:=S.app (Nat.le_of_eq sg.1.symm) fun q hq=>sg.2 q (by omega)
  have ow1:=ow.keep (h':=g1) fun q hq _=>sg.2 q (by omega)
  clear S sg p9' ow
  obtain ⟨v,g2,e2,c2,s2,v0,v1⟩:=a1v S1.cd 5 (by omega) (by omega)
  replace p9:=(s2.2 (h.length+1) (by omega)).trans p9
  replace p8:=(s2.2 h.length (by omega)).trans p8
  have S2:=S1.next c2 s2
  have ow2:=ow1.same s2 (by omega)
  refine Wp.step e2 ?_
  simp only [a0U,bs]
  refine Wp.dif ?_ ?_
  ·intro _
   refine Wp.loop (fun k ds g=>∃ b,∃ i:Nat,ds=[.int .i64 i,b]∧St h o g∧g[h.length]?=some (.row a2j 11 [[.str [],.int .i64 0,.int .i64 0,.int .i64 0,.int .i64 0,.nils,.int .i64 0,.int .i64 0,.str [],.str [],.nils]])
    ∧ g[h.length+1]?=some (.row a0R 10 [[.int .i64 host,.int .i64 file,.int .i64 fr,.int .i64 po,x,.int .i64 0,.int .i64 0,.str [],.str [],.nils]])∧Own g (h.length+2) b3X 3 (((ls.take i).map a4w++ls.drop i).map a6W) x∧k+i=ls.length)
    (fun r=>r.1 = .ext 2∧∃ a b,r.2.1=[a,b]∧St h o r.2.2∧r.2.2[h.length]?=some (.row a2j 11 [[.str [],.int .i64 0,.int .i64 0,.int .i64 0,.int .i64 0,.nils,.int .i64 0,.int .i64 0,.str [],.str [],.nils]])
    ∧ r.2.2[h.length+1]?=some (.row a0R 10 [[.int .i64 host,.int .i64 file,.int .i64 fr,.int .i64 po,x,.int .i64 0,.int .i64 0,.str [],.str [],.nils]])∧Own r.2.2 (h.length+2) b3X 3 ((ls.map a4w).map a6W) x) ls.length ⟨.any,0,rfl,S2,p8,p9,by simpa using ow2,rfl⟩ ?_ ?_
   ·clear S1 ow1 e2 c2 s2 S2 p8 p9 ow2
    rintro k ds g ⟨b,i,rfl,S,p8,p9,ow,hk⟩
    have hlen:(((ls.take i).map a4w++ls.drop i).map a6W).length=ls.length:=by simp;omega
    have hlo:=c0L ow
    rw [hlen] at hlo
    simp only [b5K,a0e,a0g,bs,c9H,b2l,c0K,a1r p9,c9K,Nat.zero_add,List.drop_succ_cons,List.drop_zero,List.head?_cons,hlo,a0n]
    refine Wp.dif ?_ ?_
    ·intro h0
     have hi:i<ls.length:=by
      have:(i:Int)<ls.length:=by simpa using h0
      omega
     obtain ⟨ob,hob,rfl,hgo⟩:=c0S ow (i:=i) (by rw [hlen];exact hi)
     rw [hlen] at *
     have hil:(i:Int)<ls.length:=by omega
     have hw:=wi_ i (by omega)
     simp only [c4b,Int.natCast_nonneg,hil,and_self,if_true,Nat.zero_add,c9Q,bs,b7r]
     refine c5B hgo (b2F ls i hi) (by rfl) (by simp [-bind_some, a6W]) (by rfl) fun g1 hg1 sg=>?_
     have hset:(((ls.take i).map a4w++ls.drop i).map a6W).set i (spl (a6W ls[i]) 2 (a0u (.str [])))=((ls.take (i+1)).map a4w++ls.drop (i+1)).map a6W:=b3G ls i hi
     rw [hset] at hg1
     simp only [a0q,bs,hw]
     refine .some (.inl ⟨rfl,k - 1,by omega,_,i+1,rfl,S.app (Nat.le_of_eq sg.1.symm) fun q hq=>sg.2 q (by omega),(sg.2 _ (by omega)).trans p8,(sg.2 _ (by omega)).trans p9,?_,by omega⟩)
     refine .inr ⟨ob,hob,?_,hg1⟩
     congr 1
     simp [-bind_some];omega
    ·intro h0
     have hi:i=ls.length:=by
      have:¬ (i:Int)<ls.length:=by simpa using h0
      omega
     subst hi
     refine .some (.inr ⟨by simp,rfl,_,_,rfl,S,p8,p9,by simpa using ow⟩)
   ·clear S1 ow1 e2 c2 s2 S2 p8 p9 ow2
    rintro ⟨ex,ds,g⟩ ⟨rfl,a,b,rfl,S,p8,p9,ow⟩
    simp only [a0m,a0l,a0e,bs,b3a]
    obtain ⟨v,g1,e1,c1,s1,v0,v1⟩:=a1v S.cd 3 (by omega) (by omega)
    obtain ⟨s,hs,hg⟩:=a2N lt98_4 v v0 v1
    have p9':=(s1.2 (h.length+1) (by omega)).trans p9
    replace p8:=(s1.2 h.length (by omega)).trans p8
    have S1:=S.next c1 s1
    have ow1:=ow.same s1 (by omega)
    refine Wp.step e1 ?_
    simp only [b8M,v0,if_true,c9U,hg,Option.map_some,bs,ld9,c4f p9' rfl,c4f p9 rfl,b4o,a1l]
    refine c1y p8 (by rfl) (by rfl) (by simp) (by rfl) fun g2 q8 sg=>?_
    replace q8:g2[h.length]?=some (.row a2j 11 [[.str s,.int .i64 host,.int .i64 file,.int .i64 fr,.int .i64 po,x,.int .i64 0,.int .i64 0,.str [],.str [],.nils]]):=q8
    have S2:St h o g2:=S1.app (Nat.le_of_eq sg.1.symm) fun q hq=>sg.2 q (by omega)
    have ow2:=ow1.keep (h':=g2) fun q hq _=>sg.2 q (by omega)
    simp only [b6j q8 rfl,bs,a0r]
    have hsl:=a2f (n0:=h.length) (n:=2) ow2 (by omega) (fun a _=>a6X _ g2 _ a)
    have hsl2:=b2Z s hs
    obtain ⟨h',hsc,hcd,hsm⟩:=S2.scope (d := .agg [.str s,.int .i64 host,.int .i64 file,.int .i64 fr,.int .i64 po,x,.int .i64 0,.int .i64 0,.str [],.str [],.nils]) (d' := .agg (itr ⟨s,⟨host,file,fr,po,ls.map a4w,frz h.length g2 3 x,0,0,[],[],[],.nils,SlOf.nils _ _,by simp,hsl,by simp;omega⟩⟩)) (by simp [-bind_some, itr,evr]) (b6h _ _)
    rw [hsc]
    refine .some ⟨_,rfl,hcd,hsm,⟨rfl,rfl,rfl,a4T _ _ _ hch,by simpa using hl1,by simpa using hl3,fun h0=>absurd h0 hsl2,fun h0=>absurd h0 hsl2,fun _=>⟨hs,rfl,rfl,rfl,rfl,rfl,?_⟩⟩⟩
    intro l hl
    simp at hl
    obtain ⟨l0,_,rfl⟩:=hl
    rfl
  ·intro _
   clear e2 v0 v1
   obtain ⟨tm,g3,e3,c3,s3,t0,t1⟩:=d35 c2
   refine Wp.step e3 ?_
   simp only [bs]
   obtain ⟨wt,g4,e4,c4,s4,w0,w1,w2⟩:=d97 c3
   refine Wp.step e4 ?_
   have s3x4:=s3.trans s4
   replace p9:=(s3x4.2 (h.length+1) (by omega)).trans p9
   replace p8:=(s3x4.2 h.length (by omega)).trans p8
   have S4:=S2.next c4 s3x4
   have ow4:=ow2.same s3x4 (by omega)
   clear e3 e4 S1 S2 c3 s3 c2 s2 s4 s3x4 ow1 ow2 c4
   simp only [bs,b7m,b7n,b7o,b7p,b7q,Nat.zero_add]
   refine b8U p9 (by rfl) (by rfl) (by simp) (by rfl) fun g5 p9' sg=>?_
   refine b8U p9' (by rfl) (by rfl) (by simp [-bind_some, spl,a0u]) (by rfl) fun g6 p9'' sg2=>?_
   replace sg:=sg.trans sg2
   replace p9:g6[h.length+1]?=some (.row a0R 10 [[.int .i64 host,.int .i64 file,.int .i64 fr,.int .i64 po,x,.int .i64 tm,.int .i64 wt,.str [],.str [],.nils]]):=p9''
   replace p8:=(sg.2 h.length (by omega)).trans p8
   have S6:St h o g6:=S4.app (Nat.le_of_eq sg.1.symm) fun q hq=>sg.2 q (by omega)
   have ow6:=ow4.keep (h':=g6) fun q hq _=>sg.2 q (by omega)
   clear p9' p9'' sg sg2 S4 ow4
   simp only [b3b,bs]
   obtain ⟨v,g7,e7,c7,s7,v0,v1⟩:=a1v S6.cd 4 (by omega) (by omega)
   obtain ⟨tr,htr,hg⟩:=a2N lt98_5 v v0 v1
   refine Wp.step e7 ?_
   simp only [b8M,v0,if_true,c9U,hg,Option.map_some,bs,ld9,b3c]
   obtain ⟨v,g8,e8,c8,s8,v0,v1⟩:=a1v c7 2 (by omega) (by omega)
   obtain ⟨sm',hsm,hg⟩:=a2N lt98_6 v v0 v1
   refine Wp.step e8 ?_
   simp only [b8M,v0,if_true,c9U,hg,Option.map_some,bs,ld9,a1l]
   have s7x8:=s7.trans s8
   replace p9:=(s7x8.2 (h.length+1) (by omega)).trans p9
   replace p8:=(s7x8.2 h.length (by omega)).trans p8
   have S8:=S6.next c8 s7x8
   have ow8:=ow6.same s7x8 (by omega)
   clear e7 e8 S6 c7 s7 s8 s7x8 ow6 c8
   refine c5B p9 (by rfl) (by rfl) (by simp) (by rfl) fun g9 p9' sg=>?_
   refine c5B p9' (by rfl) (by rfl) (by simp [-bind_some, spl,a0u]) (by rfl) fun g10 p9'' sg2=>?_
   replace sg:=sg.trans sg2
   replace p9:g10[h.length+1]?=some (.row a0R 10 [[.int .i64 host,.int .i64 file,.int .i64 fr,.int .i64 po,x,.int .i64 tm,.int .i64 wt,.str tr,.str sm',.nils]]):=p9''
   replace p8:=(sg.2 h.length (by omega)).trans p8
   have S10:St h o g10:=S8.app (Nat.le_of_eq sg.1.symm) fun q hq=>sg.2 q (by omega)
   have ow10:=ow8.keep (h':=g10) fun q hq _=>sg.2 q (by omega)
   clear p9' p9'' sg sg2 S8 ow8
   obtain ⟨y,g11,e11,c11,s11,fs,hy,hfs⟩:=d98 S10.cd
   refine Wp.step e11 ?_
   replace p9:=(s11.2 (h.length+1) (by omega)).trans p9
   replace p8:=(s11.2 h.length (by omega)).trans p8
   have S11:=S10.next c11 s11
   have ow11:=ow10.same s11 (by omega)
   have oc:=a1d (a0T hy)
   refine c5y p9 (by rfl) (by rw [oc.1];rfl) (by simp) oc.2 fun g12 p9' sg=>?_
   rw [oc.1] at p9'
   replace p9:g12[h.length+1]?=some (.row a0R 10 [[.int .i64 host,.int .i64 file,.int .i64 fr,.int .i64 po,x,.int .i64 tm,.int .i64 wt,.str tr,.str sm',y]]):=p9'
   replace p8:=(sg.2 h.length (by omega)).trans p8
   have S12:St h o g12:=S11.app (Nat.le_of_eq sg.1.symm) fun q hq=>sg.2 q (by omega)
   have ow12:=ow11.keep (h':=g12) fun q hq _=>sg.2 q (by omega)
   clear e11 S11 ow11 S10 ow10 s11 c11 sg p9'
   simp only [c4f p9 rfl,bs,b9S]
   refine c1y p8 (by rfl) (by rfl) (by simp) (by rfl) fun g2 q8 sg=>?_
   replace q8:g2[h.length]?=some (.row a2j 11 [[.str [],.int .i64 host,.int .i64 file,.int .i64 fr,.int .i64 po,x,.int .i64 tm,.int .i64 wt,.str tr,.str sm',y]]):=q8
   have S2:St h o g2:=S12.app (Nat.le_of_eq sg.1.symm) fun q hq=>sg.2 q (by omega)
   have ow2:=ow12.keep (h':=g2) fun q hq _=>sg.2 q (by omega)
   simp only [b6j q8 rfl,bs,a0r]
   have hsl:=a2f (n0:=h.length) (n:=2) ow2 (by omega) (fun a _=>a6X _ g2 _ a)
   have hfl:fs.length≤4:=by
    have:=hfs.1.length_le
    simpa using this
   have hfy:frz h.length g2 3 y=y:=a2x hy (fun a _=>a8F _ g2 _ a)
   obtain ⟨h',hsc,hcd,hsm2⟩:=S2.scope (d := .agg [.str [],.int .i64 host,.int .i64 file,.int .i64 fr,.int .i64 po,x,.int .i64 tm,.int .i64 wt,.str tr,.str sm',y]) (d' := .agg (itr ⟨[],⟨host,file,fr,po,ls,frz h.length g2 3 x,tm,wt,tr,sm',fs,y,hy,by omega,hsl,by omega⟩⟩)) (by simp [-bind_some, itr,evr,hfy]) (b6h _ _)
   rw [hsc]
   exact .some ⟨_,rfl,hcd,hsm2,⟨rfl,rfl,rfl,hch,hl1,hl3,fun _=>⟨t0,t1,w0,w1,htr,hsm,hfs,htx⟩,fun _=>w2,fun h0=>absurd rfl h0⟩⟩
def a4D (a b:Ev):Bool:=if a.a5=b.a5 then (if a.a0=b.a0 then (if a.a1=b.a1 then decide (a.a2<b.a2) else decide (a.a1<b.a1)) else decide (a.a0<b.a0)) else decide (a.a5<b.a5)
theorem s85 (a b:Ev) (h:Hp):R c3K [.agg (evr a),.agg (evr b)] h=some (.bool (a4D a b),h):=by
 rw [e85]
 by_cases h5:a.a5=b.a5
 ·by_cases h0:a.a0=b.a0
  ·by_cases h1:a.a1=b.a1
   ·simp [-bind_some, F85,evr,a4D,h5,h0,h1]
   ·simp [-bind_some, F85,evr,a4D,h5,h0,h1]
  ·simp [-bind_some, F85,evr,a4D,h5,h0]
 ·simp [-bind_some, F85,evr,a4D,h5]
def a1M (l:List Ev) (e:Ev):Nat→Nat
 | 0=>0
 | k+1=>match l[k]? with
  | some x=>if a4D e x=true then a1M l e k else k+1
  | none=>k+1
def ins (l:List Ev) (e:Ev):List Ev:=l.take (a1M l e l.length)++[e]++l.drop (a1M l e l.length)
theorem a3U (l:List Ev) (e:Ev):∀ k,a1M l e k≤k
 | 0=>Nat.le_refl _
 | k+1=>by
  unfold a1M
  cases l[k]? with
  | none=>simp [-bind_some]
  | some x =>
   by_cases h:a4D e x=true
   ·simp [-bind_some, h];have:=a3U l e k;omega
   ·simp [-bind_some, h]
theorem l72 (l:List Ev) (d:D) (e:Ev) (h:Hp) (hd:SlOf 10 evr l d) (hl:l.length≤1000000000):∀ k,k≤l.length→∀ a,∃ b,a0B (a5x d (.fptr (evr e))) [.int .i64 k,a] h=some (.ext 0,[.int .i64 (a1M l e k:Nat),b],h):=by
 intro k
 induction k with
 | zero =>
  intro _ a
  rw [a1i]
  exact ⟨_,by simp [-bind_some, a5x,a1M];rfl⟩
 | succ k ih =>
  intro hk a
  have hg:l[k]?=some l[k]:=c9W (by omega)
  have hp:(0:Int)<(k:Int)+1:=by omega
  have hw:IntKind.wrap .i64 (k:Int)=k:=wrap_i64 (by omega) (by omega)
  rw [a1i]
  by_cases hs:a4D e l[k]=true
  ·obtain ⟨b,ih⟩:=ih (by omega) (.bool true)
   refine ⟨b,?_⟩
   simp [-bind_some, a5x,a1M,hg,hs,hp,hw,evL,b5h hd,s85]
   simpa [-bind_some, a5x] using ih
  ·exact ⟨_,by simp [-bind_some, a5x,a1M,hg,hs,hp,hw,evL,b5h hd,s85];rfl⟩
theorem s72 (l:List Ev) (d:D) (e:Ev) (h:Hp) (hd:SlOf 10 evr l d) (hl:l.length≤1000000000):∃ d',R c1K [d,.agg (evr e)] h=some (d',h)∧SlOf 10 evr (ins l e) d':=by
 suffices Wp (R c1K [d,.agg (evr e)] h) (fun p=>p.2=h∧SlOf 10 evr (ins l e) p.1) by
  obtain ⟨⟨x,h'⟩,h1,rfl,h2⟩:=this
  exact ⟨x,h1,h2⟩
 rw [e72]
 obtain ⟨b,hlp⟩:=l72 l d e h hd hl l.length (Nat.le_refl _) .any
 have hp:=a3U l e l.length
 simp only [F72,a1I,bs,c9H,b2S hd,hlp,a0m,a0l,a0e]
 obtain ⟨y1,hs1,hy1⟩:=a8Y (T:=tab) (t:=a3Y) (i:=c1j) (j:=c1i) (id rfl) (id rfl) (id rfl) (id rfl) hd (k := .i64) (n:=(a1M l e l.length:Nat)) (by omega) (by omega)
 obtain ⟨y2,hs2,hy2⟩:=b8j (T:=tab) (t:=a3Y) (i:=c1j) (j:=c1i) (id rfl) (id rfl) (id rfl) (id rfl) hd (k := .i64) (n:=(a1M l e l.length:Nat)) (by omega) (by omega)
 rw [c9Q] at hy1 hy2
 simp only [hs1,hs2,bs]
 refine b8z (n0:=h.length) (Nat.le_refl _) (Own.nils _ _ _ _) (a2q _ hy1) (by simp;omega) fun x1 h1 ow1 len1 bel1 _ _=>?_
 have hb:a0A tab a3Y 1 [0] [.agg (evr e)]=some (.sl 10 true [evr e]):=by simp [-bind_some, evr]
 simp only [bs,evL,hb]
 refine b8z (by omega) ow1 (a1e _ _ _ _) (by simp;omega) fun x2 h2 ow2 len2 bel2 _ _=>?_
 dsimp only
 refine b8z (by omega) ow2 (a2q _ hy2) (by simp;omega) fun x3 h3 ow3 len3 bel3 _ _=>?_
 simp only [bs,a0r]
 rw [List.nil_append,show [evr e]=[e].map evr from rfl,← c9O,← c9O] at ow3
 have hsl:=a2f (n0:=h.length) (n:=3) ow3 (Nat.le_refl _) (fun a _=>b2i _ h3 2 a)
 rw [a1s rfl (a1j hsl fun a _=>b5X _ a) (by omega) (fun q hq=>((bel3 q hq).trans (bel2 q hq)).trans (bel1 q hq))]
 exact .some ⟨rfl,hsl⟩
def a6P (hst fil:Int):Int→List It→Int→Prop
 | a,[],b=>a=b
 | a,i::r,b=>ItOK hst fil a i∧a6P hst fil i.e.a3 r b
theorem a5P (hst fil:Int):∀ (l:List It) (a b:Int) (i:It),a6P hst fil a l b→ItOK hst fil b i→a6P hst fil a (l++[i]) i.e.a3
 | [],a,b,i,h,hi=>by
  simp only [a6P] at h
  subst h
  exact ⟨hi,rfl⟩
 | x::r,a,b,i,h,hi=>⟨h.1,a5P hst fil r _ b i h.2 hi⟩
theorem a8a (hst fil:Int):∀ (l:List It) (a b:Int),a6P hst fil a l b→∀ i∈l,∃ f,ItOK hst fil f i
 | [],_,_,_,i,hi=>by cases hi
 | x::r,a,b,h,i,hi=>by
  rcases d0c.1 hi with rfl | hi
  ·exact ⟨_,h.1⟩
  ·exact a8a hst fil r _ _ h.2 i hi
def FilesOK (host most:Int) (P:List It→D→Prop) (ps:List (List It × D)):Prop:=∀ (f:Nat) p,ps[f]?=some p→P p.1 p.2∧p.1.length≤most∧∃ po,a6P host (5+f) 0 p.1 po
theorem FilesOK.mono {host most:Int} {P P':List It→D→Prop} {ps:List (List It × D)} (h:FilesOK host most P ps) (k:∀ a b,P a b→P' a b):FilesOK host most P' ps:=fun f p hp=>⟨k _ _ (h f p hp).1,(h f p hp).2⟩
theorem l71 {o N:Nat} (host most f:Int) (n0:Nat) (ho:o<n0) (hN:n0≤N) (ds0:List D) (hds0:nth 1 ds0 = .int .i64 f) (hf0:0≤f) (hf1:f≤1000) {β:Type} {K:Out→Option β} {Q:β→Prop} (g:Hp) (n:Nat) (hn:n≤1000) (a b:D) (hc:CD g o) (hNg:N≤g.length)
  (k:∀ g' its po x a b c,Own g' N a2j 11 (its.map itr) x→CD g' o→Grow N o g g'→a6P host (5+f) 0 its po→its.length=n→Wp (K (.ext 2,[x,.int .i64 po,a,b,c],g')) Q) :
  Wp ((a0B (b1t (.ptr o 0 0) (.int .i64 host) ds0) [.nils,.int .i64 0,.int .i64 n,a,b] g).bind K) Q:=by
 refine Wp.loop (fun k ds g'=>∃ x po a b,∃ its:List It,ds=[x,.int .i64 po,.int .i64 k,a,b]∧Own g' N a2j 11 (its.map itr) x∧CD g' o∧Grow N o g g'∧a6P host (5+f) 0 its po∧0≤po∧po≤108*its.length∧its.length+k=n)
  (fun r=>r.1 = .ext 2∧∃ x po a b c,∃ its:List It,r.2.1=[x,.int .i64 po,a,b,c]∧Own r.2.2 N a2j 11 (its.map itr) x∧CD r.2.2 o∧Grow N o g r.2.2∧a6P host (5+f) 0 its po∧its.length=n)
  n ⟨.nils,0,a,b,[],rfl,Own.nils _ _ _ _,hc,.refl _ _ _,rfl,by omega,by simp,by simp⟩ ?_ ?_
 ·rintro k ds g' ⟨x,po,a,b,its,rfl,ow,hc',hg,hit,hp0,hp1,hk⟩
  simp only [b1t,a0e,a0g,bs,a1m,hds0,a0q,wrap_i64 (n:=5+f) (by omega) (by omega)]
  refine Wp.dif ?_ ?_
  ·intro h0
   have h0:0<(k:Int):=by simpa using h0
   obtain ⟨i,g1,e1,c1,s1,hi⟩:=d84 hc' host (5+f) po hp0 (by omega)
   have hcl:=a6A _ _ _ hi.ch
   have hn3:=hi.n3
   have hn1:=hi.n1
   have ow1:=ow.same s1 (by omega)
   refine Wp.step e1 ?_
   simp only [c2m,bs,c8H,c6k]
   refine c1w (by have:=hg.1;have:=s1.1;omega) ow1 (a1e _ _ _ _) (by simp;omega) fun x' g2 ow2 len bel _ _=>?_
   have hto:=c9p i g2
   cases hfa:a0b tab a2j 1 (.fptr (itr i)) with
   | none=>rw [hfa] at hto;cases hto
   | some p =>
    rw [hfa] at hto
    simp only [bs] at hto
    cases hfb:a0b tab a0R 3 p with
    | none=>rw [hfb] at hto;cases hto
    | some q =>
     rw [hfb] at hto
     simp only [bs] at hto
     have hk1:IntKind.wrap .i64 ((k:Int) - 1)=((k - 1:Nat):Int):=by
      rw [wrap_i64 (by omega) (by omega)];omega
     simp only [bs,hfa,hfb,hto,a0G,hk1]
     refine .some (.inl ⟨rfl,k - 1,by omega,x',i.e.a3,_,_,its++[i],rfl,by rw [c9O];exact ow2,c1.keep (bel o (by omega)),(hg.trans s1.grow).trans ⟨len,fun q hq _=>bel q hq⟩,a5P _ _ _ _ _ _ hit hi,by omega,by simp;omega,by simp;omega⟩)
  ·intro h0
   have h0:¬ 0<(k:Int):=by simpa using h0
   exact .some (.inr ⟨by simp,rfl,x,po,_,_,_,its,rfl,ow,hc',hg,hit,by omega⟩)
 ·rintro ⟨ex,ds,g'⟩ ⟨rfl,x,po,a,b,c,its,rfl,ow,hc',hg,hit,hn⟩
  exact k g' its po x a b c ow hc' hg hit hn
theorem c6n {h:Hp} {o:Nat} (hc:CD h o) (host most:Int) (hm0:0≤most) (hm1:most≤100):∃ x h',R c0u [.ptr o 0 0,.int .i64 host,.int .i64 most] h=some (x,h')∧CD h' o∧Same o h h'∧∃ ps:List (List It × D),SlOf 1 (fun p=>[p.2]) ps x∧ps.length≤3∧1≤ps.length∧FilesOK host most (SlOf 11 itr) ps:=by
 suffices Wp (R c0u [.ptr o 0 0,.int .i64 host,.int .i64 most] h) (fun p=>CD p.2 o∧Same o h p.2∧∃ ps:List (List It × D),SlOf 1 (fun p=>[p.2]) ps p.1∧ps.length≤3∧1≤ps.length∧FilesOK host most (SlOf 11 itr) ps) by
  obtain ⟨⟨x,h'⟩,h1,h2⟩:=this
  exact ⟨x,h',h1,h2⟩
 have ho:=hc.lt
 rw [e71]
 simp only [F71,bs,c9H]
 refine Wp.loop (fun k ds g=>∃ x a b c d e f',∃ f:Nat,∃ ps:List (List It × D),ds=[x,.int .i64 f,a,b,c,d,e,f']∧St h o g∧Own g h.length a2r 1 (ps.map fun p=>[p.2]) x∧ps.length=f∧k+f=3∧FilesOK host most (fun l d=>Own g h.length a2j 11 (l.map itr) d) ps)
  (fun r=>r.1 = .ext 0∧∃ x a b c d e f' h',∃ ps:List (List It × D),r.2.1=[x,a,b,c,d,e,f',h']∧St h o r.2.2∧Own r.2.2 h.length a2r 1 (ps.map fun p=>[p.2]) x∧ps.length≤3∧1≤ps.length∧FilesOK host most (fun l d=>Own r.2.2 h.length a2j 11 (l.map itr) d) ps)
  3 ⟨.nils,.any,.any,.any,.any,.any,.any,0,[],rfl,.refl hc,Own.nils _ _ _ _,rfl,rfl,fun f p hp=>by simp at hp⟩ ?_ ?_
 ·rintro k ds g ⟨x,a,b,c,d,e,f',f,ps,rfl,S,ow,hpf,hk,hps⟩
  simp only [b5I,a0e,a0g,bs,c9H]
  obtain ⟨v,g1,e1,c1,s1,v0,v1⟩:=a1v S.cd 3 (by omega) (by omega)
  have S1:=S.next c1 s1
  have ow1:=ow.same s1 ho
  have hps1:FilesOK host most (fun l d=>Own g1 h.length a2j 11 (l.map itr) d) ps:=hps.mono fun _ _ w=>w.same s1 ho
  refine Wp.step e1 ?_
  simp only [a2t,bs]
  refine Wp.dif ?_ ?_
  ·intro h0
   have h0:(f:Int)≤v:=by simpa using h0
   simp only [a0q,bs,wrap_i64 (n:=most+1) (by omega) (by omega)]
   obtain ⟨n,g2,e2,c2,s2,n0,n1⟩:=a1v c1 (most+1) (by omega) (by omega)
   have S2:=S1.next c2 s2
   have ow2:=ow1.same s2 ho
   have hps2:FilesOK host most (fun l d=>Own g2 h.length a2j 11 (l.map itr) d) ps:=hps1.mono fun _ _ w=>w.same s2 ho
   refine Wp.step e2 ?_
   simp only [bs]
   rw [← Int.toNat_of_nonneg n0]
   refine l71 (N:=g2.length) host most f h.length ho S2.le _ (by rfl) (by omega) (by omega) g2 n.toNat (by omega) _ _ c2 (Nat.le_refl _) ?_
   intro g3 its po y a' b' c' owy c3 gr hit hlen
   have bel:∀ q,q<g2.length→q≠o→g3[q]?=g2[q]?:=gr.2
   have S3:St h o g3:=⟨ho,c3,S2.gr.trans ⟨gr.1,fun q hq hn=>bel q (by have:=S2.le;omega) hn⟩⟩
   have ow3:Own g3 h.length a2r 1 (ps.map fun p=>[p.2]) x:=ow2.keep fun q hq hin=>bel q (ow2.lt hin).2 (by omega)
   have hps3:FilesOK host most (fun l d=>Own g3 h.length a2j 11 (l.map itr) d) ps:=hps2.mono fun _ _ w=>w.keep fun q hq hin=>bel q (w.lt hin).2 (by omega)
   have owy':Own g3 h.length a2j 11 (its.map itr) y:=owy.from S2.le
   simp only [a0m,a0l,a0e,a0g,bs,b6X y (a2z owy)]
   have hw:=wi_ f (by omega)
   refine c1v S3.le ow3 (a1e _ _ _ _) (by simp;omega) fun x' g4 ow4 len bel4 keep4 _=>?_
   simp only [bs,hw]
   have kp:∀ (l:List It) (d:D),Own g3 h.length a2j 11 (l.map itr) d→Own g4 h.length a2j 11 (l.map itr) d:=fun l d w=>w.keep fun q hq hin=>keep4 q (w.lt hin).2 (b7T w ow3 (by decide) hin)
   refine .some (.inl ⟨rfl,k - 1,by omega,x',_,_,_,_,_,_,f+1,ps++[(its,y)],rfl,S3.app len bel4,by rw [c9O];exact ow4,by simp;omega,by omega,fun j p hp=>?_⟩)
   rcases Nat.lt_or_ge j ps.length with hj | hj
   ·rw [d0g hj] at hp
    exact ⟨kp _ _ (hps3 j p hp).1,(hps3 j p hp).2⟩
   ·rw [List.getElem?_append_right hj] at hp
    have hj0:j - ps.length=0:=by
     have:=(c9X.1 hp).1
     simpa using this
    rw [hj0] at hp
    simp at hp
    subst hp
    have hjf:j=f:=by omega
    subst hjf
    exact ⟨kp _ _ owy',by simp only;omega,po,hit⟩
  ·intro h0
   have h0:¬ (f:Int)≤v:=by simpa using h0
   exact .some (.inr ⟨by simp,rfl,x,_,_,_,_,_,_,_,ps,rfl,S1,ow1,by omega,by omega,hps1⟩)
 ·rintro ⟨ex,ds,g⟩ ⟨rfl,x,a,b,c,d,e,f',h',ps,rfl,S,ow,hpl,hpl1,hps⟩
  simp only [a0m,a0l,a0e,bs,a0r]
  have hfz:SlOf 1 (fun p:List It × D=>[p.2]) (ps.map fun p=>(p.1,frz h.length g 3 p.2)) (frz h.length g 4 x):=by
   rcases ow with ⟨rfl,hr⟩ | ⟨ob,hob,rfl,hgo⟩
   ·have:ps=[]:=by simpa using hr
    subst this
    exact .inl ⟨rfl,rfl⟩
   ·right
    refine ⟨false,?_⟩
    rw [a8H hob hgo]
    simp [-bind_some]
    rw [List.take_of_length_le (by simp)]
    rfl
  have hps':FilesOK host most (SlOf 11 itr) (ps.map fun p=>(p.1,frz h.length g 3 p.2)):=by
   intro j p hp
   rw [c9U] at hp
   cases hq:ps[j]? with
   | none=>rw [hq] at hp;cases hp
   | some q =>
    rw [hq] at hp
    simp at hp
    subst hp
    exact ⟨a2f (hps j q hq).1 (Nat.le_refl _) fun a _=>b7C _ _ _ a,(hps j q hq).2⟩
  obtain ⟨h',hs,hcd,hsm⟩:=S.scope rfl (a1j hfz fun a ha d hd=>by
   simp at hd
   subst hd
   obtain ⟨j,hj⟩:=List.getElem?_of_mem ha
   exact a1j (hps' j a hj).1 fun i _=>b7D _ i)
  exact ⟨_,hs,hcd,hsm,_,hfz,by simpa using hpl,by simpa using hpl1,hps'⟩
theorem d71 {h:Hp} {o:Nat} (hc:CD h o) (host most:Int) (hm0:0≤most) (hm1:most≤100):∃ x h',R c0u [.ptr o 0 0,.int .i64 host,.int .i64 most] h=some (x,h')∧CD h' o∧Same o h h'∧∃ ps:List (List It × D),SlOf 1 (fun p=>[p.2]) ps x∧ps.length≤3∧FilesOK host most (SlOf 11 itr) ps:=by
 obtain ⟨x,h',a,b,c,ps,d,e,_,f⟩:=c6n hc host most hm0 hm1
 exact ⟨x,h',a,b,c,ps,d,e,f⟩
def b8V (e:Ev):Prop:=ItOK e.a0 e.a1 e.a2 ⟨[],e⟩∧1≤e.a0∧e.a0≤2∧5≤e.a1∧e.a1≤7
def a2T (l:List Ev):Prop:=(∀ e∈l,b8V e)∧l.Pairwise fun a b=>a.a5≤b.a5
theorem b5j {a b:Ev} (h:a4D a b=true):a.a5≤b.a5:=by
 unfold a4D at h
 split at h
 ·omega
 ·have:a.a5<b.a5:=by simpa using h
  omega
theorem a8h {a b:Ev} (h:¬ a4D a b=true):b.a5≤a.a5:=by
 unfold a4D at h
 split at h
 ·omega
 ·have:¬ a.a5<b.a5:=by simpa using h
  omega
theorem a3T (l:List Ev) (e:Ev):∀ k,k≤l.length→∀ j x,a1M l e k=j+1→l[j]?=some x→x.a5≤e.a5
 | 0,_,j,x,h,_=>by simp [-bind_some, a1M] at h
 | k+1,hk,j,x,h,hx=>by
  have hg:l[k]?=some l[k]:=c9W (by omega)
  simp only [a1M,hg] at h
  split at h
  ·exact a3T l e k (by omega) j x h hx
  ·rename_i hs
   have:k=j:=by omega
   subst this
   rw [hg] at hx
   injection hx with hx
   subst hx
   exact a8h hs
theorem a4q (l:List Ev) (e:Ev):∀ k,k≤l.length→∀ j x,a1M l e k≤j→j<k→l[j]?=some x→e.a5≤x.a5
 | 0,_,j,x,h,hj,_=>by omega
 | k+1,hk,j,x,h,hj,hx=>by
  have hg:l[k]?=some l[k]:=c9W (by omega)
  simp only [a1M,hg] at h
  split at h
  ·rename_i hs
   rcases Nat.lt_or_ge j k with hjk | hjk
   ·exact a4q l e k (by omega) j x h hjk hx
   ·have:k=j:=by omega
    subst this
    rw [hg] at hx
    injection hx with hx
    subst hx
    exact b5j hs
  ·omega
theorem b7z (l:List Ev) (e:Ev):(ins l e).length=l.length+1:=by
 have:=a3U l e l.length
 simp [-bind_some, ins];omega
theorem a5O {l:List Ev} {e:Ev} (hl:a2T l) (he:b8V e):a2T (ins l e):=by
 have hp:=a3U l e l.length
 refine ⟨fun x hx=>?_,?_⟩
 ·simp only [ins,List.append_assoc,d0d,List.mem_singleton] at hx
  rcases hx with hx | rfl | hx
  ·exact hl.1 x (List.mem_of_mem_take hx)
  ·exact he
  ·exact hl.1 x (List.mem_of_mem_drop hx)
 ·have hbef:∀ x∈l.take (a1M l e l.length),x.a5≤e.a5:=by
    intro x hx
    obtain ⟨i,hi⟩:=List.getElem?_of_mem hx
    rw [List.getElem?_take] at hi
    split at hi
    ·rename_i hlt
     obtain ⟨j,hj⟩:∃ j,a1M l e l.length=j+1:=⟨a1M l e l.length - 1,by omega⟩
     have hgj:l[j]?=some l[j]:=c9W (by omega)
     have h1:=a3T l e l.length (Nat.le_refl _) j _ hj hgj
     rcases Nat.lt_or_ge i j with hij | hij
     ·have h2:=List.pairwise_iff_getElem.1 hl.2 i j (by omega) (by omega) hij
      have:l[i]=x:=by
       have:=c9W (l:=l) (i:=i) (by omega)
       rw [this] at hi
       injection hi
      rw [this] at h2
      exact Int.le_trans h2 h1
     ·have:i=j:=by omega
      subst this
      rw [hgj] at hi
      injection hi with hi
      rw [← hi];exact h1
    ·cases hi
  have haft:∀ x∈l.drop (a1M l e l.length),e.a5≤x.a5:=by
   intro x hx
   obtain ⟨i,hi⟩:=List.getElem?_of_mem hx
   rw [List.getElem?_drop] at hi
   have hlt:=(c9X.1 hi).1
   exact a4q l e l.length (Nat.le_refl _) _ x (by omega) hlt hi
  unfold ins
  rw [List.append_assoc,List.pairwise_append]
  refine ⟨hl.2.sublist (List.take_sublist _ _),?_,?_⟩
  ·rw [List.singleton_append,List.pairwise_cons]
   exact ⟨haft,hl.2.sublist (List.drop_sublist _ _)⟩
  ·intro a ha b hb
   rcases d0d.1 hb with hb | hb
   ·simp at hb;subst hb;exact hbef a ha
   ·exact Int.le_trans (hbef a ha) (haft b hb)
theorem c8F (ps:List (List It × D)) (d:D) (hd:SlOf 1 (fun p=>[p.2]) ps d) (i:Nat) (ds1:List D) (hds:nth 1 ds1 = .int .i64 i) (its:List It) (y:D) (hi:ps[i]?=some (its,y)) (hy:SlOf 11 itr its y) (hln:its.length≤100)
  (hok:∀ it∈its,it.r=[]→b8V it.e) (l:List Ev) (x a b:D) (hx:SlOf 10 evr l x) (hl:a2T l) (hll:l.length≤100000) (g:Hp) {β:Type} {K:Out→Option β} {Q:β→Prop}
  (cont:∀ l' x' c a b,SlOf 10 evr l' x'→a2T l'→l'.length≤l.length+its.length→Wp (K (.ext 4,[x',c,a,b],g)) Q) :
  Wp ((a0B (b1s d ds1) [x,.int .i64 0,a,b] g).bind K) Q:=by
 refine Wp.loop (fun k ds g'=>g'=g∧∃ x a b,∃ j:Nat,∃ l':List Ev,ds=[x,.int .i64 j,a,b]∧SlOf 10 evr l' x∧a2T l'∧l'.length≤l.length+j∧k+j=its.length)
  (fun r=>r.1 = .ext 4∧r.2.2=g∧∃ x c a b,∃ l':List Ev,r.2.1=[x,c,a,b]∧SlOf 10 evr l' x∧a2T l'∧l'.length≤l.length+its.length)
  its.length ⟨rfl,x,a,b,0,l,rfl,hx,hl,by omega,by omega⟩ ?_ ?_
 ·rintro k ds g' ⟨rfl,x,a,b,j,l',rfl,hx,hl',hlen,hk⟩
  have hix:a0a tab a3C d (.int .i64 i)=some (.fptr [y]):=by
   rw [c0I hd];simp [-bind_some, hi]
  simp only [b1s,a0e,a0g,bs,hds,hix,c4e,b7O hy,a0n,c9H]
  refine Wp.dif ?_ ?_
  ·intro h0
   have hj:j<its.length:=by
    have:(j:Int)<its.length:=by simpa using h0
    omega
   have hg:its[j]?=some its[j]:=c9W hj
   generalize hit:its[j]=it at hg
   have hiy:a0a tab a2r y (.int .i64 j)=some (.fptr (itr it)):=by
    rw [c0J hy];simp [-bind_some, hg]
   have hw:=wi_ j (by omega)
   simp only [hiy,bs,c8y,c8A,c8z,evL,a7A]
   refine Wp.join (P:=fun r=>∃ x,∃ l2:List Ev,r=(.nrm,[x],g')∧SlOf 10 evr l2 x∧a2T l2∧l2.length≤l.length+(j+1)) ?_ ?_ ?_
   ·intro hr
    have hr:it.r=[]:=by simpa using hr
    obtain ⟨d',e1,hd'⟩:=s72 l' x it.e g' hx (by omega)
    simp only [e1,bs]
    exact .some ⟨d',_,rfl,hd',a5O hl' (hok it (c9V hg) hr),by rw [b7z];omega⟩
   ·intro _
    exact .some ⟨x,l',rfl,hx,hl',by omega⟩
   ·rintro _ ⟨x,l2,rfl,hx,hl2,hlen2⟩
    simp only [a0x,a0l,a0e,bs,a0q,hw]
    exact .some (.inl ⟨rfl,k - 1,by omega,rfl,x,_,_,j+1,l2,rfl,hx,hl2,hlen2,by omega⟩)
  ·intro h0
   exact .some (.inr ⟨by simp,rfl,rfl,x,_,_,_,l',rfl,hx,hl',by omega⟩)
 ·rintro ⟨ex,ds,g'⟩ ⟨rfl,rfl,x,c,a,b,l',rfl,hx,hl',hlen⟩
  exact cont l' x c a b hx hl' hlen
theorem c8E (ps:List (List It × D)) (d:D) (hd:SlOf 1 (fun p=>[p.2]) ps d) (hln:ps.length≤3) (hok:∀ p∈ps,SlOf 11 itr p.1 p.2∧p.1.length≤100∧∀ it∈p.1,it.r=[]→b8V it.e)
  (l:List Ev) (x a b c e:D) (hx:SlOf 10 evr l x) (hl:a2T l) (hll:l.length≤10000) (g:Hp) {β:Type} {K:Out→Option β} {Q:β→Prop}
  (cont:∀ l' x' f a b c e,SlOf 10 evr l' x'→a2T l'→l'.length≤l.length+300→Wp (K (.ext 2,[x',f,a,b,c,e],g)) Q) :
  Wp ((a0B (b1r d) [x,.int .i64 0,a,b,c,e] g).bind K) Q:=by
 refine Wp.loop (fun k ds g'=>g'=g∧∃ x a b c e,∃ j:Nat,∃ l':List Ev,ds=[x,.int .i64 j,a,b,c,e]∧SlOf 10 evr l' x∧a2T l'∧l'.length≤l.length+100*j∧k+j=ps.length)
  (fun r=>r.1 = .ext 2∧r.2.2=g∧∃ x f a b c e,∃ l':List Ev,r.2.1=[x,f,a,b,c,e]∧SlOf 10 evr l' x∧a2T l'∧l'.length≤l.length+300)
  ps.length ⟨rfl,x,a,b,c,e,0,l,rfl,hx,hl,by omega,by omega⟩ ?_ ?_
 ·rintro k ds g' ⟨rfl,x,a,b,c,e,j,l',rfl,hx,hl',hlen,hk⟩
  simp only [b1r,a0e,a0g,bs,b7N hd,a0n,c9H]
  refine Wp.dif ?_ ?_
  ·intro h0
   have hj:j<ps.length:=by
    have:(j:Int)<ps.length:=by simpa using h0
    omega
   have hg:ps[j]?=some ps[j]:=c9W hj
   generalize hit:ps[j]=p at hg
   obtain ⟨hy,hpl,hpe⟩:=hok p (c9V hg)
   have hw:=wi_ j (by omega)
   refine c8F ps d hd j _ rfl p.1 p.2 (by rw [hg]) hy hpl hpe l' x _ _ hx hl' (by omega) g' ?_
   intro l2 x2 c2 a2 b2 hx2 hl2 hlen2
   simp only [a0m,a0x,a0l,a0e,a0g,bs,a0q,hw]
   exact .some (.inl ⟨rfl,k - 1,by omega,rfl,x2,_,_,_,_,j+1,l2,rfl,hx2,hl2,by omega,by omega⟩)
  ·intro h0
   exact .some (.inr ⟨by simp,rfl,rfl,x,_,_,_,_,_,l',rfl,hx,hl',by omega⟩)
 ·rintro ⟨ex,ds,g'⟩ ⟨rfl,rfl,x,f,a,b,c,e,l',rfl,hx,hl',hlen⟩
  exact cont l' x f a b c e hx hl' hlen
theorem d48 {h:Hp} {o:Nat} (hc:CD h o) (most:Int) (hm0:0≤most) (hm1:most≤100):∃ x h',R c1I [.ptr o 0 0,.int .i64 most] h=some (x,h')∧CD h' o∧Same o h h'∧∃ l:List Ev,SlOf 10 evr l x∧a2T l∧l.length≤600:=by
 suffices Wp (R c1I [.ptr o 0 0,.int .i64 most] h) (fun p=>CD p.2 o∧Same o h p.2∧∃ l:List Ev,SlOf 10 evr l p.1∧a2T l∧l.length≤600) by
  obtain ⟨⟨x,h'⟩,h1,h2⟩:=this
  exact ⟨x,h',h1,h2⟩
 rw [e48]
 simp only [F48,bs,c9H]
 refine Wp.loop (fun k ds g=>∃ x a b c d e f' g',∃ j:Nat,∃ l:List Ev,ds=[x,.int .i64 j,a,b,c,d,e,f',g']∧CD g o∧Same o h g∧SlOf 10 evr l x∧a2T l∧l.length+300≤300*j∧k+j=3∧1≤j)
  (fun r=>r.1 = .ext 0∧∃ x a b c d e f' g' h',∃ l:List Ev,r.2.1=[x,a,b,c,d,e,f',g',h']∧CD r.2.2 o∧Same o h r.2.2∧SlOf 10 evr l x∧a2T l∧l.length≤600)
  2 ⟨.nils,.any,.any,.any,.any,.any,.any,.any,1,[],rfl,hc,.refl _ _,SlOf.nils _ _,⟨by simp,by simp⟩,by simp,rfl,by omega⟩ ?_ ?_
 ·rintro k ds g ⟨x,a,b,c,d,e,f',g',j,l,rfl,hc,hs,hx,hl,hlen,hk,hj⟩
  simp only [b5H,a0e,a0g,bs,c9H]
  obtain ⟨v,g1,e1,c1,s1,v0,v1⟩:=a1v hc 2 (by omega) (by omega)
  refine Wp.step e1 ?_
  simp only [a0q,wrap_i64 (n:=1+v) (by omega) (by omega),a2t,bs]
  refine Wp.dif ?_ ?_
  ·intro h0
   have h0:(j:Int)≤1+v:=by simpa using h0
   obtain ⟨y,g2,e2,c2,s2,ps,hy,hpl,hps⟩:=d71 c1 j most hm0 hm1
   refine Wp.step e2 ?_
   simp only [bs]
   have hok:∀ p∈ps,SlOf 11 itr p.1 p.2∧p.1.length≤100∧∀ it∈p.1,it.r=[]→b8V it.e:=by
    intro p hp
    obtain ⟨f,hf⟩:=List.getElem?_of_mem hp
    obtain ⟨h1,h2,po,h3⟩:=hps f p hf
    refine ⟨h1,by omega,fun it hit hr=>?_⟩
    obtain ⟨fr,hio⟩:=a8a _ _ _ _ _ h3 it hit
    have hf3:=(c9X.1 hf).1
    have e0:=hio.host
    have e1:=hio.file
    have e2:=hio.fr
    refine ⟨?_,by omega,by omega,by omega,by omega⟩
    have:(⟨[],it.e⟩:It)=it:=by cases it;simp at hr;simp [-bind_some, hr]
    rw [this,e0,e1,e2];exact hio
   refine c8E ps y hy hpl hok l x _ _ _ _ hx hl (by omega) g2 ?_
   intro l2 x2 f2 a2 b2 c3 e3 hx2 hl2 hlen2
   have hw:=wi_ j (by omega)
   simp only [a0m,a0x,a0l,a0e,a0g,bs,a0q,hw]
   exact .some (.inl ⟨rfl,k - 1,by omega,x2,_,_,_,_,_,_,_,j+1,l2,rfl,c2,(hs.trans s1).trans s2,hx2,hl2,by omega,by omega,by omega⟩)
  ·intro h0
   exact .some (.inr ⟨by simp,rfl,x,_,_,_,_,_,_,_,_,l,rfl,c1,hs.trans s1,hx,hl,by omega⟩)
 ·rintro ⟨ex,ds,g⟩ ⟨rfl,x,a,b,c,d,e,f',g',h',l,rfl,hc,hs,hx,hl,hlen⟩
  simp only [a0m,a0l,a0e,bs,a0r]
  exact .some ⟨hc,hs,l,hx,hl,hlen⟩
theorem s99 (n:Int) (h:Hp):R c1P [.int .i64 n] h=some (.bool false,h):=by
 rw [e99]
 simp [-bind_some, F99]
def a4x (a b:Int):Int:=if a<b then -1 else if b<a then 1 else 0
theorem s90 (a b:Int) (h:Hp):R c0w [.int .i64 a,.int .i64 b] h=some (.int .i64 (a4x a b),h):=by
 rw [e90]
 simp [-bind_some, F90,s99,a4x]
 by_cases h0:a<b
 ·simp [-bind_some, h0]
 ·by_cases h1:b<a <;> simp [-bind_some, h0,h1]
theorem c6g (t:Nat) (s u:Str):a0j tab .gtr t (.str s) (.str u)=some (.bool (!(Op.bytesLess s u||s==u))):=id rfl
theorem a6v {T:Tab} {t e:Nat} {i j:TI} (ht:T t=Option.some i) (hi:i.td = .sl e) (he:T e=Option.some j) (hz:0<j.sz) {h:Hp} {ys:List (List D)} {y:D} (hy:a0L h j.sz y=Option.some ys) (hl:lim ys.length j.by_=true) :
  ∃ x' h',a0p T h t t (.sl j.sz true []) y=Option.some (x',h')∧h.length≤h'.length∧(∀ q,q<h.length→h'[q]?=h[q]?)∧((x' = .sl j.sz true []∧ys=[])∨Own h' h.length e j.sz ys x'):=by
 have hz':Nat.blt 0 j.sz=true:=Nat.ble_eq_true_of_le hz
 have hs:a7C h i j y=Option.some ys:=by simp [-bind_some, a7C,hi,hy]
 unfold a0p
 simp only [ht,hi,he,hz',hs]
 cases ys with
 | nil=>exact ⟨_,_,rfl,Nat.le_refl _,fun _ _=>rfl,.inl ⟨rfl,rfl⟩⟩
 | cons y1 yr =>
  simp only [c9Z,Nat.zero_add,hl,and_self,if_true,List.nil_append,true_and]
  exact ⟨_,_,rfl,by simp [-bind_some, a0K],fun q hq=>by simp only [a0K];rw [d0g hq],.inr (.inr ⟨h.length,Nat.le_refl _,rfl,by simp [-bind_some, a0K]⟩)⟩
def inr (n:Int):List D:=[.int .i64 n]
def orI:List Int→Int
 | []=>0
 | x::r=>if x=0 then orI r else x
theorem l89 (l:List Int) (d:D) (h:Hp) (hd:SlOf 1 inr l d) (hl:l.length≤9223372036854775807) {β:Type} (K:Out→Option β) (X:Int→Option β)
   (hX:∀ v r,K (.ret,.int .i64 v::r,h)=X v) (hY:∀ r,K (.ext 0,r,h)=X 0):∀ (suf pre:List Int),l=pre++suf→∀ n:Int,n=pre.length→∀ a b e f,
   (a0B (a7n (.int .i64 0) d (.int .i64 l.length)) [a,b,.int .i64 n,e,f] h).bind K=X (orI suf):=by
 intro suf
 induction suf with
 | nil =>
  rintro pre rfl n rfl a b e f
  rw [a1i]
  simp [-bind_some, a7n,hY,orI]
 | cons p suf ih =>
  rintro pre rfl n rfl a b e f
  have hw:IntKind.wrap .i64 ((pre.length:Int)+1)=(pre++[p]).length:=by
   rw [wrap_i64 (by omega) (by simp at hl;omega)];simp [-bind_some]
  have hlt:(pre.length:Int)<(pre++p::suf).length:=by simp;omega
  rw [a1i]
  generalize hL:pre++p::suf=L at *
  have hg:L[pre.length]?=some p:=by rw [← hL];exact a6M _ _ _
  by_cases hp:p=0
  ·subst hp
   have:=ih (pre++[0]) (by simp [-bind_some, ← hL]) _ rfl a (.int .i64 0) (.bool true) (.bool false)
   simp only [← hw] at this
   simp [-bind_some, a7n,b1a hd,hlt,hg,inr,orI]
   exact this
  ·simp [-bind_some, a7n,b1a hd,hlt,hg,inr,hp,hX,orI]
theorem s89 (l:List Int) (d:D) (h:Hp) (hd:SlOf 1 inr l d) (hl:l.length≤9223372036854775807):R c0v [d] h=some (.int .i64 (orI l),h):=by
 rw [e89]
 simp only [F89,bs,a8e hd,c9H]
 rw [l89 l d h hd hl _ (fun v=>some (.int .i64 v,h)) (fun v r=>by simp) (fun r=>by simp) l [] rfl 0 rfl]
structure Mrk where
 h:Int
 f:Int
 o:Int
 deriving DecidableEq
def c2s (a b:Mrk):Int:=orI [a4x a.h b.h,a4x a.f b.f]
theorem a3d (g:Hp) (T z:Nat) (rows:List (List D)):(a0K g T z rows).length=g.length+1:=by simp [-bind_some, a0K]
def dn {α:Type} (c:α→α→Int) (a:Nat):Nat→List α→List α
 | 0,l=>l
 | j+1,l=>match l[j+1]?,l[j]? with
  | some x,some y=>if a<j+1∧c x y<0 then dn c a j ((l.set (j+1) y).set j x) else l
  | _,_=>l
theorem b1Y {α:Type} (c:α→α→Int) (a:Nat):∀ (j:Nat) (l:List α),(dn c a j l).length=l.length
 | 0,l=>rfl
 | j+1,l=>by
  unfold dn
  split
  ·split
   ·rw [b1Y c a j];simp [-bind_some]
   ·rfl
  ·rfl
def isr {α:Type} (c:α→α→Int) (a:Nat):Nat→Nat→List α→List α
 | _,0,l=>l
 | i,n+1,l=>isr c a (i+1) n (dn c a i l)
theorem a2P {α:Type} (f:α→List D) (l:List α) (i:Nat) (x:α):(l.map f).set i (f x)=(l.set i x).map f:=by rw [List.map_set]
structure Tal where
 h:Int
 r:Str
 n:Int
def a4y (a b:Str):Int:=if Op.bytesLess a b=true then -1 else if a=b then 0 else 1
theorem c8S (s:Str) (h:Hp):R b4Y [.str s] h=some (.bool false,h):=by
 rw [c6p]
 simp [-bind_some, c5G]
theorem s91 (a b:Str) (h:Hp):R c3L [.str a,.str b] h=some (.int .i64 (a4y a b),h):=by
 rw [e91]
 simp only [F91,bs,c8S,a0f,c9I,if_false,a7B,c6g,a4y,a0r]
 cases h0:Op.bytesLess a b
 ·by_cases h1:a=b <;> simp [-bind_some, h1]
 ·simp [-bind_some]
def c5L (a b:Tal):Int:=orI [a4x a.h b.h,a4y a.r b.r]
theorem a5y:∀ a:Str,Op.bytesLess a a=false
 | []=>rfl
 | x::a=>by simp [-bind_some, Op.bytesLess,a5y a]
theorem b6U:∀ {a b c:Str},Op.bytesLess a b=true→Op.bytesLess b c=true→Op.bytesLess a c=true
 | _,[],_,h,_=>by cases ‹Str› <;> simp [-bind_some, Op.bytesLess] at h
 | _,_::_,[],_,h=>by simp [-bind_some, Op.bytesLess] at h
 | [],_::_,_::_,_,_=>rfl
 | x::a,y::b,z::c,h,k=>by
  simp only [Op.bytesLess,Bool.or_eq_true,decide_eq_true_eq,Bool.and_eq_true,beq_iff_eq] at h k ⊢
  rcases h with h | ⟨rfl,h⟩
  ·rcases k with k | ⟨rfl,k⟩
   ·exact .inl (UInt8.lt_trans h k)
   ·exact .inl h
  ·rcases k with k | ⟨rfl,k⟩
   ·exact .inl k
   ·exact .inr ⟨rfl,b6U h k⟩
theorem b5R:∀ {a b:Str},Op.bytesLess a b=false→a≠b→Op.bytesLess b a=true
 | [],[],_,h=>absurd rfl h
 | [],_::_,h,_=>by simp [-bind_some, Op.bytesLess] at h
 | _::_,[],_,_=>rfl
 | x::a,y::b,h,k=>by
  simp only [Op.bytesLess,Bool.or_eq_false_iff,decide_eq_false_iff_not,Bool.and_eq_false_iff,beq_eq_false_iff_ne] at h
  simp only [Op.bytesLess,Bool.or_eq_true,decide_eq_true_eq,Bool.and_eq_true,beq_iff_eq]
  by_cases hxy:x=y
  ·subst hxy
   refine .inr ⟨rfl,b5R (h.2.resolve_left fun hh=>hh rfl) fun hh=>k (by rw [hh])⟩
  ·left
   have h1:=mt UInt8.lt_iff_toNat_lt.2 h.1
   have h2:x.toNat≠y.toNat:=fun hh=>hxy (UInt8.toNat_inj.1 hh)
   exact UInt8.lt_iff_toNat_lt.2 (by omega)
def kT (key:Tal):List Tal→Nat
 | []=>0
 | x::r=>if c5L x key<0 then kT key r+1 else 0
def c6j (l:List Tal) (hst:Int) (rule:Str) (n:Int) (k:Nat):List Tal:=match l[k]? with
 | some x=>if c5L x ⟨hst,rule,0⟩=0 then l.set k ⟨x.h,x.r,IntKind.wrap .i64 (x.n+n)⟩ else l.take k++[⟨hst,rule,IntKind.wrap .i64 (0+n)⟩]++l.drop k
 | none=>l.take k++[⟨hst,rule,IntKind.wrap .i64 (0+n)⟩]++l.drop k
def c2k (l:List Tal) (hst:Int) (rule:Str) (n:Int):List Tal:=if n<1 then l else c6j l hst rule n (kT ⟨hst,rule,0⟩ l)
def gr:List Ev→List Ev→Bool
 | [],_=>true
 | _::_,[]=>false
 | x::a,y::b=>if c5b x y=true then gr a b else gr (x::a) b
def sm (f:Tal→Int):List Tal→Int
 | []=>0
 | t::r=>f t+sm f r
def kM (key:Mrk):List Mrk→Nat
 | []=>0
 | x::r=>if c2s x key<0 then kM key r+1 else 0
def c8c (l:List Mrk) (key:Mrk):Bool:=match l[kM key l]? with
 | some x=>decide (c2s x key=0)
 | none=>false
def c0O (l:List Mrk) (hst fil:Int):Int:=match l[kM ⟨hst,fil,0⟩ l]? with
 | some x=>if c2s x ⟨hst,fil,0⟩=0 then x.o else 0
 | none=>0
def c8T (l:List Mrk) (m:Mrk):List Mrk:=if c8c l m=true then l.set (kM m l) m else l.take (kM m l)++[m]++l.drop (kM m l)
structure Bat where
 hs:Int
 nu:Int
 its:List It
 d:D
 hd:SlOf 11 itr its d
def c5N:Str:=[42]
def tkO (mk:Int) (i:It):Option (Option Nat) :=
 if i.e.a3≤mk then some none
 else if mk<i.e.a2 then none
 else if i.e.a2<mk then (if idx (fun l:Lin=>decide (l.off=mk)) 0 i.e.ls<1 then none else some (some (idx (fun l:Lin=>decide (l.off=mk)) 0 i.e.ls).toNat))
 else some (some 0)
def apS:List Mrk→List Tal→List It→Option (List Mrk × List Tal)
 | ms,ts,[]=>some (ms,ts)
 | ms,ts,i::r=>match tkO (c0O ms i.e.a0 i.e.a1) i with
  | none=>none
  | some none=>apS ms (c2k ts i.e.a0 c5N i.e.ls.length) r
  | some (some k)=>apS (c8T ms ⟨i.e.a0,i.e.a1,i.e.a3⟩) (c2k (c2k ts i.e.a0 c5N (k:Nat)) i.e.a0 i.r ((i.e.ls.length - k:Nat):Int)) r
def ap (s:List Mrk × List Tal) (b:Bat):List Mrk × List Tal:=(apS s.1 s.2 b.its).getD s
structure SOrd {α:Type} (c:α→α→Int) (S Pre:α→α→Prop):Prop where
 tr:∀ x y z,S x y→S y z→S x z
 lt:∀ x y,Pre x y→c y x<0→S y x
 ge:∀ x y,Pre x y→¬ c y x<0→S x y
theorem b3s {α:Type} {c:α→α→Int} {S Pre:α→α→Prop} (o:SOrd c S Pre) {A1 A2:List α} {x:α} (hA:(A1++A2).Pairwise S) (hp:∀ y∈A1++A2,Pre y x)
  (h2:A2=[]∨∃ y r,A2=y::r∧c x y<0) (h1:A1=[]∨∃ y r,A1=r++[y]∧¬ c x y<0):(A1++x::A2).Pairwise S:=by
 rw [List.pairwise_append] at hA ⊢
 obtain ⟨p1,p2,p3⟩:=hA
 have q1:∀ a∈A1,S a x:=by
  rcases h1 with rfl | ⟨y,r,rfl,hy⟩
  ·intro a ha;cases ha
  ·intro a ha
   have hyx:S y x:=o.ge y x (hp y (by simp)) hy
   rw [List.pairwise_append] at p1
   rcases d0d.1 ha with ha | ha
   ·exact o.tr _ _ _ (p1.2.2 a ha y (by simp)) hyx
   ·simp at ha;subst ha;exact hyx
 have q2:∀ b∈A2,S x b:=by
  rcases h2 with rfl | ⟨y,r,rfl,hy⟩
  ·intro a ha;cases ha
  ·intro b hb
   have hxy:S x y:=o.lt y x (hp y (by simp)) hy
   rw [List.pairwise_cons] at p2
   rcases d0c.1 hb with rfl | hb
   ·exact hxy
   ·exact o.tr _ _ _ hxy (p2.1 b hb)
 refine ⟨p1,List.pairwise_cons.2 ⟨q2,p2⟩,fun a ha b hb=>?_⟩
 rcases d0c.1 hb with rfl | hb
 ·exact q1 a ha
 ·exact p3 a ha b hb
theorem b1Z {α:Type} (c:α→α→Int) (P:List α) (x:α):∀ (R:List α) (Q:List α),∃ A1 A2,R.reverse=A1++A2∧dn c P.length (P.length+R.length) (P++R.reverse++x::Q)=P++A1++x::A2++Q ∧
  (A2=[]∨∃ y r,A2=y::r∧c x y<0)∧(A1=[]∨∃ y r,A1=r++[y]∧¬ c x y<0)
 | [], Q=>⟨[],[],rfl,by
   cases P with
   | nil=>simp [-bind_some, dn]
   | cons p P =>
    simp only [c9Y,c9Z,Nat.add_zero,List.reverse_nil,List.append_nil]
    unfold dn
    split
    ·rw [if_neg (by omega)];simp [-bind_some]
    ·simp [-bind_some],.inl rfl,.inl rfl⟩
 | y::R,Q=>by
  have g1:(P++(y::R).reverse++x::Q)[P.length+R.length+1]?=some x:=by
   rw [List.getElem?_append_right (by simp;omega)]
   simp [-bind_some]
   try (have:P.length+R.length+1 - (P.length+(R.length+1))=0:=by omega
        rw [this];rfl)
  have g0:(P++(y::R).reverse++x::Q)[P.length+R.length]?=some y:=by
   rw [d0g (by simp),List.getElem?_append_right (by omega)]
   simp [-bind_some]
  rw [c9Y,← Nat.add_assoc]
  unfold dn
  rw [g1,g0]
  simp only
  by_cases hc:c x y<0
  ·rw [if_pos ⟨by omega,hc⟩]
   have hs:((P++(y::R).reverse++x::Q).set (P.length+R.length+1) y).set (P.length+R.length) x=P++R.reverse++x::(y::Q):=by
    have e1:P++(y::R).reverse++x::Q=(P++R.reverse)++y::x::Q:=by simp
    rw [e1]
    have l1:(P++R.reverse).length=P.length+R.length:=by simp
    rw [List.set_append_right _ _ (by omega),List.set_append_right _ _ (by omega),l1]
    have:P.length+R.length+1 - (P.length+R.length)=1:=by omega
    rw [this,Nat.sub_self]
    rfl
   rw [hs]
   obtain ⟨A1,A2,h1,h2,h3,h4⟩:=b1Z c P x R (y::Q)
   refine ⟨A1,A2++[y],by simp [-bind_some, h1],by rw [h2];simp [-bind_some],?_,h4⟩
   rcases h3 with rfl | ⟨u,r,rfl,hu⟩
   ·exact .inr ⟨y,[],rfl,hc⟩
   ·exact .inr ⟨u,r++[y],rfl,hu⟩
  ·rw [if_neg (fun hh=>hc hh.2)]
   exact ⟨(y::R).reverse,[],by simp,by simp,.inl rfl,.inr ⟨y,R.reverse,by simp,hc⟩⟩
theorem c0j {α:Type} (c:α→α→Int) (P A Q:List α) (x:α):∃ A1 A2,A=A1++A2∧dn c P.length (P.length+A.length) (P++A++x::Q)=P++A1++x::A2++Q ∧
  (A2=[]∨∃ y r,A2=y::r∧c x y<0)∧(A1=[]∨∃ y r,A1=r++[y]∧¬ c x y<0):=by
 have:=b1Z c P x A.reverse Q
 simpa using this
theorem b2P {α:Type} {c:α→α→Int} {S Pre:α→α→Prop} (o:SOrd c S Pre) (P Q:List α):∀ (B A:List α),A.Pairwise S→(∀ x∈A,∀ y∈B,Pre x y)→B.Pairwise Pre →
  ∃ C,isr c P.length (P.length+A.length) B.length (P++A++B++Q)=P++C++Q∧C.Perm (A++B)∧C.Pairwise S
 | [],A,hA,_,_=>⟨A,by simp [-bind_some, isr],by simp,hA⟩
 | x::B,A,hA,hp,hB=>by
  rw [List.pairwise_cons] at hB
  obtain ⟨A1,A2,rfl,h2,h3,h4⟩:=c0j c P A (B++Q) x
  have hA':(A1++x::A2).Pairwise S:=b3s o hA (fun y hy=>hp y hy x (by simp)) h3 h4
  have e1:P++(A1++A2)++x::B++Q=P++(A1++A2)++x::(B++Q):=by simp
  have hpm:(A1++x::A2).Perm (x::(A1++A2)):=List.perm_middle
  obtain ⟨C,q1,q2,q3⟩:=b2P o P Q B (A1++x::A2) hA' (fun u hu v hv=>by
   rcases d0c.1 (hpm.mem_iff.1 hu) with rfl | hu
   ·exact hB.1 v hv
   ·exact hp u hu v (by simp [-bind_some, hv])) hB.2
  refine ⟨C,?_,q2.trans ?_,q3⟩
  ·rw [c9Y]
   unfold isr
   rw [e1,h2,← q1]
   have e2:P.length+(A1++A2).length+1=P.length+(A1++x::A2).length:=by simp;omega
   have e3:P++A1++x::A2++(B++Q)=P++(A1++x::A2)++B++Q:=by simp
   rw [e2,e3]
  ·have:((A1++x::A2)++B).Perm ((x::(A1++A2))++B):=hpm.append_right B
   refine this.trans ?_
   simpa using (List.perm_middle (l₁:=A1++A2) (l₂:=B) (a:=x)).symm
inductive Blk {α:Type} (S Pre:α→α→Prop) (k:Nat):List α→Prop
 | last (A:List α) (hl:A.length≤k) (hs:A.Pairwise S):Blk S Pre k A
 | cons (A Y:List α) (hl:A.length=k) (hs:A.Pairwise S) (hp:∀ x∈A,∀ y∈Y,Pre x y) (hY:Blk S Pre k Y):Blk S Pre k (A++Y)
theorem Blk.all {α:Type} {S Pre:α→α→Prop} {k:Nat} {l:List α} (h:Blk S Pre k l) (hl:l.length≤k):l.Pairwise S:=by
 cases h with
 | last _ _ hs=>exact hs
 | cons A Y hA hs hp hY =>
  have:Y=[]:=by
   simp at hl
   exact List.length_eq_zero_iff.1 (by omega)
  subst this
  simpa using hs
theorem Blk.fst {α:Type} {S Pre:α→α→Prop} {k:Nat} {l:List α} (h:Blk S Pre k l) (hl:k≤l.length):∃ A Y,l=A++Y∧A.length=k∧A.Pairwise S∧(∀ x∈A,∀ y∈Y,Pre x y)∧Blk S Pre k Y:=by
 cases h with
 | last _ h1 hs=>exact ⟨l,[],by simp,by omega,hs,by simp,.last [] (by simp) List.Pairwise.nil⟩
 | cons A Y hA hs hp hY=>exact ⟨A,Y,rfl,hA,hs,hp,hY⟩
def CtxB {α:Type} (S Pre:α→α→Prop) (k:Nat) (X Y:List α):Prop:=∀ Z:List α,Z.Perm Y→Blk S Pre k Z→Blk S Pre k (X++Z)
theorem CtxB.nil {α:Type} {S Pre:α→α→Prop} {k:Nat} {Y:List α}:CtxB S Pre k [] Y:=fun Z _ h=>h
theorem CtxB.step {α:Type} {S Pre:α→α→Prop} {k:Nat} {X A Y C:List α} (h:CtxB S Pre k X (A++Y)) (hC:C.Perm A) (hl:C.length=k) (hs:C.Pairwise S) (hp:∀ x∈A,∀ y∈Y,Pre x y):CtxB S Pre k (X++C) Y:=fun Z hZ hb=>by
 rw [List.append_assoc]
 exact h (C++Z) (hC.append hZ) (.cons C Z hl hs (fun x hx y hy=>hp x (hC.mem_iff.1 hx) y (hZ.mem_iff.1 hy)) hb)
theorem CtxB.done {α:Type} {S Pre:α→α→Prop} {k:Nat} {X Y Z:List α} (h:CtxB S Pre k X Y) (hZ:Z.Perm Y) (hl:Z.length≤k) (hs:Z.Pairwise S):Blk S Pre k (X++Z):=h Z hZ (.last Z hl hs)
theorem b6g {α:Type} {c:α→α→Int} {S Pre:α→α→Prop} (o:SOrd c S Pre) {A1 A2 B1 B2 C1 C2:List α} (hA:(A1++A2).Pairwise S) (hB:(B1++B2).Pairwise S) (hp:∀ x∈A1++A2,∀ y∈B1++B2,Pre x y)
  (h1:A1=[]∨B2=[]∨∃ x y r s,A1=r++[x]∧B2=y::s∧¬ c y x<0) (h2:A2=[]∨B1=[]∨∃ x y r s,B1=r++[y]∧A2=x::s∧c y x<0)
  (p1:C1.Perm (A1++B1)) (s1:C1.Pairwise S) (p2:C2.Perm (A2++B2)) (s2:C2.Pairwise S):(C1++C2).Perm ((A1++A2)++(B1++B2))∧(C1++C2).Pairwise S:=by
 rw [List.pairwise_append] at hA hB
 have x1:∀ x∈A1,∀ y∈B2,S x y:=by
  intro x hx y hy
  rcases h1 with rfl | rfl | ⟨u,v,r,s,rfl,rfl,huv⟩
  ·cases hx
  ·cases hy
  ·have huv:S u v:=o.ge u v (hp u (by simp) v (by simp)) huv
   have q1:x=u∨S x u:=by
    have:=hA.1
    rw [List.pairwise_append] at this
    rcases d0d.1 hx with hx | hx
    ·exact .inr (this.2.2 x hx u (by simp))
    ·simp at hx;exact .inl hx
   have q2:y=v∨S v y:=by
    have:=hB.2.1
    rw [List.pairwise_cons] at this
    rcases d0c.1 hy with rfl | hy
    ·exact .inl rfl
    ·exact .inr (this.1 y hy)
   rcases q1 with rfl | q1 <;> rcases q2 with rfl | q2
   ·exact huv
   ·exact o.tr _ _ _ huv q2
   ·exact o.tr _ _ _ q1 huv
   ·exact o.tr _ _ _ (o.tr _ _ _ q1 huv) q2
 have x2:∀ y∈B1,∀ x∈A2,S y x:=by
  intro y hy x hx
  rcases h2 with rfl | rfl | ⟨u,v,r,s,rfl,rfl,huv⟩
  ·cases hx
  ·cases hy
  ·have huv:S v u:=o.lt u v (hp u (by simp) v (by simp)) huv
   have q1:y=v∨S y v:=by
    have:=hB.1
    rw [List.pairwise_append] at this
    rcases d0d.1 hy with hy | hy
    ·exact .inr (this.2.2 y hy v (by simp))
    ·simp at hy;exact .inl hy
   have q2:x=u∨S u x:=by
    have:=hA.2.1
    rw [List.pairwise_cons] at this
    rcases d0c.1 hx with rfl | hx
    ·exact .inl rfl
    ·exact .inr (this.1 x hx)
   rcases q1 with rfl | q1 <;> rcases q2 with rfl | q2
   ·exact huv
   ·exact o.tr _ _ _ huv q2
   ·exact o.tr _ _ _ q1 huv
   ·exact o.tr _ _ _ (o.tr _ _ _ q1 huv) q2
 refine ⟨?_,List.pairwise_append.2 ⟨s1,s2,fun a ha b hb=>?_⟩⟩
 ·refine (p1.append p2).trans ?_
  have:(B1++(A2++B2)).Perm (A2++(B1++B2)):=by
   rw [← List.append_assoc,← List.append_assoc]
   exact List.perm_append_comm.append_right B2
  simpa using this.append_left A1
 ·rcases d0d.1 (p1.mem_iff.1 ha) with ha | ha <;> rcases d0d.1 (p2.mem_iff.1 hb) with hb | hb
  ·exact hA.2.2 a ha b hb
  ·exact x1 a ha b hb
  ·exact x2 a ha b hb
  ·exact hB.2.2 a ha b hb
def num (l:List Int):Int:=l.foldl (fun v b=>v*256+b) 0
theorem b5G (n:Int):IntKind.wrap .u8 n=n % 256:=by
 unfold IntKind.wrap
 simp [-bind_some, IntKind.signed,IntKind.bits,IntKind.min,IntKind.max]
abbrev Cur:=List Int × Bool
def b5B (s:Cur) (n:Int):List Int × Cur:=if s.2=true∨n<0∨(s.1.length:Int)<n then ([],(s.1,true)) else (s.1.take n.toNat,(s.1.drop n.toNat,false))
def b6r (s:Cur):Int × Cur:=(IntKind.wrap .i64 (num (b5B s 8).1),(b5B s 8).2)
def c5X (s:Cur):Int × Cur:=(IntKind.wrap .i64 (num (b5B s 4).1),(b5B s 4).2)
theorem a2h {α:Type} (A B:List α) (x y:α) (n:Nat) (hn:A.length=n):(A++x::B).set n y=A++y::B:=by
 subst hn
 rw [List.set_append_right _ _ (Nat.le_refl _)]
 simp [-bind_some]
theorem a0I {α:Type} (A B:List α) (x:α) (n:Nat) (hn:A.length=n):(A++x::B)[n]?=some x:=by
 subst hn
 simp [-bind_some]
theorem a3X {i j:Nat} (hi:i≤1000000000) (hj:j≤1000000000):IntKind.wrap .i64 ((i:Int)+j)=((i+j:Nat):Int)∧IntKind.wrap .u64 ((i+j:Nat):Int)=((i+j:Nat):Int)∧(((i+j:Nat):Int)).fdiv (2 ^ min ((1:Int).toNat) IntKind.u64.bits)=(((i+j) / 2:Nat):Int)∧IntKind.wrap .i64 (((i+j) / 2:Nat):Int)=(((i+j) / 2:Nat):Int):=by
 have m1:min ((1:Int).toNat) IntKind.u64.bits=1:=by decide
 have p1:(2:Int) ^ 1=2:=by decide
 refine ⟨?_,a4O (by omega) (by omega),?_,wrap_i64 (by omega) (by omega)⟩
 ·rw [wrap_i64 (by omega) (by omega)];omega
 ·rw [m1,p1,Int.fdiv_eq_ediv_of_nonneg _ (by omega)];omega
theorem c1Q {α:Type} (P A B:List α) (t:Nat) (h0:P.length≤t) (h1:t<P.length+A.length):(P++A++B)[t]?=A[t - P.length]?:=by
 rw [List.append_assoc,List.getElem?_append_right h0,d0g (by omega)]
theorem a6U {α:Type} {A:List α} {t:Nat} {y:α} (ht:0<t) (hy:A[t - 1]?=some y):∃ r,A.take t=r++[y]:=by
 refine ⟨A.take (t - 1),?_⟩
 conv=>lhs;rw [show t=(t - 1)+1 by omega,c9T,hy]
 simp [-bind_some]
theorem a4K {α:Type} {A:List α} {t:Nat} {y:α} (hy:A[t]?=some y):∃ r,A.drop t=y::r:=by
 obtain ⟨hn,hh⟩:=c9X.1 hy
 exact ⟨A.drop (t+1),by rw [List.drop_eq_getElem_cons hn,hh]⟩
theorem a4b (b1:Bool) (a c:Int) (t:Nat) {β:Type} (f:D→Option β):((gd (.bool b1) true (some (.int .i64 a))).bind fun t2=>(gd (.bool b1) true (some (.int .i64 c))).bind fun t3=>(gd (.bool b1) true (a0j tab .lss t t2 t3)).bind fun t4=>(a1g (.bool b1) t4 (.bool false)).bind f)=f (.bool (b1&&decide (a<c))):=by
 cases b1
 ·simp only [a1b,reduceCtorEq,if_false,bs,a0F,c9I,Bool.false_and]
 ·simp only [a1b,if_true,bs,a0F,a0n,Bool.true_and]
theorem Blk.len {α:Type} {S Pre:α→α→Prop} {k:Nat} {l:List α} (h:Blk S Pre k l) (hl:l.length<k):l.Pairwise S:=h.all (by omega)
theorem a8j {α:Type} {Pre:α→α→Prop} {A B:List α} (h:(A++B).Pairwise Pre):A.Pairwise Pre∧B.Pairwise Pre∧∀ x∈A,∀ y∈B,Pre x y:=List.pairwise_append.1 h
structure Rw where
 k:List Str
 kd:D
 hk:SlOf 1 (fun s=>[D.str s]) k kd
 hkl:k.length≤1000000
 n:List Int
 nd:D
 hn:SlOf 1 inr n nd
 hnl:n.length≤1000000
 er:Int
def a0C (r:Rw):List D:=[r.kd,r.nd,.int .i64 r.er]
theorem a2v (r:Rw):(D.agg (a0C r)).okv=true:=by
 have h1:=a0T r.hk
 have h2:=a0T r.hn
 have h3:(D.agg (a0C r)) = .agg [r.kd,r.nd,.int .i64 r.er]:=rfl
 rw [h3]
 generalize r.kd=a at h1
 generalize r.nd=b at h2
 simp [-bind_some, D.okv,h1,h2,D.one]
theorem b6l {h:Hp} {q k T z:Nat} {rows:List (List D)} {p:Rw} (hq:h[q]?=some (.row T z rows)) (hk:rows[k]?=some (a0C p)):a0c tab h a0k (.ptr q k 0)=some (.agg (a0C p)):=by
 rw [b2Q,a1r hq,hk]
 rfl
theorem c4c (c:Rw→Rw→Int) (cmp:D) (hc:∀ x y g,a1V R cmp [.agg (a0C x),.agg (a0C y)] g=some (.int .i64 (c x y),g)) (ob N a:Nat) (hN:N≤1000000000) {β:Type} {K:Out→Option β} {Q:β→Prop}
  (l:List Rw) (hl:l.length=N) (j:Nat) (hj:j<N) (h:Hp) (ho:h[ob]?=some (.row a0k 3 (l.map a0C))) (b:D)
  (k:∀ x y h',h'[ob]?=some (.row a0k 3 ((dn c a j l).map a0C))→Same ob h h'→Wp (K (.ext 2,[x,y],h')) Q) :
  Wp ((a0B (a6h (.msl 3 ob 0 N) (.int .i64 a) cmp) [.int .i64 j,b] h).bind K) Q:=by
 generalize hV:dn c a j l=V at k
 refine Wp.loop (fun n ds g=>∃ b,∃ j:Nat,∃ l':List Rw,n=j∧ds=[.int .i64 j,b]∧l'.length=N∧j<N∧g[ob]?=some (.row a0k 3 (l'.map a0C))∧Same ob h g∧dn c a j l'=V)
  (fun r=>r.1 = .ext 2∧(∃ x y,r.2.1=[x,y])∧r.2.2[ob]?=some (.row a0k 3 (V.map a0C))∧Same ob h r.2.2) j ⟨b,j,l,rfl,rfl,hl,hj,ho,.refl _ _,hV⟩ ?_ ?_
 ·clear ho hl hj hV l j
  rintro n ds g ⟨b,j,l,rfl,rfl,hl,hj,ho,sm,hV⟩
  simp only [a6h,a0e,a0g,bs,c9H,a1m]
  cases n with
  | zero =>
   have hq:¬ (a:Int)<((0:Nat):Int):=by omega
   have hV:l=V:=hV
   subst hV
   simp only [hq,decide_false,a1b,a2l,c9I,if_false,reduceCtorEq,bs,a0F,a0f]
   exact .some (.inr ⟨by simp,rfl,⟨_,_,rfl⟩,ho,sm⟩)
  | succ j =>
   have g1:l[j+1]?=some l[j+1]:=c9W (by omega)
   have g0:l[j]?=some l[j]:=c9W (by omega)
   unfold dn at hV
   rw [g1,g0] at hV
   simp only at hV
   generalize l[j+1]=x at g1 hV
   generalize l[j]=y at g0 hV
   by_cases ha:a<j+1
   ·have ha':(a:Int)<((j+1:Nat):Int):=by omega
    have hw:IntKind.wrap .i64 (((j+1:Nat):Int) - 1)=(j:Int):=by
     rw [wrap_i64 (by omega) (by omega)];omega
    have i1:(0:Int)≤((j+1:Nat):Int)∧((j+1:Nat):Int)<(N:Int):=by omega
    have i0:(0:Int)≤(j:Int)∧(j:Int)<(N:Int):=by omega
    have m1:(l.map a0C)[j+1]?=some (a0C x):=by rw [c9U,g1];rfl
    have m0:(l.map a0C)[j]?=some (a0C y):=by rw [c9U,g0];rfl
    simp only [ha',decide_true,a1b,a2l,if_true,a6Q,i1,i0,and_self,Nat.zero_add,c9Q,a0G,hw,bs,b6l ho m1,b6l ho m0,hc,a0n,a0F]
    by_cases hlt:c x y<0
    ·rw [if_pos ⟨ha,hlt⟩] at hV
     simp only [hlt,decide_true,a0f,if_true]
     refine a3l ho m1 (by rfl) (by simp [-bind_some, a0C]) (a2v _) fun g2 p2 s2=>?_
     rw [show spl (a0C x) 0 (a0u (.agg (a0C y)))=a0C y from id rfl,a2P] at p2
     have m2:((l.set (j+1) y).map a0C)[j]?=some (a0C y):=by
      rw [c9U,d0h (by omega),g0];rfl
     try simp only [bs,i0,and_self,if_true,Nat.zero_add,c9Q]
     refine a3l p2 m2 (by rfl) (by simp [-bind_some, a0C]) (a2v _) fun g3 p3 s3=>?_
     rw [show spl (a0C y) 0 (a0u (.agg (a0C x)))=a0C x from id rfl,a2P] at p3
     try simp only [bs]
     exact .some (.inl ⟨rfl,j,by omega,_,j,_,rfl,rfl,by simpa using hl,by omega,p3,(sm.trans s2).trans s3,hV⟩)
    ·rw [if_neg (fun hh=>hlt hh.2)] at hV
     subst hV
     simp only [hlt,decide_false,a0f,c9I,if_false]
     exact .some (.inr ⟨by simp,rfl,⟨_,_,rfl⟩,ho,sm⟩)
   ·rw [if_neg (fun hh=>ha hh.1)] at hV
    subst hV
    have ha':¬ (a:Int)<((j+1:Nat):Int):=by omega
    simp only [ha',decide_false,a1b,a2l,c9I,if_false,reduceCtorEq,bs,a0F,a0f]
    exact .some (.inr ⟨by simp,rfl,⟨_,_,rfl⟩,ho,sm⟩)
 ·rintro ⟨x,ds,g⟩ ⟨rfl,⟨u,v,rfl⟩,h1,h2⟩
  exact k u v g h1 h2
theorem c4N (c:Rw→Rw→Int) (cmp:D) (hc:∀ x y g,a1V R cmp [.agg (a0C x),.agg (a0C y)] g=some (.int .i64 (c x y),g)) (ob N a b:Nat) (hN:N≤1000000000) (hab:a<b∨(a=b∧b≤N)) (hb:b≤N)
  (l:List Rw) (hl:l.length=N) (h:Hp) (ho:h[ob]?=some (.row a0k 3 (l.map a0C))) :
  ∃ d h',R a4Z [.msl 3 ob 0 N,.int .i64 a,.int .i64 b,cmp] h=some (d,h')∧h'[ob]?=some (.row a0k 3 ((isr c a (a+1) (b - (a+1)) l).map a0C))∧Same ob h h':=by
 suffices Wp (R a4Z [.msl 3 ob 0 N,.int .i64 a,.int .i64 b,cmp] h) (fun p=>p.2[ob]?=some (.row a0k 3 ((isr c a (a+1) (b - (a+1)) l).map a0C))∧Same ob h p.2) by
  obtain ⟨⟨x,h'⟩,h1,h2⟩:=this
  exact ⟨x,h',h1,h2⟩
 rw [c0n]
 have hw:=wi_ a (by omega)
 simp only [b6I,bs,c9H,a0q,hw]
 generalize hV:isr c a (a+1) (b - (a+1)) l=V
 refine Wp.loop (fun n ds g=>∃ u v w,∃ i:Nat,∃ l':List Rw,ds=[.int .i64 i,u,v,w]∧n=b - i∧l'.length=N∧g[ob]?=some (.row a0k 3 (l'.map a0C))∧Same ob h g∧isr c a i (b - i) l'=V)
  (fun r=>r.1 = .ext 0∧r.2.2[ob]?=some (.row a0k 3 (V.map a0C))∧Same ob h r.2.2) (b - (a+1)) ⟨_,_,_,a+1,l,rfl,rfl,hl,ho,.refl _ _,hV⟩ ?_ ?_
 ·rintro n ds g ⟨u,v,w,i,l',rfl,rfl,hl',ho',sm,hV⟩
  simp only [a6g,a0e,a0g,bs,c9H,a0n]
  refine Wp.dif ?_ ?_
  ·intro h0
   have h0:i<b:=by
    have:(i:Int)<(b:Int):=by simpa using h0
    omega
   have hb1:b - i=(b - (i+1))+1:=by omega
   rw [hb1] at hV
   unfold isr at hV
   have hw2:=wi_ i (by omega)
   refine c4c c cmp hc ob N a hN l' hl' i (by omega) g ho' _ fun x y g2 p2 s2=>?_
   simp only [a0m,a0x,a0l,bs,a0e,a0q,hw2]
   exact .some (.inl ⟨rfl,b - (i+1),by omega,_,_,_,i+1,_,rfl,rfl,by rw [b1Y];exact hl',p2,sm.trans s2,hV⟩)
  ·intro h0
   have h0:¬ i<b:=by
    have:¬ (i:Int)<(b:Int):=by simpa using h0
    omega
   rw [show b - i=0 by omega] at hV
   have hV:l'=V:=hV
   subst hV
   exact .some (.inr ⟨by simp,rfl,ho',sm⟩)
 ·rintro ⟨x,ds,g⟩ ⟨rfl,h1,h2⟩
  simp only [a0m,a1F,bs]
  exact .some ⟨h1,h2⟩
theorem a4C {g:Hp} {o n:Nat} {rows:List Rw} {p:Rw} (ho:g[o]?=some (.row a0k 3 (rows.map a0C))) (hp:rows[n]?=some p):a0c tab g a0k (.ptr o n 0)=some (.agg (a0C p)):=by
 have hr:(rows.map a0C)[n]?=some (a0C p):=by rw [c9U,hp];rfl
 rw [b2Q,a1r ho,hr]
 rfl
theorem b8t {g:Hp} {o N:Nat} {P X M Y Q:List Rw} (hN:N≤1000000000) (hlen:(P++X++M++Y++Q).length=N) (hxy:X.length=Y.length) (ho:g[o]?=some (.row a0k 3 ((P++X++M++Y++Q).map a0C))) (cmp:D) (a b k:Int) (ha:a=P.length) (hb:b=(P.length+X.length+M.length:Nat)) (hk:k=X.length) {β:Type} {f:D × Hp→Option β} {R1:β→Prop}
  (K:∀ g',g'[o]?=some (.row a0k 3 ((P++Y++M++X++Q).map a0C))→Same o g g'→Wp (f (a0i [],g')) R1):Wp ((R a7O [.msl 3 o 0 N,.int .i64 a,.int .i64 b,.int .i64 k,cmp] g).bind f) R1:=by
 subst ha hb hk
 rw [c3c]
 simp only [b9u,bs,c9H]
 simp only [c9M] at hlen
 refine Wp.loop (fun kk ds g'=>∃ x,∃ i:Nat,ds=[.int .i64 i,x]∧kk+i=X.length∧Same o g g'∧g'[o]?=some (.row a0k 3 ((P++Y.take i++X.drop i++M++X.take i++Y.drop i++Q).map a0C)))
  (fun r=>r.1 = .ext 0∧(∃ x y,r.2.1=[x,y])∧Same o g r.2.2∧r.2.2[o]?=some (.row a0k 3 ((P++Y++M++X++Q).map a0C))) X.length ⟨_,0,rfl,rfl,⟨rfl,fun _ _=>rfl⟩,by simpa using ho⟩ ?_ ?_
 ·rintro kk ds g' ⟨x1,i,rfl,hk,sm,ho'⟩
  simp only [a9q,a0e,a0g,bs,c9H,a0n]
  refine Wp.dif ?_ ?_
  ·intro h0
   have h0:i<X.length:=dl_ h0
   obtain ⟨x,hx⟩:=gx_ h0
   obtain ⟨y,hy⟩:∃ y,Y[i]?=some y:=⟨_,c9W (by omega)⟩
   have hdx:X.drop i=x::X.drop (i+1):=by
    obtain ⟨hn,hh⟩:=c9X.1 hx
    rw [List.drop_eq_getElem_cons hn,hh]
   have hdy:Y.drop i=y::Y.drop (i+1):=by
    obtain ⟨hn,hh⟩:=c9X.1 hy
    rw [List.drop_eq_getElem_cons hn,hh]
   have hw:=wi_ i (by omega)
   have wa:IntKind.wrap .i64 ((P.length:Int)+i)=((P.length+i:Nat):Int):=by
    rw [wrap_i64 (by omega) (by omega)];omega
   have wb:IntKind.wrap .i64 (((P.length+X.length+M.length:Nat):Int)+i)=((P.length+X.length+M.length+i:Nat):Int):=by
    rw [wrap_i64 (by omega) (by omega)];omega
   have e1:P++Y.take i++X.drop i++M++X.take i++Y.drop i++Q=(P++Y.take i)++x::(X.drop (i+1)++M++X.take i++y::(Y.drop (i+1)++Q)):=by rw [hdx,hdy];simp [-bind_some]
   have e2:(P++Y.take i)++x::(X.drop (i+1)++M++X.take i++y::(Y.drop (i+1)++Q))=(P++Y.take i++x::(X.drop (i+1)++M++X.take i))++y::(Y.drop (i+1)++Q):=by simp
   have e3:(P++Y.take i)++y::(X.drop (i+1)++M++X.take i++y::(Y.drop (i+1)++Q))=(P++Y.take i++y::(X.drop (i+1)++M++X.take i))++y::(Y.drop (i+1)++Q):=by simp
   have e4:(P++Y.take i++y::(X.drop (i+1)++M++X.take i))++x::(Y.drop (i+1)++Q)=P++Y.take (i+1)++X.drop (i+1)++M++X.take (i+1)++Y.drop (i+1)++Q:=by
    rw [c9T,c9T,hx,hy];simp [-bind_some]
   have n1:(P++Y.take i).length=P.length+i:=by simp;omega
   have n2:∀ z,(P++Y.take i++z::(X.drop (i+1)++M++X.take i)).length=P.length+X.length+M.length+i:=fun z=>by simp;omega
   rw [e1] at ho'
   have la:=a4C ho' (a0I _ _ x _ n1)
   have lb:=a4C ho' (by rw [e2];exact a0I _ _ y _ (n2 x))
   have ia:a0a tab a0t (.msl 3 o 0 N) (.int .i64 ((P.length+i:Nat):Int))=some (.ptr o (P.length+i) 0):=by rw [a6Q,if_pos (by omega),c9Q,Nat.zero_add]
   have ib:a0a tab a0t (.msl 3 o 0 N) (.int .i64 ((P.length+X.length+M.length+i:Nat):Int))=some (.ptr o (P.length+X.length+M.length+i) 0):=by rw [a6Q,if_pos (by omega),c9Q,Nat.zero_add]
   simp only [a0q,wa,wb,ia,ib,la,lb,bs,c9H]
   have ra:(((P++Y.take i)++x::(X.drop (i+1)++M++X.take i++y::(Y.drop (i+1)++Q))).map a0C)[P.length+i]?=some (a0C x):=by rw [c9U,a0I _ _ x _ n1];rfl
   refine a3l (off:=0) (row:=a0C x) (v := .agg (a0C y)) ho' ra (by rfl) (by exact Nat.le_refl _) (a2v _) fun g1 p1 w1=>?_
   have p1:g1[o]?=some (.row a0k 3 (((P++Y.take i++y::(X.drop (i+1)++M++X.take i))++y::(Y.drop (i+1)++Q)).map a0C)):=by
    rw [p1,show spl (a0C x) 0 (a0u (.agg (a0C y)))=a0C y from rfl,← List.map_set,a2h _ _ x y _ n1,e3]
   try simp only [bs]
   have rb:(((P++Y.take i++y::(X.drop (i+1)++M++X.take i))++y::(Y.drop (i+1)++Q)).map a0C)[P.length+X.length+M.length+i]?=some (a0C y):=by rw [c9U,a0I _ _ y _ (n2 y)];rfl
   refine a3l (off:=0) (row:=a0C y) (v := .agg (a0C x)) p1 rb (by rfl) (by exact Nat.le_refl _) (a2v _) fun g2 p2 w2=>?_
   have p2:g2[o]?=some (.row a0k 3 ((P++Y.take (i+1)++X.drop (i+1)++M++X.take (i+1)++Y.drop (i+1)++Q).map a0C)):=by
    rw [p2,show spl (a0C y) 0 (a0u (.agg (a0C x)))=a0C x from rfl,← List.map_set,a2h _ _ y x _ (n2 y),e4]
   simp only [bs,hw]
   exact .some (.inl ⟨rfl,kk - 1,by omega,_,i+1,rfl,by omega,(sm.trans w1).trans w2,p2⟩)
  ·intro h0
   have h0:i=X.length:=by
    have:¬ (i:Int)<X.length:=by simpa using h0
    omega
   subst h0
   refine .some (.inr ⟨by simp,rfl,⟨_,_,rfl⟩,sm,?_⟩)
   rw [ho',hxy,d0f,List.drop_length,← hxy,d0f,List.drop_length]
   simp [-bind_some]
 ·rintro ⟨ex,ds,g'⟩ ⟨rfl,⟨x,y,rfl⟩,sm,p⟩
  simp only [a0m,a1F,bs]
  exact K g' p sm
theorem c5q {g:Hp} {o N:Nat} {P U V Q:List Rw} (hN:N≤1000000000) (hlen:(P++U++V++Q).length=N) (hU:0<U.length) (hV:0<V.length) (ho:g[o]?=some (.row a0k 3 ((P++U++V++Q).map a0C))) (cmp:D) (a m b:Int) (ha:a=P.length) (hm:m=(P.length+U.length:Nat)) (hb:b=(P.length+U.length+V.length:Nat)) {β:Type} {f:D × Hp→Option β} {R1:β→Prop}
  (K:∀ g',g'[o]?=some (.row a0k 3 ((P++V++U++Q).map a0C))→Same o g g'→Wp (f (a0i [],g')) R1):Wp ((R b2u [.msl 3 o 0 N,.int .i64 a,.int .i64 m,.int .i64 b,cmp] g).bind f) R1:=by
 obtain ⟨mm,hmm⟩:∃ mm:Nat,mm=P.length+U.length:=⟨_,rfl⟩
 rw [← hmm] at hm
 subst ha hm hb
 have hl:=hlen
 simp only [c9M] at hl
 have w1:IntKind.wrap .i64 ((mm:Int) - (P.length:Int))=(U.length:Int):=by rw [wrap_i64 (by omega) (by omega)];omega
 have w2:IntKind.wrap .i64 (((P.length+U.length+V.length:Nat):Int) - (mm:Int))=(V.length:Int):=by rw [wrap_i64 (by omega) (by omega)];omega
 rw [c3a]
 simp only [b9s,bs,c9H,a0G,w1,w2]
 refine Wp.loop (fun kk ds g'=>∃ x y,∃ P' U' V' Q':List Rw,ds=[.int .i64 U'.length,.int .i64 V'.length,x,y]∧kk=U'.length+V'.length∧0<U'.length∧0<V'.length∧P'.length+U'.length=mm∧P'++V'++U'++Q'=P++V++U++Q∧(P'++U'++V'++Q').length=N∧Same o g g'∧g'[o]?=some (.row a0k 3 ((P'++U'++V'++Q').map a0C)))
  (fun r=>r.1 = .ext 0∧∃ x y,∃ P' U' V' Q':List Rw,r.2.1=[.int .i64 U'.length,.int .i64 V'.length,x,y]∧U'.length=V'.length∧P'.length+U'.length=mm∧P'++V'++U'++Q'=P++V++U++Q∧(P'++U'++V'++Q').length=N∧Same o g r.2.2∧r.2.2[o]?=some (.row a0k 3 ((P'++U'++V'++Q').map a0C)))
  (U.length+V.length) ⟨_,_,P,U,V,Q,rfl,rfl,hU,hV,by omega,rfl,hlen,⟨rfl,fun _ _=>rfl⟩,ho⟩ ?_ ?_
 ·rintro kk ds g' ⟨x,y,P',U',V',Q',rfl,hk,h1,h2,h3,h4,h5,sm,ho'⟩
  have hl':=h5
  simp only [c9M] at hl'
  simp only [a9o,a0e,a0g,bs,c9H,a2u]
  refine Wp.dif ?_ ?_
  ·intro h0
   have h0:U'.length≠V'.length:=by
    have:¬ (U'.length:Int)=V'.length:=by simpa using h0
    omega
   simp only [a1m,bs]
   have wi:IntKind.wrap .i64 ((mm:Int) - (U'.length:Int))=(P'.length:Int):=by rw [wrap_i64 (by omega) (by omega)];omega
   by_cases hgt:V'.length<U'.length
   ·have hd:decide ((U'.length:Int)>(V'.length:Int))=true:=decide_eq_true (by omega)
    obtain ⟨X,M,hXM,hXl⟩:∃ X M,U'=X++M∧X.length=V'.length:=⟨U'.take V'.length,U'.drop V'.length,(List.take_append_drop _ _).symm,by simp;omega⟩
    subst hXM
    simp only [c9M] at *
    have wd:IntKind.wrap .i64 (((X.length+M.length:Nat):Int) - (V'.length:Int))=(M.length:Int):=by rw [wrap_i64 (by omega) (by omega)];omega
    simp only [hd,a0f,if_true,a0G,wi,wd,bs,c9H]
    refine b8t (P:=P') (X:=X) (M:=M) (Y:=V') (Q:=Q') hN (by simp only [c9M];omega) hXl (by simpa using ho') cmp _ _ _ rfl (by omega) (by omega) fun g1 p1 s1'=>?_
    simp only [bs,a0x,a0e,a0g]
    rw [← hXl]
    refine .some (.inl ⟨rfl,M.length+X.length,by omega,_,_,P'++V',M,X,Q',rfl,rfl,by omega,by omega,by simp only [c9M];omega,by rw [← h4];simp [-bind_some],by simp only [c9M];omega,sm.trans s1',by rw [p1]⟩)
   ·have hd:decide ((U'.length:Int)>(V'.length:Int))=false:=decide_eq_false (by omega)
    obtain ⟨M,Y,hMY,hYl⟩:∃ M Y,V'=M++Y∧Y.length=U'.length:=⟨V'.take (V'.length - U'.length),V'.drop (V'.length - U'.length),(List.take_append_drop _ _).symm,by simp;omega⟩
    subst hMY
    simp only [c9M] at *
    have we:IntKind.wrap .i64 ((mm:Int)+((M.length+Y.length:Nat):Int))=((mm+(M.length+Y.length):Nat):Int):=by rw [wrap_i64 (by omega) (by omega)];omega
    have wf':IntKind.wrap .i64 (((mm+(M.length+Y.length):Nat):Int) - (U'.length:Int))=((P'.length+U'.length+M.length:Nat):Int):=by rw [wrap_i64 (by omega) (by omega)];omega
    have wd:IntKind.wrap .i64 (((M.length+Y.length:Nat):Int) - (U'.length:Int))=(M.length:Int):=by rw [wrap_i64 (by omega) (by omega)];omega
    simp only [hd,a0f,c9I,if_false,a0G,a0q,wi,we,wf',wd,bs,c9H]
    refine b8t (P:=P') (X:=U') (M:=M) (Y:=Y) (Q:=Q') hN (by simp only [c9M];omega) hYl.symm (by simpa using ho') cmp _ _ _ rfl rfl rfl fun g1 p1 s1'=>?_
    simp only [bs,a0x,a0e,a0g]
    rw [← hYl]
    refine .some (.inl ⟨rfl,Y.length+M.length,by omega,_,_,P',Y,M,U'++Q',rfl,rfl,by omega,by omega,by omega,by rw [← h4];simp [-bind_some],by simp only [c9M];omega,sm.trans s1',by rw [p1];simp [-bind_some]⟩)
  ·intro h0
   have h0:U'.length=V'.length:=by
    have:(U'.length:Int)=V'.length:=by simpa using h0
    omega
   exact .some (.inr ⟨by simp,rfl,_,_,P',U',V',Q',rfl,h0,h3,h4,h5,sm,ho'⟩)
 ·rintro ⟨ex,ds,g'⟩ ⟨rfl,x,y,P',U',V',Q',rfl,h0,h3,h4,h5,sm,ho'⟩
  have hl':=h5
  simp only [c9M] at hl'
  have wi:IntKind.wrap .i64 ((mm:Int) - (U'.length:Int))=(P'.length:Int):=by rw [wrap_i64 (by omega) (by omega)];omega
  simp only [a0m,a0l,a0e,a0g,bs,c9H,a0G,wi]
  refine b8t (P:=P') (X:=U') (M:=[]) (Y:=V') (Q:=Q') hN (by simp only [c9M,c9Z];omega) h0 (by simpa using ho') cmp _ _ _ rfl (by simp only [c9Z];omega) rfl fun g1 p1 s1'=>?_
  simp only [bs]
  refine K g1 ?_ (sm.trans s1')
  rw [p1,← h4]
  simp [-bind_some]
theorem b5z {g:Hp} {o:Nat} {A B:List Rw} {x y:Rw} {n:Nat} (hn:A.length=n) (ho:g[o]?=some (.row a0k 3 ((A++x::y::B).map a0C))) {β:Type} {f:Hp→Option β} {Q:β→Prop}
  (K:∀ g',g'[o]?=some (.row a0k 3 ((A++y::x::B).map a0C))→Same o g g'→Wp (f g') Q):Wp ((a0s tab g a0k (.ptr o n 0) (.agg (a0C y))).bind fun g1=>(a0s tab g1 a0k (.ptr o (n+1) 0) (.agg (a0C x))).bind f) Q:=by
 have ra:((A++x::y::B).map a0C)[n]?=some (a0C x):=by rw [c9U,a0I _ _ x _ hn];rfl
 refine a3l (off:=0) (row:=a0C x) (v := .agg (a0C y)) ho ra (by rfl) (by exact Nat.le_refl _) (a2v _) fun g1 p1 w1=>?_
 have e1:A++y::y::B=(A++[y])++y::B:=by simp
 have n1:(A++[y]).length=n+1:=by simp [-bind_some, hn]
 have p1:g1[o]?=some (.row a0k 3 (((A++[y])++y::B).map a0C)):=by
  rw [p1,show spl (a0C x) 0 (a0u (.agg (a0C y)))=a0C y from rfl,← List.map_set,a2h _ _ x y _ hn,e1]
 have rb:(((A++[y])++y::B).map a0C)[n+1]?=some (a0C y):=by rw [c9U,a0I _ _ y _ n1];rfl
 refine a3l (off:=0) (row:=a0C y) (v := .agg (a0C x)) p1 rb (by rfl) (by exact Nat.le_refl _) (a2v _) fun g2 p2 w2=>?_
 refine K g2 ?_ (w1.trans w2)
 rw [p2,show spl (a0C y) 0 (a0u (.agg (a0C x)))=a0C x from rfl,← List.map_set,a2h _ _ y x _ n1]
 simp [-bind_some]
theorem b3L {g:Hp} {o:Nat} {A B:List Rw} {x y:Rw} {n:Nat} (hn:A.length=n) (ho:g[o]?=some (.row a0k 3 ((A++x::y::B).map a0C))) {β:Type} {f:Hp→Option β} {Q:β→Prop}
  (K:∀ g',g'[o]?=some (.row a0k 3 ((A++y::x::B).map a0C))→Same o g g'→Wp (f g') Q):Wp ((a0s tab g a0k (.ptr o (n+1) 0) (.agg (a0C x))).bind fun g1=>(a0s tab g1 a0k (.ptr o n 0) (.agg (a0C y))).bind f) Q:=by
 have e1:A++x::y::B=(A++[x])++y::B:=by simp
 have n1:(A++[x]).length=n+1:=by simp [-bind_some, hn]
 rw [e1] at ho
 have rb:(((A++[x])++y::B).map a0C)[n+1]?=some (a0C y):=by rw [c9U,a0I _ _ y _ n1];rfl
 refine a3l (off:=0) (row:=a0C y) (v := .agg (a0C x)) ho rb (by rfl) (by exact Nat.le_refl _) (a2v _) fun g1 p1 w1=>?_
 have p1:g1[o]?=some (.row a0k 3 ((A++x::x::B).map a0C)):=by
  rw [p1,show spl (a0C y) 0 (a0u (.agg (a0C x)))=a0C x from rfl,← List.map_set,a2h _ _ y x _ n1]
  simp [-bind_some]
 have ra:((A++x::x::B).map a0C)[n]?=some (a0C x):=by rw [c9U,a0I _ _ x _ hn];rfl
 refine a3l (off:=0) (row:=a0C x) (v := .agg (a0C y)) p1 ra (by rfl) (by exact Nat.le_refl _) (a2v _) fun g2 p2 w2=>?_
 refine K g2 ?_ (w1.trans w2)
 rw [p2,show spl (a0C x) 0 (a0u (.agg (a0C y)))=a0C y from rfl,← List.map_set,a2h _ _ x y _ hn]
theorem a3u {o N n:Nat} (h:n<N):a0a tab a0t (.msl 3 o 0 N) (.int .i64 (n:Int))=some (.ptr o n 0):=by rw [a6Q,if_pos (by omega),c9Q,Nat.zero_add]
theorem c9A {g:Hp} {o N:Nat} {P A Q:List Rw} {x:Rw} (hN:N≤1000000000) (hlen:(P++x::A++Q).length=N) (ho:g[o]?=some (.row a0k 3 ((P++x::A++Q).map a0C))) (r14:Out) (hr:nth 0 r14.2.1 = .int .i64 ((P.length+A.length+1:Nat):Int)) (a:Int) (ha:a=P.length) (x1:D) {β:Type} {f:Out→Option β} {R1:β→Prop}
  (K:∀ g' b1 b2,g'[o]?=some (.row a0k 3 ((P++A++x::Q).map a0C))→Same o g g'→Wp (f (.ext 2,[b1,b2],g')) R1):Wp ((a0B (a6l (.msl 3 o 0 N) r14) [.int .i64 a,x1] g).bind f) R1:=by
 subst ha
 simp only [c9M,c9Y] at hlen
 refine Wp.loop (fun kk ds g'=>∃ y,∃ i:Nat,ds=[.int .i64 ((P.length+i:Nat):Int),y]∧kk+i=A.length∧Same o g g'∧g'[o]?=some (.row a0k 3 ((P++A.take i++x::(A.drop i++Q)).map a0C)))
  (fun r=>r.1 = .ext 2∧(∃ b1 b2,r.2.1=[b1,b2])∧Same o g r.2.2∧r.2.2[o]?=some (.row a0k 3 ((P++A++x::Q).map a0C))) A.length ⟨_,0,rfl,rfl,⟨rfl,fun _ _=>rfl⟩,by simpa using ho⟩ ?_ ?_
 ·rintro kk ds g' ⟨y1,i,rfl,hk,sm,ho'⟩
  have w0:IntKind.wrap .i64 (((P.length+A.length+1:Nat):Int) - 1)=((P.length+A.length:Nat):Int):=by rw [wrap_i64 (by omega) (by omega)];omega
  simp only [a6l,a0e,a0g,bs,c9H,hr,a0G,w0,a0n]
  refine Wp.dif ?_ ?_
  ·intro h0
   have h0:i<A.length:=by
    have:((P.length+i:Nat):Int)<((P.length+A.length:Nat):Int):=by simpa using h0
    omega
   obtain ⟨y,hy⟩:=gx_ h0
   have hdy:A.drop i=y::A.drop (i+1):=by
    obtain ⟨hn,hh⟩:=c9X.1 hy
    rw [List.drop_eq_getElem_cons hn,hh]
   have hw:IntKind.wrap .i64 (((P.length+i:Nat):Int)+1)=((P.length+i+1:Nat):Int):=by
    rw [wrap_i64 (by omega) (by omega)];omega
   have e1:P++A.take i++x::(A.drop i++Q)=(P++A.take i)++x::y::(A.drop (i+1)++Q):=by rw [hdy];simp [-bind_some]
   have e2:(P++A.take i++[x])++y::(A.drop (i+1)++Q)=(P++A.take i)++x::y::(A.drop (i+1)++Q):=by simp
   have n1:(P++A.take i).length=P.length+i:=by simp;omega
   have n2:(P++A.take i++[x]).length=P.length+i+1:=by simp;omega
   rw [e1] at ho'
   have la:=a4C ho' (a0I _ _ x _ n1)
   have lb:=a4C ho' (by rw [← e2];exact a0I _ _ y _ n2)
   have ia:=@a3u o N (P.length+i) (by omega)
   have ib:=@a3u o N (P.length+i+1) (by omega)
   simp only [a0q,hw,ia,ib,la,lb,bs,c9H]
   refine b5z n1 ho' fun g2 p2 w2=>?_
   try simp only [bs]
   refine .some (.inl ⟨rfl,kk - 1,by omega,_,i+1,rfl,by omega,sm.trans w2,?_⟩)
   rw [p2,c9T,hy]
   simp [-bind_some]
  ·intro h0
   have h0:i=A.length:=by
    have:¬ ((P.length+i:Nat):Int)<((P.length+A.length:Nat):Int):=by simpa using h0
    omega
   subst h0
   rw [d0f,List.drop_length] at ho'
   exact .some (.inr ⟨by simp,rfl,⟨_,_,rfl⟩,sm,by simpa using ho'⟩)
 ·rintro ⟨ex,ds,g'⟩ ⟨rfl,⟨b1,b2,rfl⟩,sm,p⟩
  exact K g' b1 b2 p sm
theorem c9w {g:Hp} {o N:Nat} {P A Q:List Rw} {x:Rw} (hN:N≤1000000000) (hlen:(P++A++x::Q).length=N) (ho:g[o]?=some (.row a0k 3 ((P++A++x::Q).map a0C))) (r9:Out) (hr:nth 0 r9.2.1 = .int .i64 (P.length:Int)) (m:Int) (hm:m=(P.length+A.length:Nat)) (x1:D) {β:Type} {f:Out→Option β} {R1:β→Prop}
  (K:∀ g' b1 b2,g'[o]?=some (.row a0k 3 ((P++x::A++Q).map a0C))→Same o g g'→Wp (f (.ext 6,[b1,b2],g')) R1):Wp ((a0B (a6j (.msl 3 o 0 N) r9) [.int .i64 m,x1] g).bind f) R1:=by
 subst hm
 simp only [c9M,c9Y] at hlen
 refine Wp.loop (fun kk ds g'=>∃ y,ds=[.int .i64 ((P.length+kk:Nat):Int),y]∧kk≤A.length∧Same o g g'∧g'[o]?=some (.row a0k 3 ((P++A.take kk++x::(A.drop kk++Q)).map a0C)))
  (fun r=>r.1 = .ext 6∧(∃ b1 b2,r.2.1=[b1,b2])∧Same o g r.2.2∧r.2.2[o]?=some (.row a0k 3 ((P++x::A++Q).map a0C))) A.length ⟨_,rfl,Nat.le_refl _,⟨rfl,fun _ _=>rfl⟩,by simpa using ho⟩ ?_ ?_
 ·rintro kk ds g' ⟨y1,rfl,hk,sm,ho'⟩
  simp only [a6j,a0e,a0g,bs,c9H,hr,a1m]
  refine Wp.dif ?_ ?_
  ·intro h0
   have h0:0<kk:=by
    have:((P.length+kk:Nat):Int)>(P.length:Int):=by simpa using h0
    omega
   obtain ⟨i,rfl⟩:∃ i,kk=i+1:=⟨kk - 1,by omega⟩
   obtain ⟨y,hy⟩:∃ y,A[i]?=some y:=⟨_,c9W (by omega)⟩
   have hdy:A.drop i=y::A.drop (i+1):=by
    obtain ⟨hn,hh⟩:=c9X.1 hy
    rw [List.drop_eq_getElem_cons hn,hh]
   have hw:IntKind.wrap .i64 (((P.length+(i+1):Nat):Int) - 1)=((P.length+i:Nat):Int):=by
    rw [wrap_i64 (by omega) (by omega)];omega
   have e1:P++A.take (i+1)++x::(A.drop (i+1)++Q)=(P++A.take i)++y::x::(A.drop (i+1)++Q):=by rw [c9T,hy];simp [-bind_some]
   have e2:(P++A.take i++[y])++x::(A.drop (i+1)++Q)=(P++A.take i)++y::x::(A.drop (i+1)++Q):=by simp
   have n1:(P++A.take i).length=P.length+i:=by simp;omega
   have n2:(P++A.take i++[y]).length=P.length+i+1:=by simp;omega
   rw [e1] at ho'
   have la:=a4C ho' (a0I _ _ y _ n1)
   have lb:=a4C ho' (by rw [← e2];exact a0I _ _ x _ n2)
   have ia:=@a3u o N (P.length+i) (by omega)
   have ib:=@a3u o N (P.length+(i+1)) (by omega)
   rw [show P.length+(i+1)=P.length+i+1 from rfl] at hw ib ⊢
   simp only [a0G,hw,ia,ib,la,lb,bs,c9H]
   refine b3L n1 ho' fun g2 p2 w2=>?_
   try simp only [bs]
   refine .some (.inl ⟨rfl,i,by omega,_,rfl,by omega,sm.trans w2,?_⟩)
   rw [p2,hdy]
   simp [-bind_some]
  ·intro h0
   have h0:kk=0:=by
    have:¬ ((P.length+kk:Nat):Int)>(P.length:Int):=by simpa using h0
    omega
   subst h0
   exact .some (.inr ⟨by simp,rfl,⟨_,_,rfl⟩,sm,by simpa using ho'⟩)
 ·rintro ⟨ex,ds,g'⟩ ⟨rfl,⟨b1,b2,rfl⟩,sm,p⟩
  exact K g' b1 b2 p sm
theorem c9y {g:Hp} {o N:Nat} {L:List Rw} (hN:N≤1000000000) (hlen:L.length=N) (ho:g[o]?=some (.row a0k 3 (L.map a0C))) (cmp:D) (a m b:Nat) (q:Nat→Prop) (ha:a<N) (hmb:m≤b) (hbN:b≤N) (x:Rw) (hx:L[a]?=some x)
  (hc:∀ t y,m≤t→t<b→L[t]?=some y→∃ v,a1V R cmp [.agg (a0C y),.agg (a0C x)] g=some (.int .i64 v,g)∧(v<0↔q t)) (x1 x2 x3:D) {β:Type} {f:Out→Option β} {Q:β→Prop}
  (K:∀ (c:Nat) b1 b2 b3,m≤c→c≤b→(c=m∨q (c - 1))→(c=b∨¬ q c)→Wp (f (.ext 0,[.int .i64 (c:Int),.int .i64 (c:Int),b1,b2,b3],g)) Q):Wp ((a0B (a6k (.msl 3 o 0 N) (.int .i64 (a:Int)) cmp) [.int .i64 (m:Int),.int .i64 (b:Int),x1,x2,x3] g).bind f) Q:=by
 refine Wp.loop (fun kk ds g'=>g'=g∧∃ y1 y2 y3,∃ i j:Nat,ds=[.int .i64 (i:Int),.int .i64 (j:Int),y1,y2,y3]∧kk=j - i∧m≤i∧i≤j∧j≤b∧(i=m∨q (i - 1))∧(j=b∨¬ q j))
  (fun r=>r.1 = .ext 0∧r.2.2=g∧∃ b1 b2 b3,∃ c:Nat,r.2.1=[.int .i64 (c:Int),.int .i64 (c:Int),b1,b2,b3]∧m≤c∧c≤b∧(c=m∨q (c - 1))∧(c=b∨¬ q c)) (b - m) ⟨rfl,_,_,_,m,b,rfl,rfl,Nat.le_refl _,hmb,Nat.le_refl _,.inl rfl,.inl rfl⟩ ?_ ?_
 ·rintro kk ds g' ⟨rfl,y1,y2,y3,i,j,rfl,hk,h1,h2,h3,h4,h5⟩
  simp only [a6k,a0e,a0g,bs,c9H,a0n]
  refine Wp.dif ?_ ?_
  ·intro h0
   have h0:i<j:=by
    have:(i:Int)<(j:Int):=by simpa using h0
    omega
   obtain ⟨u1,u2,u3,u4⟩:=@a3X i j (by omega) (by omega)
   obtain ⟨y,hy⟩:∃ y,L[(i+j) / 2]?=some y:=⟨_,c9W (by omega)⟩
   obtain ⟨v,hv,hvc⟩:=hc ((i+j) / 2) y (by omega) (by omega) hy
   have ia:=@a3u o N ((i+j) / 2) (by omega)
   have ib:=@a3u o N a ha
   have la:=a4C ho hy
   have lb:=a4C ho hx
   have w1:IntKind.wrap .i64 ((((i+j) / 2:Nat):Int)+1)=(((i+j) / 2+1:Nat):Int):=by rw [wrap_i64 (by omega) (by omega)];omega
   simp only [a0q,u1,a2I,u2,a2k,show ¬ (1:Int)<0 by omega,if_false,u3,a2H,u4,ia,ib,la,lb,hv,bs,a0n,c9H]
   by_cases hlt:v<0
   ·have:=hvc.1 hlt
    simp only [hlt,decide_true,a0f,if_true,w1,bs,a0x,a0e,a0g]
    exact .some (.inl ⟨rfl,j - ((i+j) / 2+1),by omega,rfl,_,_,_,_,_,rfl,rfl,by omega,by omega,by omega,.inr (by simpa using this),h5⟩)
   ·have:=fun h=>hlt (hvc.2 h)
    simp only [hlt,decide_false,a0f,c9I,if_false,bs,a0x,a0e,a0g]
    exact .some (.inl ⟨rfl,(i+j) / 2 - i,by omega,rfl,_,_,_,_,_,rfl,rfl,by omega,by omega,by omega,h4,.inr this⟩)
  ·intro h0
   have h0:¬ i<j:=by
    have:¬ (i:Int)<(j:Int):=by simpa using h0
    omega
   obtain rfl:j=i:=by omega
   exact .some (.inr ⟨by simp,rfl,rfl,_,_,_,j,rfl,h1,h3,h4,h5⟩)
 ·rintro ⟨ex,ds,g'⟩ ⟨rfl,q2,b1,b2,b3,c,rfl,k1,k2,k3,k4⟩
  simp only at q2
  subst q2
  exact K c b1 b2 b3 k1 k2 k3 k4
theorem c9u {g:Hp} {o N:Nat} {L:List Rw} (hN:N≤1000000000) (hlen:L.length=N) (ho:g[o]?=some (.row a0k 3 (L.map a0C))) (cmp:D) (m a b:Nat) (q:Nat→Prop) (hmN:m<N) (hmb:a≤b) (hbN:b≤N) (x:Rw) (hx:L[m]?=some x)
  (hc:∀ t y,a≤t→t<b→L[t]?=some y→∃ v,a1V R cmp [.agg (a0C x),.agg (a0C y)] g=some (.int .i64 v,g)∧(¬ v<0↔q t)) (x1 x2 x3:D) {β:Type} {f:Out→Option β} {Q:β→Prop}
  (K:∀ (c:Nat) b1 b2 b3,a≤c→c≤b→(c=a∨q (c - 1))→(c=b∨¬ q c)→Wp (f (.ext 4,[.int .i64 (c:Int),.int .i64 (c:Int),b1,b2,b3],g)) Q):Wp ((a0B (a6i (.msl 3 o 0 N) (.int .i64 (m:Int)) cmp) [.int .i64 (a:Int),.int .i64 (b:Int),x1,x2,x3] g).bind f) Q:=by
 refine Wp.loop (fun kk ds g'=>g'=g∧∃ y1 y2 y3,∃ i j:Nat,ds=[.int .i64 (i:Int),.int .i64 (j:Int),y1,y2,y3]∧kk=j - i∧a≤i∧i≤j∧j≤b∧(i=a∨q (i - 1))∧(j=b∨¬ q j))
  (fun r=>r.1 = .ext 4∧r.2.2=g∧∃ b1 b2 b3,∃ c:Nat,r.2.1=[.int .i64 (c:Int),.int .i64 (c:Int),b1,b2,b3]∧a≤c∧c≤b∧(c=a∨q (c - 1))∧(c=b∨¬ q c)) (b - a) ⟨rfl,_,_,_,a,b,rfl,rfl,Nat.le_refl _,hmb,Nat.le_refl _,.inl rfl,.inl rfl⟩ ?_ ?_
 ·rintro kk ds g' ⟨rfl,y1,y2,y3,i,j,rfl,hk,h1,h2,h3,h4,h5⟩
  simp only [a6i,a0e,a0g,bs,c9H,a0n]
  refine Wp.dif ?_ ?_
  ·intro h0
   have h0:i<j:=by
    have:(i:Int)<(j:Int):=by simpa using h0
    omega
   obtain ⟨u1,u2,u3,u4⟩:=@a3X i j (by omega) (by omega)
   obtain ⟨y,hy⟩:∃ y,L[(i+j) / 2]?=some y:=⟨_,c9W (by omega)⟩
   obtain ⟨v,hv,hvc⟩:=hc ((i+j) / 2) y (by omega) (by omega) hy
   have ia:=@a3u o N ((i+j) / 2) (by omega)
   have ib:=@a3u o N m hmN
   have la:=a4C ho hy
   have lb:=a4C ho hx
   have w1:IntKind.wrap .i64 ((((i+j) / 2:Nat):Int)+1)=(((i+j) / 2+1:Nat):Int):=by rw [wrap_i64 (by omega) (by omega)];omega
   simp only [a0q,u1,a2I,u2,a2k,show ¬ (1:Int)<0 by omega,if_false,u3,a2H,u4,ia,ib,la,lb,hv,bs,a0n,a2X,c9H]
   by_cases hlt:v<0
   ·have:=fun h=>(hvc.2 h) hlt
    simp only [hlt,decide_true,c9R,a0f,c9I,if_false,bs,a0x,a0e,a0g]
    exact .some (.inl ⟨rfl,(i+j) / 2 - i,by omega,rfl,_,_,_,_,_,rfl,rfl,by omega,by omega,by omega,h4,.inr this⟩)
   ·have:=hvc.1 hlt
    simp only [hlt,decide_false,c9S,a0f,if_true,w1,bs,a0x,a0e,a0g]
    exact .some (.inl ⟨rfl,j - ((i+j) / 2+1),by omega,rfl,_,_,_,_,_,rfl,rfl,by omega,by omega,by omega,.inr (by simpa using this),h5⟩)
  ·intro h0
   have h0:¬ i<j:=by
    have:¬ (i:Int)<(j:Int):=by simpa using h0
    omega
   obtain rfl:j=i:=by omega
   exact .some (.inr ⟨by simp,rfl,rfl,_,_,_,j,rfl,h1,h3,h4,h5⟩)
 ·rintro ⟨ex,ds,g'⟩ ⟨rfl,q2,b1,b2,b3,c,rfl,k1,k2,k3,k4⟩
  simp only at q2
  subst q2
  exact K c b1 b2 b3 k1 k2 k3 k4
theorem c9s {g:Hp} {o N:Nat} {L:List Rw} (hN:N≤1000000000) (hlen:L.length=N) (ho:g[o]?=some (.row a0k 3 (L.map a0C))) (cmp:D) (p a b:Nat) (q:Nat→Prop) (hmb:a≤b) (hbp:b≤p+1) (hbN:b≤N) (hpN:p<a+N)
  (hc:∀ t y z,a≤t→t<b→L[t]?=some y→L[p - t]?=some z→∃ v,a1V R cmp [.agg (a0C z),.agg (a0C y)] g=some (.int .i64 v,g)∧(¬ v<0↔q t)) (x1 x2 x3:D) {β:Type} {f:Out→Option β} {Q:β→Prop}
  (K:∀ (c:Nat) b1 b2 b3,a≤c→c≤b→(c=a∨q (c - 1))→(c=b∨¬ q c)→Wp (f (.ext 8,[.int .i64 (c:Int),.int .i64 (c:Int),b1,b2,b3],g)) Q):Wp ((a0B (a4E (.msl 3 o 0 N) cmp (.int .i64 (p:Int))) [.int .i64 (a:Int),.int .i64 (b:Int),x1,x2,x3] g).bind f) Q:=by
 refine Wp.loop (fun kk ds g'=>g'=g∧∃ y1 y2 y3,∃ i j:Nat,ds=[.int .i64 (i:Int),.int .i64 (j:Int),y1,y2,y3]∧kk=j - i∧a≤i∧i≤j∧j≤b∧(i=a∨q (i - 1))∧(j=b∨¬ q j))
  (fun r=>r.1 = .ext 8∧r.2.2=g∧∃ b1 b2 b3,∃ c:Nat,r.2.1=[.int .i64 (c:Int),.int .i64 (c:Int),b1,b2,b3]∧a≤c∧c≤b∧(c=a∨q (c - 1))∧(c=b∨¬ q c)) (b - a) ⟨rfl,_,_,_,a,b,rfl,rfl,Nat.le_refl _,hmb,Nat.le_refl _,.inl rfl,.inl rfl⟩ ?_ ?_
 ·rintro kk ds g' ⟨rfl,y1,y2,y3,i,j,rfl,hk,h1,h2,h3,h4,h5⟩
  simp only [a4E,a0e,a0g,bs,c9H,a0n]
  refine Wp.dif ?_ ?_
  ·intro h0
   have h0:i<j:=by
    have:(i:Int)<(j:Int):=by simpa using h0
    omega
   obtain ⟨u1,u2,u3,u4⟩:=@a3X i j (by omega) (by omega)
   obtain ⟨y,hy⟩:∃ y,L[(i+j) / 2]?=some y:=⟨_,c9W (by omega)⟩
   obtain ⟨z,hz⟩:∃ z,L[p - (i+j) / 2]?=some z:=⟨_,c9W (by omega)⟩
   obtain ⟨v,hv,hvc⟩:=hc ((i+j) / 2) y z (by omega) (by omega) hy hz
   have ia:=@a3u o N ((i+j) / 2) (by omega)
   have ib:=@a3u o N (p - (i+j) / 2) (by omega)
   have la:=a4C ho hy
   have lb:=a4C ho hz
   have wp':IntKind.wrap .i64 ((p:Int) - (((i+j) / 2:Nat):Int))=((p - (i+j) / 2:Nat):Int):=by rw [wrap_i64 (by omega) (by omega)];omega
   have w1:IntKind.wrap .i64 ((((i+j) / 2:Nat):Int)+1)=(((i+j) / 2+1:Nat):Int):=by rw [wrap_i64 (by omega) (by omega)];omega
   simp only [a0q,u1,a2I,u2,a2k,show ¬ (1:Int)<0 by omega,if_false,u3,a2H,u4,a0G,wp',ia,ib,la,lb,hv,bs,a0n,a2X,c9H]
   by_cases hlt:v<0
   ·have:=fun h=>(hvc.2 h) hlt
    simp only [hlt,decide_true,c9R,a0f,c9I,if_false,bs,a0x,a0e,a0g]
    exact .some (.inl ⟨rfl,(i+j) / 2 - i,by omega,rfl,_,_,_,_,_,rfl,rfl,by omega,by omega,by omega,h4,.inr this⟩)
   ·have:=hvc.1 hlt
    simp only [hlt,decide_false,c9S,a0f,if_true,w1,bs,a0x,a0e,a0g]
    exact .some (.inl ⟨rfl,j - ((i+j) / 2+1),by omega,rfl,_,_,_,_,_,rfl,rfl,by omega,by omega,by omega,.inr (by simpa using this),h5⟩)
  ·intro h0
   have h0:¬ i<j:=by
    have:¬ (i:Int)<(j:Int):=by simpa using h0
    omega
   obtain rfl:j=i:=by omega
   exact .some (.inr ⟨by simp,rfl,rfl,_,_,_,j,rfl,h1,h3,h4,h5⟩)
 ·rintro ⟨ex,ds,g'⟩ ⟨rfl,q2,b1,b2,b3,c,rfl,k1,k2,k3,k4⟩
  simp only at q2
  subst q2
  exact K c b1 b2 b3 k1 k2 k3 k4
def a6c (cmp:D) (c:Rw→Rw→Int):Prop:=∀ x y g,a1V R cmp [.agg (a0C x),.agg (a0C y)] g=some (.int .i64 (c x y),g)
theorem c1p {g:Hp} {o N:Nat} {P B Q:List Rw} {x:Rw} (hN:N≤1000000000) (hlen:(P++x::B++Q).length=N) (ho:g[o]?=some (.row a0k 3 ((P++x::B++Q).map a0C))) (cmp:D) (c:Rw→Rw→Int) (hcmp:a6c cmp c) (a m b:Int) (ha:a=(P.length:Nat)) (hm:m=(P.length+1:Nat)) (hb:b=(P.length+1+B.length:Nat)) {β:Type} {f:D × Hp→Option β} {R1:β→Prop}
  (K:∀ g' B1 B2,B=B1++B2→(B1=[]∨∃ y r,B1=r++[y]∧c y x<0)→(B2=[]∨∃ y r,B2=y::r∧¬ c y x<0)→g'[o]?=some (.row a0k 3 ((P++(B1++x::B2)++Q).map a0C))→Same o g g'→Wp (f (a0i [],g')) R1):Wp ((R a4o [.msl 3 o 0 N,.int .i64 a,.int .i64 m,.int .i64 b,cmp] g).bind f) R1:=by
 subst ha hm hb
 have hl:=hlen
 simp only [c9M,c9Y] at hl
 have w1:IntKind.wrap .i64 (((P.length+1:Nat):Int) - (P.length:Int))=1:=by rw [wrap_i64 (by omega) (by omega)];omega
 have gx:(P++x::B++Q)[P.length]?=some x:=by
  rw [show P++x::B++Q=P++x::(B++Q) by simp]
  exact a0I _ _ x _ rfl
 have gB:∀ t,(P++x::B++Q)[P.length+1+t]?=(B++Q)[t]?:=fun t=>by
  rw [show P++x::B++Q=(P++[x])++(B++Q) by simp,List.getElem?_append_right (by simp)]
  simp [-bind_some]
 rw [b7i]
 simp only [b4a,bs,c9H,a0G,w1,a0U,decide_true,a0f,if_true]
 refine c9y hN hlen ho cmp P.length (P.length+1) (P.length+1+B.length) (fun t=>∃ y,(P++x::B++Q)[t]?=some y∧c y x<0) (by omega) (by omega) (by omega) x gx (fun t y _ _ hy=>⟨c y x,hcmp y x g,fun h=>⟨y,hy,h⟩,fun ⟨y',h1,h2⟩=>by rw [hy] at h1;injection h1 with h1;rw [h1];exact h2⟩) _ _ _ fun k b1 b2 b3 k1 k2 k3 k4=>?_
 obtain ⟨t,rfl⟩:∃ t,k=P.length+1+t:=⟨k - (P.length+1),by omega⟩
 have htB:t≤B.length:=by omega
 simp only [a0m,a0l,bs,a0e,a0g,c9H]
 have eL:P++x::B++Q=P++x::B.take t++(B.drop t++Q):=by
  simp only [List.append_assoc,List.cons_append]
  rw [← List.append_assoc (B.take t),List.take_append_drop]
 have htl:(B.take t).length=t:=by simp;omega
 refine c9A (P:=P) (A:=B.take t) (Q:=B.drop t++Q) (x:=x) hN (by rw [← eL];exact hlen) (by rw [← eL];exact ho) _ (by rw [htl];show D.int _ _=_;congr 1;omega) _ rfl _ fun g1 c1 c2 p1 s1'=>?_
 simp only [a0m,a0l,bs]
 refine K g1 (B.take t) (B.drop t) (List.take_append_drop _ _).symm ?_ ?_ (by rw [p1];simp [-bind_some]) s1'
 ·rcases Nat.eq_zero_or_pos t with rfl | hpos
  ·exact .inl (by simp)
  ·right
   rcases k3 with k3 | ⟨y,hy,hlt⟩
   ·omega
   ·rw [show P.length+1+t - 1=P.length+1+(t - 1) by omega,gB,d0g (by omega)] at hy
    refine ⟨y,B.take (t - 1),?_,hlt⟩
    conv=>lhs;rw [show t=(t - 1)+1 by omega,c9T,hy]
    simp [-bind_some]
 ·rcases Nat.lt_or_ge t B.length with hlt | hge
  ·right
   obtain ⟨y,hy⟩:=gx_ hlt
   rcases k4 with k4 | k4
   ·omega
   ·refine ⟨y,B.drop (t+1),?_,fun h=>k4 ⟨y,by rw [gB,d0g hlt];exact hy,h⟩⟩
    obtain ⟨hn,hh⟩:=c9X.1 hy
    rw [List.drop_eq_getElem_cons hn,hh]
  ·exact .inl (List.drop_eq_nil_of_le hge)
theorem c1q {g:Hp} {o N:Nat} {P A Q:List Rw} {x:Rw} (hN:N≤1000000000) (hlen:(P++A++x::Q).length=N) (hA1:A.length≠1) (ho:g[o]?=some (.row a0k 3 ((P++A++x::Q).map a0C))) (cmp:D) (c:Rw→Rw→Int) (hcmp:a6c cmp c) (a m b:Int) (ha:a=(P.length:Nat)) (hm:m=(P.length+A.length:Nat)) (hb:b=(P.length+A.length+1:Nat)) {β:Type} {f:D × Hp→Option β} {R1:β→Prop}
  (K:∀ g' A1 A2,A=A1++A2→(A1=[]∨∃ y r,A1=r++[y]∧¬ c x y<0)→(A2=[]∨∃ y r,A2=y::r∧c x y<0)→g'[o]?=some (.row a0k 3 ((P++(A1++x::A2)++Q).map a0C))→Same o g g'→Wp (f (a0i [],g')) R1):Wp ((R a4o [.msl 3 o 0 N,.int .i64 a,.int .i64 m,.int .i64 b,cmp] g).bind f) R1:=by
 subst ha hm hb
 have hl:=hlen
 simp only [c9M,c9Y] at hl
 have w1:IntKind.wrap .i64 (((P.length+A.length:Nat):Int) - (P.length:Int))=A.length:=by rw [wrap_i64 (by omega) (by omega)];omega
 have w2:IntKind.wrap .i64 (((P.length+A.length+1:Nat):Int) - ((P.length+A.length:Nat):Int))=1:=by rw [wrap_i64 (by omega) (by omega)];omega
 have hd1:decide ((A.length:Int)=1)=false:=decide_eq_false (by omega)
 have gx:(P++A++x::Q)[P.length+A.length]?=some x:=a0I _ _ x _ (by simp)
 have gA:∀ t,t<A.length→(P++A++x::Q)[P.length+t]?=A[t]?:=fun t ht=>by
  rw [List.append_assoc,List.getElem?_append_right (by simp),d0g (by omega)]
  simp [-bind_some]
 rw [b7i]
 simp only [b4a,a3F,bs,c9H,a0G,w1,w2,a0U,hd1,decide_true,a0f,c9I,if_false,if_true]
 refine c9u hN hlen ho cmp (P.length+A.length) P.length (P.length+A.length) (fun t=>∃ y,(P++A++x::Q)[t]?=some y∧¬ c x y<0) (by omega) (by omega) (by omega) x gx (fun t y _ _ hy=>⟨c x y,hcmp x y g,fun h=>⟨y,hy,h⟩,fun ⟨y',h1,h2⟩=>by rw [hy] at h1;injection h1 with h1;rw [h1];exact h2⟩) _ _ _ fun k b1 b2 b3 k1 k2 k3 k4=>?_
 obtain ⟨t,rfl⟩:∃ t,k=P.length+t:=⟨k - P.length,by omega⟩
 have htA:t≤A.length:=by omega
 simp only [a0m,a0l,bs,a0e,a0g,c9H]
 have htl:(A.take t).length=t:=by simp;omega
 have eL:P++A++x::Q=(P++A.take t)++A.drop t++x::Q:=by
  rw [List.append_assoc P (A.take t),List.take_append_drop]
 have hdl:(A.drop t).length=A.length - t:=d0a
 refine c9w (P:=P++A.take t) (A:=A.drop t) (Q:=Q) (x:=x) hN (by rw [← eL];exact hlen) (by rw [← eL];exact ho) _ (by rw [c9M,htl];rfl) _ (by rw [c9M,htl,hdl];congr 1;omega) _ fun g1 c1 c2 p1 s1'=>?_
 simp only [a0m,a0l,bs]
 refine K g1 (A.take t) (A.drop t) (List.take_append_drop _ _).symm ?_ ?_ (by rw [p1];simp [-bind_some]) s1'
 ·rcases Nat.eq_zero_or_pos t with rfl | hpos
  ·exact .inl (by simp)
  ·right
   rcases k3 with k3 | ⟨y,hy,hlt⟩
   ·omega
   ·rw [show P.length+t - 1=P.length+(t - 1) by omega,gA _ (by omega)] at hy
    refine ⟨y,A.take (t - 1),?_,hlt⟩
    conv=>lhs;rw [show t=(t - 1)+1 by omega,c9T,hy]
    simp [-bind_some]
 ·rcases Nat.lt_or_ge t A.length with hlt | hge
  ·right
   obtain ⟨y,hy⟩:=gx_ hlt
   rcases k4 with k4 | k4
   ·omega
   ·refine ⟨y,A.drop (t+1),?_,Classical.byContradiction fun h=>k4 ⟨y,by rw [gA _ hlt];exact hy,h⟩⟩
    obtain ⟨hn,hh⟩:=c9X.1 hy
    rw [List.drop_eq_getElem_cons hn,hh]
  ·exact .inl (List.drop_eq_nil_of_le hge)
def a9C (c:Rw→Rw→Int) (S Pre:Rw→Rw→Prop) (cmp:D) (o N n:Nat):Prop :=
 ∀ (g:Hp) (P A B Q:List Rw) (a m b:Int),A.length+B.length≤n→(P++A++B++Q).length=N→0<A.length→0<B.length→A.Pairwise S→B.Pairwise S→(∀ x∈A,∀ y∈B,Pre x y) →
  g[o]?=some (.row a0k 3 ((P++A++B++Q).map a0C))→a=(P.length:Nat)→m=(P.length+A.length:Nat)→b=(P.length+A.length+B.length:Nat) →
  Wp (R a4o [.msl 3 o 0 N,.int .i64 a,.int .i64 m,.int .i64 b,cmp] g) fun p=>∃ C:List Rw,C.Perm (A++B)∧C.Pairwise S∧p.2[o]?=some (.row a0k 3 ((P++C++Q).map a0C))∧Same o g p.2
end Go.Proofs.YtehgglgadbmecaaGreatDoor

/- Laws, on plain data, about functions that the statement reaches. -/
import Derived.Test.YtkpnnfhodlanjaaGreatDoorT9
set_option linter.unusedSimpArgs false
set_option linter.unusedVariables false
set_option linter.unnecessarySimpa false
set_option maxRecDepth 100000
namespace Go.Proofs.YtkpnnfhodlanjaaGreatDoor
open Go.Eng Go.Pi
open Option (bind_some)
abbrev Str:=List UInt8
def fld (p:Str × Str):List D:=[.str p.1,.str p.2]
structure Lin where
 off:Int
 len:Int
 txt:Str
 deriving DecidableEq
def a3Y (l:Lin):List D:=[.int .i64 l.off,.int .i64 l.len,.str l.txt]
structure Ev where
 a0:Int
 a1:Int
 a2:Int
 a3:Int
 ls:List Lin
 ld:D
 a5:Int
 a6:Int
 s7:Str
 s8:Str
 fs:List (Str × Str)
 fd:D
 hfd:SlOf 2 fld fs fd
 hl:fs.length≤9223372036854775807
 hld:SlOf 3 a3Y ls ld
 hll:ls.length≤9223372036854775807
def evr (e:Ev):List D:=[.int .i64 e.a0,.int .i64 e.a1,.int .i64 e.a2,.int .i64 e.a3,e.ld,.int .i64 e.a5,.int .i64 e.a6,.str e.s7,.str e.s8,e.fd]
structure It where
 r:Str
 e:Ev
def itr (i:It):List D := .str i.r::evr i.e
theorem a8r (n0:Nat) (h:Hp) (n:Nat) (p:Str × Str):∀ d∈fld p,frz n0 h n d=d:=by simp [-bind_some, fld]
theorem b1y (n:Nat) (p:Str × Str):∀ d∈fld p,Ok n d:=by
 intro d hd
 simp [-bind_some, fld] at hd
 rcases hd with rfl | rfl <;> constructor
theorem a6P (n0:Nat) (h:Hp) (n:Nat) (p:Lin):∀ d∈a3Y p,frz n0 h n d=d:=by simp [-bind_some, a3Y]
theorem b2r (n:Nat) (p:Lin):∀ d∈a3Y p,Ok n d:=by
 intro d hd
 simp [-bind_some, a3Y] at hd
 rcases hd with rfl | rfl | rfl <;> constructor
theorem a4d (n0:Nat) (h:Hp) (n:Nat) (e:Ev):∀ d∈evr e,frz n0 h (n+1) d=d:=by
 intro d hd
 simp [-bind_some, evr] at hd
 rcases hd with rfl | rfl | rfl | rfl | rfl | rfl | rfl | rfl | rfl | rfl
 all_goals first | exact a3o e.hld (fun a _=>a6P _ _ _ a) | exact a3o e.hfd (fun a _=>a8r _ _ _ a) | simp [-bind_some]
theorem a5z (n:Nat) (e:Ev):∀ d∈evr e,Ok n d:=by
 intro d hd
 simp [-bind_some, evr] at hd
 rcases hd with rfl | rfl | rfl | rfl | rfl | rfl | rfl | rfl | rfl | rfl
 all_goals first | exact a1C e.hld (fun a _=>b2r _ a) | exact a1C e.hfd (fun a _=>b1y _ a) | constructor
theorem b5x (n:Nat) (i:It):Ok n (.agg (itr i)):=by
 refine .agg _ fun d hd=>?_
 simp [-bind_some, itr,evr] at hd
 rcases hd with rfl | rfl | rfl | rfl | rfl | rfl | rfl | rfl | rfl | rfl | rfl
 all_goals first | exact a1C i.e.hld (fun a _=>b2r _ a) | exact a1C i.e.hfd (fun a _=>b1y _ a) | constructor
theorem b6P (n0:Nat) (h:Hp) (n:Nat) (i:It):∀ d∈itr i,frz n0 h (n+1) d=d:=by
 intro d hd
 rcases c9i.1 hd with rfl | hd
 ·simp [-bind_some]
 ·exact a4d n0 h n i.e d hd
theorem b6Q (n:Nat) (i:It):∀ d∈itr i,Ok n d:=by
 intro d hd
 rcases c9i.1 hd with rfl | hd
 ·exact .str _
 ·exact a5z n i.e d hd
theorem evL (e:Ev) (h:Hp):a0c tab h a0C (.fptr (evr e))=some (.agg (evr e)):=id rfl
theorem c5z (i:It):a0b tab a2a 1 (.fptr (itr i))=some (.fptr (evr i.e)):=id rfl
theorem c5y (i:It):a0b tab a2a 0 (.fptr (itr i))=some (.fptr (itr i)):=id rfl
theorem c5A (i:It) (h:Hp):a0c tab h ty9 (.fptr (itr i))=some (.str i.r):=id rfl
theorem c8a (i:It) (h:Hp):a0c tab h a2a (.fptr (itr i))=some (.agg (itr i)):=id rfl
theorem c2c (i:It):b0n 11 (.agg (itr i))=some (.fptr (itr i)):=a6v 11 _ rfl
theorem c5O (i:It):a0J tab a2n 1 [0] [.agg (itr i)]=some (.sl 11 true [itr i]):=id rfl
theorem c8F (i:It) (h:Hp):((a0b tab a2a 1 (.fptr (itr i))).bind fun p=>(a0b tab a0C 3 p).bind fun q=>a0c tab h ty3 q)=some (.int .i64 i.e.a3):=by simp [-bind_some, itr,evr]
theorem b2I {h:Hp} {n e z n' e' z' q:Nat} {rows rows':List (List D)} {d d':D} (a:Own h n e z rows d) (b:Own h n' e' z' rows' d') (hne:e≠e') (hd:d.inOb q):¬ d'.inOb q:=by
 rintro ⟨z2,m2,rfl⟩
 obtain ⟨z1,m1,rfl⟩:=hd
 rcases a with ⟨ha,_⟩ | ⟨o1,_,ha,ga⟩
 ·cases ha
 rcases b with ⟨hb,_⟩ | ⟨o2,_,hb,gb⟩
 ·cases hb
 injection ha with _ ha
 injection hb with _ hb
 subst ha;subst hb
 rw [ga] at gb
 injection gb with gb
 injection gb with gb
 exact hne gb
theorem b7h (l:Lin) (h:Hp):a0c tab h a7f (.fptr (a3Y l))=some (.agg (a3Y l)):=id rfl
theorem b9I (l:Str × Str) (h:Hp):a0c tab h a2s (.fptr (fld l))=some (.agg (fld l)):=id rfl
theorem b7g (a b:Lin):a0f tab .neq a7f (.agg (a3Y a)) (.agg (a3Y b))=some (.bool (decide (a≠b))):=by
 obtain ⟨a0,a1,a2⟩:=a
 obtain ⟨b0,b1,b2⟩:=b
 simp [-bind_some, a3Y]
 by_cases h0:a0=b0 <;> by_cases h1:a1=b1 <;> by_cases h2:a2=b2 <;> simp [-bind_some, h0,h1,h2]
theorem b6C (a b:Str × Str):a0f tab .neq a2s (.agg (fld a)) (.agg (fld b))=some (.bool (decide (a≠b))):=by
 obtain ⟨a0,a1⟩:=a
 obtain ⟨b0,b1⟩:=b
 simp [-bind_some, fld]
 by_cases h0:a0=b0 <;> by_cases h1:a1=b1 <;> simp [-bind_some, h0,h1]
def byr (z:Int):List D:=[.int .u8 z]
theorem a1y {n:Int} (h0:0≤n) (h1:n<18446744073709551616):IntKind.wrap .u64 n=n:=by
 unfold IntKind.wrap
 simp [-bind_some, IntKind.signed,IntKind.bits,IntKind.min,IntKind.max]
 omega
theorem s94 (l r:List Lin) (d e:D) (h:Hp) (hd:SlOf 3 a3Y l d) (he:SlOf 3 a3Y r e) (hl:l.length≤9223372036854775807):R c3C [d,e] h=some (.bool (decide (l=r)),h):=by
 apply Wp.val
 rw [e94]
 simp only [F94,bs,c8N,a9P hd,a9P he,a3k]
 refine Wp.dif ?_ ?_
 ·intro hn
  have hn:l.length≠r.length:=by
   have:¬ (l.length:Int)=r.length:=by simpa using hn
   omega
  have hne:l≠r:=fun hh=>hn (by rw [hh])
  simp only [bs,a0s]
  exact .some (by simp [-bind_some, hne])
 ·intro hn
  have hn:l.length=r.length:=by
   have:(l.length:Int)=r.length:=by simpa using hn
   omega
  refine Wp.loop (fun k ds g=>g=h∧∃ a b c,∃ i:Nat,ds=[a,.int .i64 i,b,c]∧k+i=l.length∧l.take i=r.take i)
   (fun x=>x.2.2=h∧((x.1 = .ret∧nth 0 x.2.1 = .bool false∧l≠r)∨(x.1 = .ext 0∧l=r))) l.length ⟨rfl,_,_,_,0,rfl,rfl,rfl⟩ ?_ ?_
  ·rintro k ds g ⟨rfl,a,b,c,i,rfl,hk,hi⟩
   simp only [b5e,a0e,a0g,bs,c8N,a9P hd,a0q]
   refine Wp.dif ?_ ?_
   ·intro h0
    have h0:i<l.length:=dl_ h0
    have hg:l[i]?=some l[i]:=c9c h0
    have hg2:r[i]?=some (r[i]'(by omega)):=c9c (by omega)
    have hw:=wi_ i (by omega)
    generalize l[i]=x at hg
    generalize r[i]'(by omega)=y at hg2
    simp only [b6U hd,b6U he,Int.natCast_nonneg,if_true,c8W,hg,hg2,Option.map_some,bs,b7h,b7g]
    refine Wp.dif ?_ ?_
    ·intro hxy
     have hxy:x≠y:=by simpa using hxy
     try simp only [bs]
     refine .some (.inr ⟨by simp,rfl,.inl ⟨rfl,rfl,fun hh=>?_⟩⟩)
     subst hh
     rw [hg] at hg2
     injection hg2 with hg2
     exact hxy hg2
    ·intro hxy
     have hxy:x=y:=by simpa using hxy
     subst hxy
     simp only [a0k,bs,hw]
     refine .some (.inl ⟨rfl,k - 1,by omega,rfl,_,_,_,i+1,rfl,by omega,?_⟩)
     rw [c8Z,c8Z,hi,hg,hg2]
   ·intro h0
    have h0:i=l.length:=by
     have:¬ (i:Int)<l.length:=by simpa using h0
     omega
    refine .some (.inr ⟨by simp,rfl,.inr ⟨rfl,?_⟩⟩)
    have h1:l.take i=l:=List.take_of_length_le (by omega)
    have h2:r.take i=r:=List.take_of_length_le (by omega)
    rw [← h1,← h2,hi]
  ·rintro ⟨x,ds,g⟩ ⟨rfl,⟨rfl,hx,hne⟩ | ⟨rfl,hll⟩⟩
   ·replace hx:nth 0 ds = .bool false:=hx
    simp only [a0U,a1n,a1i,a0e,bs,hx,a0s]
    exact .some (by simp [-bind_some, hne])
   ·simp only [a0o,a0j,bs,a0s]
    exact .some (by simp [-bind_some, hll])
theorem s95 (l r:List (Str × Str)) (d e:D) (h:Hp) (hd:SlOf 2 fld l d) (he:SlOf 2 fld r e) (hl:l.length≤9223372036854775807):R c3D [d,e] h=some (.bool (decide (l=r)),h):=by
 apply Wp.val
 rw [e95]
 simp only [F95,bs,c8N,a4p hd,a4p he,a3k]
 refine Wp.dif ?_ ?_
 ·intro hn
  have hn:l.length≠r.length:=by
   have:¬ (l.length:Int)=r.length:=by simpa using hn
   omega
  have hne:l≠r:=fun hh=>hn (by rw [hh])
  simp only [bs,a0s]
  exact .some (by simp [-bind_some, hne])
 ·intro hn
  have hn:l.length=r.length:=by
   have:(l.length:Int)=r.length:=by simpa using hn
   omega
  refine Wp.loop (fun k ds g=>g=h∧∃ a b c,∃ i:Nat,ds=[a,.int .i64 i,b,c]∧k+i=l.length∧l.take i=r.take i)
   (fun x=>x.2.2=h∧((x.1 = .ret∧nth 0 x.2.1 = .bool false∧l≠r)∨(x.1 = .ext 0∧l=r))) l.length ⟨rfl,_,_,_,0,rfl,rfl,rfl⟩ ?_ ?_
  ·rintro k ds g ⟨rfl,a,b,c,i,rfl,hk,hi⟩
   simp only [b5f,a0e,a0g,bs,c8N,a4p hd,a0q]
   refine Wp.dif ?_ ?_
   ·intro h0
    have h0:i<l.length:=dl_ h0
    have hg:l[i]?=some l[i]:=c9c h0
    have hg2:r[i]?=some (r[i]'(by omega)):=c9c (by omega)
    have hw:=wi_ i (by omega)
    generalize l[i]=x at hg
    generalize r[i]'(by omega)=y at hg2
    simp only [b0z hd,b0z he,Int.natCast_nonneg,if_true,c8W,hg,hg2,Option.map_some,bs,b9I,b6C]
    refine Wp.dif ?_ ?_
    ·intro hxy
     have hxy:x≠y:=by simpa using hxy
     try simp only [bs]
     refine .some (.inr ⟨by simp,rfl,.inl ⟨rfl,rfl,fun hh=>?_⟩⟩)
     subst hh
     rw [hg] at hg2
     injection hg2 with hg2
     exact hxy hg2
    ·intro hxy
     have hxy:x=y:=by simpa using hxy
     subst hxy
     simp only [a0k,bs,hw]
     refine .some (.inl ⟨rfl,k - 1,by omega,rfl,_,_,_,i+1,rfl,by omega,?_⟩)
     rw [c8Z,c8Z,hi,hg,hg2]
   ·intro h0
    have h0:i=l.length:=by
     have:¬ (i:Int)<l.length:=by simpa using h0
     omega
    refine .some (.inr ⟨by simp,rfl,.inr ⟨rfl,?_⟩⟩)
    have h1:l.take i=l:=List.take_of_length_le (by omega)
    have h2:r.take i=r:=List.take_of_length_le (by omega)
    rw [← h1,← h2,hi]
  ·rintro ⟨x,ds,g⟩ ⟨rfl,⟨rfl,hx,hne⟩ | ⟨rfl,hll⟩⟩
   ·replace hx:nth 0 ds = .bool false:=hx
    simp only [a0U,a1n,a1i,a0e,bs,hx,a0s]
    exact .some (by simp [-bind_some, hne])
   ·simp only [a0o,a0j,bs,a0s]
    exact .some (by simp [-bind_some, hll])
def a2k (a b:Ev):Bool:=decide (a.a0=b.a0)&&(decide (a.a1=b.a1)&&(decide (a.a2=b.a2)&&(decide (a.a3=b.a3)&&(decide (a.a5=b.a5)&&(decide (a.a6=b.a6)&&(decide (a.s7=b.s7)&&(decide (a.s8=b.s8)&&(decide (a.ls=b.ls)&&decide (a.fs=b.fs)))))))))
def a3T (i j:It):Bool:=decide (i.r=j.r)&&a2k i.e j.e
theorem b0I (a:Ev):a2k a a=true:=by simp [-bind_some, a2k]
theorem s82 (i j:It) (h:Hp):R c3A [.agg (itr i),.agg (itr j)] h=some (.bool (a3T i j),h):=by
 apply Wp.val
 rw [e82]
 simp only [F82,a1l,bs,c8N,c5z,c5y,c5A,evL]
 generalize hg0:a1h h a0C 10 [[.int .i64 0,.int .i64 0,.int .i64 0,.int .i64 0,.nils,.int .i64 0,.int .i64 0,.str [],.str [],.nils]]=g0
 have hgl:g0.length=h.length+1:=by simp [-bind_some, ← hg0,a1h]
 have hb:∀ q,q<h.length→g0[q]?=h[q]?:=fun q hq=>by simp only [← hg0,a1h];rw [c9l hq]
 have p8:g0[h.length]?=some (.row a0C 10 [[.int .i64 0,.int .i64 0,.int .i64 0,.int .i64 0,.nils,.int .i64 0,.int .i64 0,.str [],.str [],.nils]]):=by simp [-bind_some, ← hg0,a1h]
 clear hg0
 refine b4Z p8 (by rfl) (by rfl) (by simp) (by rfl) fun g1 q8 s1=>?_
 replace q8:g1[h.length]?=some (.row a0C 10 [evr i.e]):=q8
 have hl1:g1.length=h.length+1:=by rw [s1.1,hgl]
 try simp only [a1j]
 rw [hl1]
 generalize hg1:a1h g1 a0C 10 [[.int .i64 0,.int .i64 0,.int .i64 0,.int .i64 0,.nils,.int .i64 0,.int .i64 0,.str [],.str [],.nils]]=g3
 have hgl3:h.length≤g3.length:=by simp [-bind_some, ← hg1,a1h];omega
 have hb3:∀ q,q<h.length+1→g3[q]?=g1[q]?:=fun q hq=>by simp only [← hg1,a1h];rw [c9l (by omega)]
 have p9:g3[h.length+1]?=some (.row a0C 10 [[.int .i64 0,.int .i64 0,.int .i64 0,.int .i64 0,.nils,.int .i64 0,.int .i64 0,.str [],.str [],.nils]]):=by
  simp only [← hg1,a1h];rw [← hl1,List.getElem?_append_right (Nat.le_refl _)];simp [-bind_some]
 replace q8:=(hb3 h.length (by omega)).trans q8
 clear hg1
 refine b4Z p9 (by rfl) (by rfl) (by simp) (by rfl) fun g2 q9 s2=>?_
 replace q9:g2[h.length+1]?=some (.row a0C 10 [evr j.e]):=q9
 replace q8:=(s2.2 h.length (by omega)).trans q8
 have hb2:∀ q,q<h.length→g2[q]?=h[q]?:=fun q hq=>(((s2.2 q (by omega)).trans (hb3 q (by omega))).trans (s1.2 q (by omega))).trans (hb q hq)
 have hl2:h.length≤g2.length:=by have:=s2.1;omega
 have r8:g2.row h.length 0=some (evr i.e):=a1A q8
 have r9:g2.row (h.length+1) 0=some (evr j.e):=a1A q9
 have hsc:∀ b:Bool,scope h g2 (.bool b)=some (.bool b,h):=fun b=>a1m (by simp) (.bool b) hl2 hb2
 obtain ⟨ri,ei⟩:=i
 obtain ⟨rj,ej⟩:=j
 by_cases h0:ri=rj
 case neg=>exact ⟨_,by simp [-bind_some, h0,hsc,a3T],rfl⟩
 by_cases h1:ei.a0=ej.a0
 case neg=>exact ⟨_,by simp [-bind_some, h0,h1,hsc,a3T,a2k,r8,r9,evr],rfl⟩
 by_cases h2:ei.a1=ej.a1
 case neg=>exact ⟨_,by simp [-bind_some, h0,h1,h2,hsc,a3T,a2k,r8,r9,evr],rfl⟩
 by_cases h3:ei.a2=ej.a2
 case neg=>exact ⟨_,by simp [-bind_some, h0,h1,h2,h3,hsc,a3T,a2k,r8,r9,evr],rfl⟩
 by_cases h4:ei.a3=ej.a3
 case neg=>exact ⟨_,by simp [-bind_some, h0,h1,h2,h3,h4,hsc,a3T,a2k,r8,r9,evr],rfl⟩
 by_cases h5:ei.a5=ej.a5
 case neg=>exact ⟨_,by simp [-bind_some, h0,h1,h2,h3,h4,h5,hsc,a3T,a2k,r8,r9,evr],rfl⟩
 by_cases h6:ei.a6=ej.a6
 case neg=>exact ⟨_,by simp [-bind_some, h0,h1,h2,h3,h4,h5,h6,hsc,a3T,a2k,r8,r9,evr],rfl⟩
 by_cases h7:ei.s7=ej.s7
 case neg=>exact ⟨_,by simp [-bind_some, h0,h1,h2,h3,h4,h5,h6,h7,hsc,a3T,a2k,r8,r9,evr],rfl⟩
 by_cases h8:ei.s8=ej.s8
 case neg=>exact ⟨_,by simp [-bind_some, h0,h1,h2,h3,h4,h5,h6,h7,h8,hsc,a3T,a2k,r8,r9,evr],rfl⟩
 have sl:=s94 ei.ls ej.ls ei.ld ej.ld g2 ei.hld ej.hld ei.hll
 have sf:=s95 ei.fs ej.fs ei.fd ej.fd g2 ei.hfd ej.hfd ei.hl
 by_cases h9:ei.ls=ej.ls
 case neg=>exact ⟨_,by simp [-bind_some, h0,h1,h2,h3,h4,h5,h6,h7,h8,h9,hsc,a3T,a2k,r8,r9,evr,sl],rfl⟩
 by_cases h10:ei.fs=ej.fs
 case neg=>exact ⟨_,by simp [-bind_some, h0,h1,h2,h3,h4,h5,h6,h7,h8,h9,h10,hsc,a3T,a2k,r8,r9,evr,sl,sf],rfl⟩
 exact ⟨_,by simp [-bind_some, h0,h1,h2,h3,h4,h5,h6,h7,h8,h9,h10,hsc,a3T,a2k,r8,r9,evr,sl,sf],rfl⟩
theorem s61 (a b:Ev) (h:Hp):R b5u [.agg (evr a),.agg (evr b)] h=some (.bool (a2k a b),h):=by
 rw [e61]
 have h1:∀ e:Ev,a0N tab a2a [1] [.agg (evr e)]=some (.agg (itr ⟨[],e⟩)):=fun e=>id rfl
 simp [-bind_some, F61,evL,h1,s82,a3T]
def a8i (l:List (Str × Str)) (n:Str):Option Str:=(l.find? fun p=>p.1==n).map (·.2)
def a8t (l:List (Str × Str)) (n:Str):D := .tup [.str ((a8i l n).getD []),.bool (a8i l n).isSome]
theorem l70 (l:List (Str × Str)) (d:D) (n:Str) (h:Hp) (hd:SlOf 2 fld l d) (hl:l.length≤9223372036854775807) {β:Type} (K:Out→Option β) (X:Str→Option β) (Y:Option β)
   (hX:∀ v r,K (.ret,.str v :: .bool true::r,h)=X v) (hY:∀ r,K (.ext 0,r,h)=Y):∀ (suf pre:List (Str × Str)),l=pre++suf→∀ a b c e f,
   (a0z (a7g (.str n) d (.int .i64 l.length)) [a,b,c,.int .i64 pre.length,e,f] h).bind K=match a8i suf n with | some v=>X v | none=>Y:=by
 intro suf
 induction suf with
 | nil =>
  rintro pre rfl a b c e f
  rw [a1w]
  simp [-bind_some, a7g,hY,a8i]
 | cons p suf ih =>
  rintro pre rfl a b c e f
  have hw:IntKind.wrap .i64 ((pre.length:Int)+1)=(pre++[p]).length:=by
   rw [wrap_i64 (by omega) (by simp at hl;omega)];simp [-bind_some]
  have hlt:(pre.length:Int)<(pre++p::suf).length:=by simp;omega
  rw [a1w]
  generalize hL:pre++p::suf=L at *
  have hg:L[pre.length]?=some p:=by rw [← hL];exact a4Z _ _ _
  by_cases hp:p.1=n
  ·simp [-bind_some, a7g,b0z hd,hlt,hg,fld,hp,hX,a8i]
  ·have:=ih (pre++[p]) (by simp [-bind_some, ← hL]) a b (.fptr (fld p)) (.bool true) (.bool (p.1==n))
   simp only [← hw] at this
   simp [-bind_some, a7g,b0z hd,hlt,hg,fld,hp,a8i]
   simp [-bind_some, fld,a8i] at this
   exact this
theorem s70 (l:List (Str × Str)) (d:D) (n:Str) (h:Hp) (hd:SlOf 2 fld l d) (hl:l.length≤9223372036854775807):R c3y [d,.str n] h=some (a8t l n,h):=by
 rw [e70]
 simp only [F70,bs,a4p hd,c8N]
 rw [show (0:Int)=(([]:List (Str × Str)).length:Int) from rfl,l70 l d n h hd hl _ (fun v=>some (.tup [.str v,.bool true],h)) (some (.tup [.str [],.bool false],h)) (fun v r=>by simp) (fun r=>by simp) l [] rfl]
 unfold a8t
 cases a8i l n <;> rfl
theorem l76 (l:List (Str × Str)) (d:D) (n:Str) (h:Hp) (hd:SlOf 2 fld l d) (hl:l.length≤9223372036854775807) {β:Type} (K:Out→Option β) (X:Str→Option β) (Y:Option β)
   (hX:∀ v r,K (.ret,.str v :: .bool true::r,h)=X v) (hY:∀ r,K (.ext 0,r,h)=Y):∀ (suf pre:List (Str × Str)),l=pre++suf→∀ a b e f,
   (a0z (a7h d (.str n)) [a,b,.int .i64 pre.length,e,f] h).bind K=match a8i suf n with | some v=>X v | none=>Y:=by
 intro suf
 induction suf with
 | nil =>
  rintro pre rfl a b e f
  rw [a1w]
  simp [-bind_some, a7h,a4p hd,hY,a8i]
 | cons p suf ih =>
  rintro pre rfl a b e f
  have hw:IntKind.wrap .i64 ((pre.length:Int)+1)=(pre++[p]).length:=by
   rw [wrap_i64 (by omega) (by simp at hl;omega)];simp [-bind_some]
  have hlt:(pre.length:Int)<(pre++p::suf).length:=by simp;omega
  rw [a1w]
  generalize hL:pre++p::suf=L at *
  have hg:L[pre.length]?=some p:=by rw [← hL];exact a4Z _ _ _
  by_cases hp:p.1=n
  ·simp [-bind_some, a7h,a4p hd,b0z hd,hlt,hg,fld,hp,hX,a8i]
  ·have:=ih (pre++[p]) (by simp [-bind_some, ← hL]) a b (.bool true) (.bool (p.1==n))
   simp only [← hw] at this
   simp [-bind_some, a7h,a4p hd,b0z hd,hlt,hg,fld,hp,a8i]
   simp [-bind_some, fld,a8i] at this
   exact this
theorem s76 (l:List (Str × Str)) (d:D) (n:Str) (h:Hp) (hd:SlOf 2 fld l d) (hl:l.length≤9223372036854775807):R c3z [d,.str n] h=some (a8t l n,h):=by
 rw [e76]
 simp only [F76,bs,a4p hd,c8N]
 rw [show (0:Int)=(([]:List (Str × Str)).length:Int) from rfl,l76 l d n h hd hl _ (fun v=>some (.tup [.str v,.bool true],h)) (some (.tup [.str [],.bool false],h)) (fun v r=>by simp) (fun r=>by simp) l [] rfl]
 unfold a8t
 cases a8i l n <;> rfl
theorem s75 (n:Str) (e:Ev) (h:Hp):R c1G [.agg (evr e),.str n] h=some (a8t e.fs n,h):=by
 rw [e75]
 simp [-bind_some, F75,evr,s70 _ _ _ _ e.hfd e.hl,a8t]
def idx {α:Type} (pr:α→Bool):Nat→List α→Int
 | _,[] => -1
 | k,x::r=>if pr x=true then k else idx pr (k+1) r
theorem a7K {zs:List Int} {d:D} (hd:a3G .u8 zs d):a0B tab a3h d=some (.int .i64 zs.length):=by
 rcases hd with ⟨rfl,rfl⟩ | rfl
 ·rfl
 ·simp [-bind_some, a9M]
theorem s57 (o pos:Nat) (zs:List Int) (d:D) (h:Hp) (ho:h[o]?=some (.row a3r 2 [[d,.int .i64 pos]])) (hd:a3G .u8 zs d):R c1E [.ptr o 0 0] h=some (.bool (decide (pos<zs.length)),h):=by
 rw [e57]
 simp [-bind_some, F57,Hp.row,ho,a7K hd]
theorem b4o {zs:List Int} {d:D} (hd:a3G .u8 zs d) (i:Nat) (z:Int) (hz:zs[i]?=some z):a0a tab a3h d (.int .i64 i)=some (.fptr [.int .u8 z]):=by
 rcases hd with ⟨rfl,rfl⟩ | rfl
 ·cases hz
 ·simp [-bind_some, a9M,hz]
theorem b0J (h:Hp) (o k f:Nat) (v:D):a0p tab h ty3 (.ptr o k f) v=pSt 1 h (.ptr o k f) v:=rfl
theorem s24 (o pos:Nat) (zs:List Int) (d:D) (n z:Int) (h:Hp) (ho:h[o]?=some (.row a3r 2 [[d,.int .i64 pos]])) (hd:a3G .u8 zs d) (hn:1≤n) (hn2:n≤1000000000) (hz:zs[pos]?=some z) (hz0:0≤z) (hz1:z<256) (hl:zs.length≤1000) :
  R a2f [.ptr o 0 0,.int .i64 n] h=some (.int .i64 (z*n / 256),h.set o (.row a3r 2 [[d,.int .i64 ((pos+1:Nat):Int)]])):=by
 have hp:pos<zs.length:=(c9d.1 hz).1
 have hn':¬ n<1:=by omega
 have hw:IntKind.wrap .i64 ((pos:Int)+1)=(pos:Int)+1:=wrap_i64 (by omega) (by omega)
 have hzw:IntKind.wrap .i64 z=z:=wrap_i64 (by omega) (by omega)
 rw [e24]
 simp [-bind_some, F24,s57 o pos zs d h ho hd,hp,hn',Hp.row,ho,b4o hd pos z hz,hw,hzw,b0J,pSt,D.okv,a0A,D.one,spl]
 have h0:0≤z*n:=Int.mul_nonneg hz0 (by omega)
 have h1:z*n≤255*1000000000:=Int.mul_le_mul (by omega) hn2 (by omega) (by omega)
 have e1:IntKind.wrap .i64 (z*n)=z*n:=wrap_i64 (by omega) (by omega)
 rw [e1,Int.tdiv_eq_ediv_of_nonneg h0,wrap_i64 (by omega) (by omega)]
def CO (h:Hp) (o:Nat) (rest:List Int):Prop:=∃ (d:D) (zs:List Int) (pos:Nat),h[o]?=some (.row a3r 2 [[d,.int .i64 pos]])∧a3G .u8 zs d∧zs.length≤1000∧rest=zs.drop pos∧∀ z∈zs,0≤z∧z<256
def nx (n:Int):List Int→Int × List Int
 | []=>(0,[])
 | z::r=>if n<1 then (0,z::r) else (z*n / 256,r)
theorem b7c {h:Hp} {o:Nat} {rest:List Int} (hc:CO h o rest):R c1E [.ptr o 0 0] h=some (.bool (decide (rest≠[])),h):=by
 obtain ⟨d,zs,pos,ho,hd,hl,rfl,hz⟩:=hc
 rw [s57 o pos zs d h ho hd]
 have:(pos<zs.length)↔zs.drop pos≠[]:=by
  rw [ne_eq,List.drop_eq_nil_iff];omega
 congr 3
 exact decide_eq_decide.2 this
theorem b7l {h:Hp} {o:Nat} {rest:List Int} (hc:CO h o rest) (n:Int) (hn2:n≤1000000000):∃ h',R a2f [.ptr o 0 0,.int .i64 n] h=some (.int .i64 (nx n rest).1,h')∧CO h' o (nx n rest).2∧Same o h h':=by
 have hl:=b7c hc
 cases hr:rest with
 | nil =>
  subst hr
  refine ⟨h,?_,hc,.refl _ _⟩
  rw [e24]
  simp [-bind_some, F24,hl,nx]
 | cons z r =>
  by_cases hn:n<1
  ·refine ⟨h,?_,by simpa [-bind_some, nx,hn,hr] using hc,.refl _ _⟩
   rw [e24]
   simp [-bind_some, F24,hl,nx,hn,hr]
  ·obtain ⟨d,zs,pos,ho,hd,hl4,hrest,hz⟩:=hc
   have hzp:zs[pos]?=some z:=by
    have:(zs.drop pos)[0]?=some z:=by rw [← hrest,hr];rfl
    simpa using this
   have hm:=hz z (c9b hzp)
   have holt:o<h.length:=(c9d.1 ho).1
   refine ⟨_,(s24 o pos zs d n z h ho hd (by omega) hn2 hzp hm.1 hm.2 hl4).trans (by rw [show (nx n (z::r)).1=z*n / 256 by simp [-bind_some, nx,hn]]),?_,?_⟩
   ·refine ⟨d,zs,pos+1,by simp [-bind_some, holt],hd,hl4,?_,hz⟩
    have:(zs.drop pos).drop 1=r:=by rw [← hrest,hr];rfl
    simpa [-bind_some, nx,hn] using this.symm
   ·exact ⟨by simp,fun q hq=>by rw [c9m (by omega)]⟩
theorem a9T (n:Int) (rest:List Int) (h:∀ z∈rest,0≤z∧z<256):0≤(nx n rest).1∧(1≤n→(nx n rest).1<n):=by
 cases rest with
 | nil=>simp [-bind_some, nx];omega
 | cons z r =>
  have:=h z (by simp)
  unfold nx
  by_cases hn:n<1
  ·simp [-bind_some, hn];omega
  ·simp only [hn,if_false]
   have h0:0≤z*n:=Int.mul_nonneg this.1 (by omega)
   have h1:z*n≤255*n:=Int.mul_le_mul_of_nonneg_right (by omega) (by omega)
   constructor
   ·omega
   ·intro _;omega
def CD (h:Hp) (o:Nat):Prop:=∃ rest,CO h o rest
theorem CD.keep {h h':Hp} {o:Nat} (hc:CD h o) (he:h'[o]?=h[o]?):CD h' o:=by
 obtain ⟨rest,d,zs,pos,ho,hr⟩:=hc
 exact ⟨rest,d,zs,pos,by rw [he];exact ho,hr⟩
theorem CD.lt {h:Hp} {o:Nat} (hc:CD h o):o<h.length:=by
 obtain ⟨rest,d,zs,pos,ho,hr⟩:=hc
 exact (c9d.1 ho).1
theorem CD.ok {h:Hp} {o:Nat} (hc:CD h o) (n:Nat):∀ T sz rows,h[o]?=some (.row T sz rows)→∀ row∈rows,∀ d∈row,Ok n d:=by
 obtain ⟨rest,d,zs,pos,ho,hd,_⟩:=hc
 intro T sz rows hr row hrow x hx
 rw [ho] at hr
 injection hr with hr
 injection hr with _ _ hr
 subst hr
 simp at hrow
 subst hrow
 simp at hx
 rcases hx with rfl | rfl
 ·exact b1Z hd n
 ·exact .int _ _
theorem a1z {h:Hp} {o:Nat} (hc:CD h o) (n:Int) (hn:1≤n) (hn2:n≤1000000000):∃ v h',R a2f [.ptr o 0 0,.int .i64 n] h=some (.int .i64 v,h')∧CD h' o∧Same o h h'∧0≤v∧v<n:=by
 obtain ⟨rest,hc⟩:=hc
 obtain ⟨h',h1,h2,h3⟩:=b7l hc n hn2
 have hb:∀ z∈rest,0≤z∧z<256:=by
  obtain ⟨d,zs,pos,ho,hd,hl,rfl,hz⟩:=hc
  exact fun z hz'=>hz z (List.mem_of_mem_drop hz')
 exact ⟨_,h',h1,⟨_,h2⟩,h3,(a9T n rest hb).1,(a9T n rest hb).2 hn⟩
theorem c5t {h:Hp} {o:Nat} (hc:CD h o):∃ s h',R b4l [.ptr o 0 0] h=some (.str s,h')∧CD h' o∧Same o h h'∧s.length≤7:=by
 obtain ⟨v,h',h1,h2,h3,h4,h5⟩:=a1z hc 14 (by omega) (by omega)
 obtain ⟨s,hs,hg⟩:=a2r lt98_10 v h4 h5
 refine ⟨s,h',?_,h2,h3,?_⟩
 ·rw [c5S];simp [-bind_some, c5m,h1,h4,hg]
 ·exact (show ∀ s∈lt98_10,s.length≤7 by decide) s hs
theorem d33 {h:Hp} {o:Nat} (hc:CD h o):∃ s h',R c1B [.ptr o 0 0] h=some (.str s,h')∧CD h' o∧Same o h h'∧s.length≤19:=by
 obtain ⟨v,h',h1,h2,h3,h4,h5⟩:=a1z hc 11 (by omega) (by omega)
 obtain ⟨s,hs,hg⟩:=a2r lt98_1 v h4 h5
 refine ⟨s,h',?_,h2,h3,?_⟩
 ·rw [e33];simp [-bind_some, F33,h1,h4,hg]
 ·exact (show ∀ s∈lt98_1,s.length≤19 by decide) s hs
theorem d97 {h:Hp} {o:Nat} (hc:CD h o):∃ n h',R c1J [.ptr o 0 0] h=some (.int .i64 n,h')∧CD h' o∧Same o h h'∧1≤n∧n≤5040∧Int.tmod 5040 n=0:=by
 obtain ⟨v,h',h1,h2,h3,h4,h5⟩:=a1z hc 6 (by omega) (by omega)
 obtain ⟨s,hs,hg⟩:=a2r lt82_8 v h4 h5
 refine ⟨s,h',?_,h2,h3,?_⟩
 ·rw [e97];simp [-bind_some, F97,h1,h4,hg]
 ·exact (show ∀ s∈lt82_8,1≤s∧s≤5040∧Int.tmod 5040 s=0 by decide) s hs
theorem d35 {h:Hp} {o:Nat} (hc:CD h o):∃ n h',R c1C [.ptr o 0 0] h=some (.int .i64 n,h')∧CD h' o∧Same o h h'∧0≤n∧n≤253402300799999:=by
 obtain ⟨v,h',h1,h2,h3,h4,h5⟩:=a1z hc 4 (by omega) (by omega)
 rw [e35]
 by_cases v0:v=0
 ·obtain ⟨u,g',g1,g2,g3,g4,g5⟩:=a1z h2 40 (by omega) (by omega)
  refine ⟨u*86400000,g',?_,g2,h3.trans g3,by omega,by omega⟩
  simp [-bind_some, F35,h1,v0,g1,wrap_i64 (n:=u*86400000) (by omega) (by omega)]
 ·by_cases v1:v=1
  ·obtain ⟨u,g',g1,g2,g3,g4,g5⟩:=a1z h2 3 (by omega) (by omega)
   refine ⟨253402300799999 - u*86400000,g',?_,g2,h3.trans g3,by omega,by omega⟩
   simp [-bind_some, F35,h1,v0,v1,g1,wrap_i64 (n:=u*86400000) (by omega) (by omega),wrap_i64 (n:=253402300799999 - u*86400000) (by omega) (by omega)]
  ·obtain ⟨u,g',g1,g2,g3,g4,g5⟩:=a1z h2 60 (by omega) (by omega)
   refine ⟨1000+u,g',?_,g2,h3.trans g3,by omega,by omega⟩
   simp [-bind_some, F35,h1,v0,v1,g1,wrap_i64 (n:=1000+u) (by omega) (by omega)]
structure St (h0:Hp) (o:Nat) (g:Hp):Prop where
 lt:o<h0.length
 cd:CD g o
 gr:Grow h0.length o h0 g
theorem St.refl {h:Hp} {o:Nat} (hc:CD h o):St h o h:=⟨hc.lt,hc,.refl _ _ _⟩
theorem St.next {h0 g g':Hp} {o:Nat} (s:St h0 o g) (hc:CD g' o) (hs:Same o g g'):St h0 o g':=⟨s.lt,hc,s.gr.trans hs.grow⟩
theorem St.app {h0 g g':Hp} {o:Nat} (s:St h0 o g) (hl:g.length≤g'.length) (hb:∀ q,q<h0.length→g'[q]?=g[q]?):St h0 o g':=⟨s.lt,s.cd.keep (hb o s.lt),s.gr.trans ⟨hl,fun q hq _=>hb q hq⟩⟩
theorem St.le {h0 g:Hp} {o:Nat} (s:St h0 o g):h0.length≤g.length:=s.gr.1
theorem St.scope {h0 g:Hp} {o:Nat} (s:St h0 o g) {d d':D} (hd:frz h0.length g 4 d=d') (hok:Ok h0.length d'):∃ h',scope h0 g d=some (d',h')∧CD h' o∧Same o h0 h':=by
 obtain ⟨h1,h2,h3⟩:=a4g hd hok s.gr (s.cd.ok h0.length)
 exact ⟨_,h1,s.cd.keep (h3 o s.lt),h2⟩
theorem d44 (zs:List Int) (d:D) (n:Int) (h:Hp) (hd:a3G .u8 zs d) (hn:0≤n) (hn2:n≤1000) (hz:∀ z∈zs,0≤z∧z<256):∃ h',R c3x [d,.int .i64 n] h=some (.ptr h.length 0 0,h')∧CD h' h.length∧h'.length=h.length+1:=by
 rw [e44]
 have hm:∃ m:Int,b5o (.int .i64 zs.length) (.int .i64 n)=some (.int .i64 m)∧0≤m∧m≤zs.length∧m≤1000:=by
  rw [b3X]
  split
  ·exact ⟨_,rfl,by omega,by omega,by omega⟩
  ·exact ⟨_,rfl,by omega,by omega,by omega⟩
 obtain ⟨m,hm,h0,h1,h2⟩:=hm
 obtain ⟨d',hs,hg⟩:=b4n (T:=tab) (t:=a3h) (i:=ti22) (j:=ti5) (id rfl) (id rfl) (id rfl) (id rfl) hd (k2 := .i64) h0 h1
 simp only [F44,bs,a7K hd,hm,hs,b6i d' (b2a hg)]
 rw [b4Y a3r 2 h [d',.int .i64 0] rfl (by omega)]
 refine ⟨_,rfl,⟨_,d',zs.take m.toNat,0,by simp [-bind_some, a1h],hg,?_,rfl,fun z hz'=>hz z (List.mem_of_mem_take hz')⟩,by simp [-bind_some, a1h]⟩
 simp [-bind_some];omega
theorem d96 {h:Hp} {o:Nat} (hc:CD h o):∃ s h',R c1I [.ptr o 0 0] h=some (.str s,h')∧CD h' o∧Same o h h'∧s.length≤34:=by
 suffices Wp (R c1I [.ptr o 0 0] h) (fun p=>∃ s,p.1 = .str s∧CD p.2 o∧Same o h p.2∧s.length≤34) by
  obtain ⟨⟨x,h'⟩,h1,s,rfl,h2⟩:=this
  exact ⟨s,h',h1,h2⟩
 rw [e96]
 simp only [F96,bs,c8N]
 obtain ⟨s,h1,e1,c1,s1,b1⟩:=c5t hc
 refine Wp.step e1 ?_
 simp only [bs]
 obtain ⟨v,h2,e2,c2,s2,v0,v1⟩:=a1z c1 4 (by omega) (by omega)
 refine Wp.step e2 ?_
 simp only [bs]
 refine Wp.loop (fun k ds g=>∃ s a,ds=[.str s,.int .i64 k,a]∧CD g o∧Same o h g∧k≤3∧s.length+9*k≤34) (fun r=>r.1 = .ext 0∧∃ s a b,r.2.1=[.str s,a,b]∧CD r.2.2 o∧Same o h r.2.2∧s.length≤34) v.toNat ⟨s,.any,by rw [Int.toNat_of_nonneg v0],c2,s1.trans s2,by omega,by omega⟩ ?_ ?_
 ·rintro k ds g ⟨s,a,rfl,cg,sg,hk,hs⟩
  simp only [b5g,a0e,a0g,bs,a1e]
  refine Wp.dif ?_ ?_
  ·intro h0
   have h0:0<(k:Int):=by simpa using h0
   simp only [b2A,bs]
   obtain ⟨v,h2,e2,c2,s2,v0,v1⟩:=a1z cg 5 (by omega) (by omega)
   obtain ⟨u,hu,hg⟩:=a2r lt98_7 v v0 v1
   have hul:=(show ∀ s∈lt98_7,s.length≤2 by decide) u hu
   refine Wp.step e2 ?_
   simp only [b6R,v0,if_true,c9a,hg,Option.map_some,bs,ld9]
   obtain ⟨w,h3,e3,c3,s3,b3⟩:=c5t c2
   refine Wp.step e3 ?_
   rw [a3J _ _ _ _ (by omega)]
   simp only [bs]
   rw [a3J _ _ _ _ (by simp;omega)]
   have hk1:IntKind.wrap .i64 ((k:Int) - 1)=((k - 1:Nat):Int):=by
    rw [wrap_i64 (by omega) (by omega)];omega
   simp only [bs,a0t,a1j,hk1]
   exact .some (.inl ⟨rfl,k - 1,by omega,s++(u++w),_,rfl,c3,(sg.trans s2).trans s3,by omega,by simp;omega⟩)
  ·intro _
   exact .some (.inr ⟨by simp,rfl,s,_,_,rfl,cg,sg,by omega⟩)
 ·rintro ⟨x,ds,g⟩ ⟨rfl,s,a,b,rfl,cg,sg,hs⟩
  simp only [a0o,a0j,a0e,bs,a0s]
  exact .some ⟨s,rfl,cg,sg,hs⟩
def c1y (l:List (Str × Str)):Prop:=(l.map (·.1)).Sublist lt98_9∧∀ p∈l,p.2.length≤19
theorem d98 {h:Hp} {o:Nat} (hc:CD h o):∃ x h',R b9N [.ptr o 0 0] h=some (x,h')∧CD h' o∧Same o h h'∧∃ l,SlOf 2 fld l x∧c1y l:=by
 suffices Wp (R b9N [.ptr o 0 0] h) (fun p=>CD p.2 o∧Same o h p.2∧∃ l,SlOf 2 fld l p.1∧c1y l) by
  obtain ⟨⟨x,h'⟩,h1,h2⟩:=this
  exact ⟨x,h',h1,h2⟩
 rw [e98]
 simp only [F98,bs,c8N,b2B]
 refine Wp.loop (fun k ds g=>∃ x a b,∃ (i:Nat) (l:List (Str × Str)),ds=[x,.int .i64 i,a,b]∧St h o g∧k+i=4∧Own g h.length a2s 2 (l.map fld) x∧(l.map (·.1)).Sublist (lt98_9.take i)∧∀ p∈l,p.2.length≤19)
  (fun r=>r.1 = .ext 0∧∃ x a b c l,r.2.1=[x,a,b,c]∧St h o r.2.2∧Own r.2.2 h.length a2s 2 (l.map fld) x∧c1y l) 4 ⟨.nils,.any,.any,0,[],rfl,.refl hc,rfl,Own.nils _ _ _ _,by simp,by simp⟩ ?_ ?_
 ·rintro k ds g ⟨x,a,b,i,l,rfl,S,hk,ow,hsub,hv⟩
  have hw:IntKind.wrap .i64 ((i:Int)+1)=(i+1:Nat):=by
   rw [wrap_i64 (by omega) (by omega)];omega
  simp only [b5h,a0e,a0g,bs,c4a,c8T,b0B,a0q]
  refine Wp.dif ?_ ?_
  ·intro h0
   have h0:i<4:=dl_ h0
   obtain ⟨v,h1,e1,c1,s1,v0,v1⟩:=a1z S.cd 3 (by omega) (by omega)
   have S1:=S.next c1 s1
   replace ow:=ow.same s1 hc.lt
   refine Wp.step e1 ?_
   simp only [a0Q,bs]
   refine Wp.join (P:=fun r=>∃ x g,∃ l:List (Str × Str),r=(.nrm,[x],g)∧St h o g∧Own g h.length a2s 2 (l.map fld) x∧(l.map (·.1)).Sublist (lt98_9.take (i+1))∧∀ p∈l,p.2.length≤19) ?_ ?_ ?_
   ·intro _
    have hg:lt98_9[i]?=some lt98_9[i]:=c9c h0
    simp only [b6R,Int.natCast_nonneg,if_true,c8W,c9a,hg,Option.map_some,bs,ld9]
    obtain ⟨u,h2,e2,c2,s2,hu⟩:=d33 S1.cd
    have S2:=S1.next c2 s2
    replace ow:=ow.same s2 hc.lt
    refine Wp.step e2 ?_
    simp only [bs,b0T,b9j]
    have hll:l.length≤4:=by
     have:=hsub.length_le
     simp at this
     omega
    refine c5g S2.le ow (a0O _ _ _ _) (by simp;omega) fun x' g' ow len bel _ _=>?_
    simp only [bs,a1j]
    refine .some ⟨x',g',l++[(lt98_9[i],u)],rfl,S2.app len bel,by rw [c8U];exact ow,?_,?_⟩
    ·rw [c8Z,hg,c8U]
     exact hsub.append (List.Sublist.refl _)
    ·intro p hp
     rcases c9j.1 hp with hp | hp
     ·exact hv p hp
     ·simp at hp;subst hp;exact hu
   ·intro _
    refine .some ⟨_,_,l,rfl,S1,ow,hsub.trans ?_,hv⟩
    rw [c8Z]
    exact List.sublist_append_left _ _
   ·rintro _ ⟨x,g,l,rfl,S,ow,hsub,hv⟩
    simp only [a0L,a0j,a0e,a0k,bs,hw]
    exact .some (.inl ⟨rfl,k - 1,by omega,x,_,_,i+1,l,rfl,S,by omega,ow,hsub,hv⟩)
  ·intro h0
   have h0:¬ i<4:=by
    have:¬ (i:Int)<4:=by simpa using h0
    omega
   refine .some (.inr ⟨by simp,rfl,x,_,_,_,l,rfl,S,ow,hsub.trans (List.take_sublist _ _),hv⟩)
 ·rintro ⟨x,ds,g⟩ ⟨rfl,x,a,b,c,l,rfl,S,ow,hl⟩
  simp only [a0o,a0j,a0e,bs,a0s]
  have hsl:=a2D (n:=3) ow (Nat.le_refl _) (fun a _=>a8r _ g _ a)
  obtain ⟨h',hs,hcd,hsm⟩:=S.scope rfl (a1C hsl fun a _=>b1y _ a)
  exact ⟨_,hs,hcd,hsm,l,hsl,hl⟩
def chain:Int→List Lin→Int→Prop
 | a,[],b=>a=b
 | a,l::r,b=>l.off=a∧1≤l.len∧l.len≤36∧l.txt.length+1≤l.len∧chain (a+l.len) r b
theorem a5y:∀ (ls:List Lin) (a b:Int) (l:Lin),chain a ls b→l.off=b→1≤l.len→l.len≤36→l.txt.length+1≤l.len→chain a (ls++[l]) (b+l.len)
 | [],a,b,l,h,h1,h2,h3,h4=>by
  simp only [chain] at h
  subst h
  exact ⟨h1,h2,h3,h4,rfl⟩
 | x::r,a,b,l,h,h1,h2,h3,h4=>⟨h.1,h.2.1,h.2.2.1,h.2.2.2.1,a5y r _ b l h.2.2.2.2 h1 h2 h3 h4⟩
def a4s (l:Lin):Lin:={ l with txt:=[] }
theorem a4K:∀ (ls:List Lin) (a b:Int),chain a ls b→chain a (ls.map a4s) b
 | [],a,b,h=>h
 | x::r,a,b,h=>⟨h.1,h.2.1,h.2.2.1,by simp [-bind_some, a4s];exact h.2.1,a4K r _ b h.2.2.2.2⟩
theorem a4x:∀ (ls:List Lin) (a b:Int),chain a ls b→a+ls.length≤b∧b≤a+36*ls.length
 | [],a,b,h=>by simp [-bind_some, chain] at h;simp [-bind_some];omega
 | x::r,a,b,h=>by
  have:=a4x r _ b h.2.2.2.2
  have:=h.2.1
  have:=h.2.2.1
  simp only [c9e]
  omega
structure ItOK (hst fil frm:Int) (i:It):Prop where
 host:i.e.a0=hst
 file:i.e.a1=fil
 fr:i.e.a2=frm
 ch:chain frm i.e.ls i.e.a3
 n1:1≤i.e.ls.length
 n3:i.e.ls.length≤3
 ev:i.r=[]→0≤i.e.a5∧i.e.a5≤253402300799999∧1≤i.e.a6∧i.e.a6≤5040∧i.e.s7∈lt98_5∧i.e.s8∈lt98_6∧c1y i.e.fs∧∀ l∈i.e.ls,l.len≤l.txt.length+2
 wt:i.r=[]→Int.tmod 5040 i.e.a6=0
 sk:i.r≠[]→i.r∈lt98_4∧i.e.a5=0∧i.e.a6=0∧i.e.s7=[]∧i.e.s8=[]∧i.e.fs=[]∧∀ l∈i.e.ls,l.txt=[]
theorem b3c (ls:List Lin) (i:Nat) (hi:i<ls.length):(((ls.take i).map a4s++ls.drop i).map a3Y).set i (a3Y (a4s ls[i]))=((ls.take (i+1)).map a4s++ls.drop (i+1)).map a3Y:=by
 rw [List.drop_eq_getElem_cons hi,c8Z,c9c hi]
 simp only [c8U,c8V,Option.toList_some,List.map_nil]
 rw [List.set_append_right _ _ (by simp;omega)]
 simp [-bind_some, Nat.min_eq_left (Nat.le_of_lt hi)]
theorem b1Y (ls:List Lin) (i:Nat) (hi:i<ls.length):(((ls.take i).map a4s++ls.drop i).map a3Y)[i]?=some (a3Y ls[i]):=by
 rw [List.drop_eq_getElem_cons hi,c9a,List.getElem?_append_right (by simp;omega)]
 simp [-bind_some, Nat.min_eq_left (Nat.le_of_lt hi)]
 exact ⟨_,c9c hi,rfl⟩
theorem c3Y {h:Hp} {q T z:Nat} {cs:List D} (hq:h[q]?=some (.row T z [cs])) (hl:cs.length=10):a0c tab h a0C (.ptr q 0 0)=some (.agg cs):=by
 rw [b2m,a1A hq]
 simp [-bind_some, a8d,hl]
 exact List.take_of_length_le (by omega)
theorem b5z {h:Hp} {q T z:Nat} {cs:List D} (hq:h[q]?=some (.row T z [cs])) (hl:cs.length=11):a0c tab h a2a (.ptr q 0 0)=some (.agg cs):=by
 rw [c3Z,a1A hq]
 simp [-bind_some, a8d,hl]
 exact List.take_of_length_le (by omega)
theorem b2w:∀ s∈lt98_4,s≠[]:=by decide
theorem d84 {h:Hp} {o:Nat} (hc:CD h o) (host file fr:Int) (hf0:0≤fr) (hf1:fr≤1000000000):∃ i h',R c1H [.ptr o 0 0,.int .i64 host,.int .i64 file,.int .i64 fr] h=some (.agg (itr i),h')∧CD h' o∧Same o h h'∧ItOK host file fr i:=by
 suffices Wp (R c1H [.ptr o 0 0,.int .i64 host,.int .i64 file,.int .i64 fr] h) (fun p=>∃ i,p.1 = .agg (itr i)∧CD p.2 o∧Same o h p.2∧ItOK host file fr i) by
  obtain ⟨⟨x,h'⟩,h1,i,rfl,h2⟩:=this
  exact ⟨i,h',h1,h2⟩
 have ho:=hc.lt
 rw [e84]
 simp only [F84,bs,c8N,b0l]
 generalize hg0:a1h (a1h h a2a 11 [[.str [],.int .i64 0,.int .i64 0,.int .i64 0,.int .i64 0,.nils,.int .i64 0,.int .i64 0,.str [],.str [],.nils]]) a0C 10 [[.int .i64 0,.int .i64 0,.int .i64 0,.int .i64 0,.nils,.int .i64 0,.int .i64 0,.str [],.str [],.nils]]=g0
 have S0:St h o g0:=(St.refl hc).app (by simp [-bind_some, ← hg0,a1h]) (fun q hq=>by simp only [← hg0,a1h];rw [c9l (by simp;omega),c9l hq])
 have p8:g0[h.length]?=some (.row a2a 11 [[.str [],.int .i64 0,.int .i64 0,.int .i64 0,.int .i64 0,.nils,.int .i64 0,.int .i64 0,.str [],.str [],.nils]]):=by
  simp only [← hg0,a1h];rw [c9l (by simp),List.getElem?_append_right (Nat.le_refl _)];simp [-bind_some]
 have p9:g0[h.length+1]?=some (.row a0C 10 [[.int .i64 0,.int .i64 0,.int .i64 0,.int .i64 0,.nils,.int .i64 0,.int .i64 0,.str [],.str [],.nils]]):=by
  simp only [← hg0,a1h];rw [List.getElem?_append_right (by simp)];simp [-bind_some]
 have hl9:(a1h h a2a 11 [[.str [],.int .i64 0,.int .i64 0,.int .i64 0,.int .i64 0,.nils,.int .i64 0,.int .i64 0,.str [],.str [],.nils]]).length=h.length+1:=by simp [-bind_some, a1h]
 rw [hl9]
 clear hl9 hg0
 have sm:∀ {a b:Hp},Same (h.length+1) a b→Grow h.length o a b:=fun s=>⟨Nat.le_of_eq s.1.symm,fun q hq _=>s.2 q (by omega)⟩
 refine b4Z p9 (by rfl) (by rfl) (by simp) (by rfl) fun g1 q9 sg=>?_
 replace q9:g1[h.length+1]?=some (.row a0C 10 [[.int .i64 host,.int .i64 file,.int .i64 fr,.int .i64 0,.nils,.int .i64 0,.int .i64 0,.str [],.str [],.nils]]):=q9
 replace p8:=(sg.2 h.length (by omega)).trans p8
 have S1:St h o g1:=S0.app (Nat.le_of_eq sg.1.symm) fun q hq=>sg.2 q (by omega)
 clear p9 sg S0
 obtain ⟨v,h1,e1,c1,s1,v0,v1⟩:=a1z S1.cd 3 (by omega) (by omega)
 replace q9:=(s1.2 (h.length+1) (by omega)).trans q9
 replace p8:=(s1.2 h.length (by omega)).trans p8
 have S2:=S1.next c1 s1
 refine Wp.step e1 ?_
 simp only [a0k,bs]
 rw [wrap_i64 (n:=1+v) (by omega) (by omega)]
 refine Wp.loop (fun k ds g=>∃ po:Int,∃ a b c x,∃ ls:List Lin,ds=[.int .i64 po,.int .i64 k,a,b,c]∧St h o g∧g[h.length]?=some (.row a2a 11 [[.str [],.int .i64 0,.int .i64 0,.int .i64 0,.int .i64 0,.nils,.int .i64 0,.int .i64 0,.str [],.str [],.nils]])
   ∧ g[h.length+1]?=some (.row a0C 10 [[.int .i64 host,.int .i64 file,.int .i64 fr,.int .i64 0,x,.int .i64 0,.int .i64 0,.str [],.str [],.nils]])∧Own g (h.length+2) a7f 3 (ls.map a3Y) x∧chain fr ls po∧ls.length+k=(1+v).toNat∧∀ l∈ls,l.len≤l.txt.length+2)
  (fun r=>r.1 = .ext 0∧∃ po:Int,∃ a b c d x,∃ ls:List Lin,r.2.1=[.int .i64 po,a,b,c,d]∧St h o r.2.2∧r.2.2[h.length]?=some (.row a2a 11 [[.str [],.int .i64 0,.int .i64 0,.int .i64 0,.int .i64 0,.nils,.int .i64 0,.int .i64 0,.str [],.str [],.nils]])
   ∧ r.2.2[h.length+1]?=some (.row a0C 10 [[.int .i64 host,.int .i64 file,.int .i64 fr,.int .i64 0,x,.int .i64 0,.int .i64 0,.str [],.str [],.nils]])∧Own r.2.2 (h.length+2) a7f 3 (ls.map a3Y) x∧chain fr ls po∧1≤ls.length∧ls.length≤3∧∀ l∈ls,l.len≤l.txt.length+2)
  (1+v).toNat ⟨fr,.any,.any,.any,.nils,[],by rw [Int.toNat_of_nonneg (by omega)],S2,p8,q9,Own.nils _ _ _ _,rfl,by simp,by simp⟩ ?_ ?_
 ·clear e1 S1 S2 q9 p8 c1 s1
  rintro k ds g ⟨po,a,b,c,x,ls,rfl,S,p8,p9,ow,hch,hk,htx⟩
  simp only [b5c,a0e,a0g,bs,a1e]
  refine Wp.dif ?_ ?_
  ·intro h0
   have h0:0<(k:Int):=by simpa using h0
   obtain ⟨t,g1,e1,c1,s1,ht⟩:=d96 S.cd
   have S1:=S.next c1 s1
   refine Wp.step e1 ?_
   simp only [b2p,a0k,bs]
   obtain ⟨u,g2,e2,c2,s2,u0,u1⟩:=a1z c1 2 (by omega) (by omega)
   have S2:=S1.next c2 s2
   have s12:=s1.trans s2
   replace p9:=(s12.2 (h.length+1) (by omega)).trans p9
   replace p8:=(s12.2 h.length (by omega)).trans p8
   replace ow:=ow.same s12 (by omega)
   refine Wp.step e2 ?_
   have w1:=wrap_i64 (n:=(t.length:Int)+1) (by omega) (by omega)
   have w2:=wrap_i64 (n:=(t.length:Int)+1+u) (by omega) (by omega)
   simp only [bs,c8N,a0k,w1,w2,b1x,c0g,a1A p9,c8Q,bs,Nat.zero_add,List.drop_succ_cons,List.drop_zero,List.head?_cons,b0m,b9i]
   have hlt:h.length+1<g2.length:=(c9d.1 p9).1
   have hcl:=a4x _ _ _ hch
   refine c5f (by omega) ow (a0O _ _ _ _) (by simp;omega) fun x' g3 ow3 len bel keep _=>?_
   have S3:=S2.app len fun q hq=>bel q (by omega)
   replace p9:=(bel (h.length+1) (by omega)).trans p9
   replace p8:=(bel h.length (by omega)).trans p8
   simp only [bs]
   refine c5h p9 (by rfl) (by cases x' <;> first | rfl | (have:=a5f ow3;simp [-bind_some, D.one] at this)) (by simp) (by cases x' <;> first | rfl | (have:=a5f ow3;simp [-bind_some, D.one] at this)) fun g4 p9' sg=>?_
   have hc1:a0A x'=[x']:=by cases x' <;> first | rfl | (have:=a5f ow3;simp [-bind_some, D.one] at this)
   rw [hc1] at p9'
   replace p9:g4[h.length+1]?=some (.row a0C 10 [[.int .i64 host,.int .i64 file,.int .i64 fr,.int .i64 0,x',.int .i64 0,.int .i64 0,.str [],.str [],.nils]]):=p9'
   replace p8:=(sg.2 h.length (by omega)).trans p8
   have S4:St h o g4:=S3.app (Nat.le_of_eq sg.1.symm) fun q hq=>sg.2 q (by omega)
   have ow4:=ow3.keep (h':=g4) fun q hq _=>sg.2 q (by omega)
   have w3:=wrap_i64 (n:=po+((t.length:Int)+1+u)) (by omega) (by omega)
   have hk1:IntKind.wrap .i64 ((k:Int) - 1)=((k - 1:Nat):Int):=by
    rw [wrap_i64 (by omega) (by omega)];omega
   simp only [a0k,bs,a0t,w3,hk1]
   refine .some (.inl ⟨rfl,k - 1,by omega,_,_,_,_,x',ls++[⟨po,(t.length:Int)+1+u,t⟩],rfl,S4,p8,p9,by rw [c8U];exact ow4,a5y _ _ _ _ hch rfl (by simp;omega) (by simp;omega) (by simp;omega),by simp;omega,?_⟩)
   intro l hl
   rcases c9j.1 hl with hl | hl
   ·exact htx l hl
   ·simp at hl;subst hl;simp [-bind_some];omega
  ·intro h0
   have h0:¬ 0<(k:Int):=by simpa using h0
   exact .some (.inr ⟨by simp,rfl,_,_,_,_,_,x,ls,rfl,S,p8,p9,ow,hch,by omega,by omega,htx⟩)
 ·clear e1 S1 S2 q9 p8 c1 s1
  rintro ⟨ex,ds,g⟩ ⟨rfl,po,a,b,c,d,x,ls,rfl,S,p8,p9,ow,hch,hl1,hl3,htx⟩
  simp only [a0o,a0j,a0e,bs,b6v]
  refine b8f p9 (by rfl) (by rfl) (by simp) (by rfl) fun g1 p9' sg=>?_
  replace p9:g1[h.length+1]?=some (.row a0C 10 [[.int .i64 host,.int .i64 file,.int .i64 fr,.int .i64 po,x,.int .i64 0,.int .i64 0,.str [],.str [],.nils]]):=p9'
  replace p8:=(sg.2 h.length (by omega)).trans p8
  have S1:St h o g1:=S.app (Nat.le_of_eq sg.1.symm) fun q hq=>sg.2 q (by omega)
  have ow1:=ow.keep (h':=g1) fun q hq _=>sg.2 q (by omega)
  clear S sg p9' ow
  obtain ⟨v,g2,e2,c2,s2,v0,v1⟩:=a1z S1.cd 5 (by omega) (by omega)
  replace p9:=(s2.2 (h.length+1) (by omega)).trans p9
  replace p8:=(s2.2 h.length (by omega)).trans p8
  have S2:=S1.next c2 s2
  have ow2:=ow1.same s2 (by omega)
  refine Wp.step e2 ?_
  simp only [a0Q,bs]
  refine Wp.dif ?_ ?_
  ·intro _
   refine Wp.loop (fun k ds g=>∃ b,∃ i:Nat,ds=[.int .i64 i,b]∧St h o g∧g[h.length]?=some (.row a2a 11 [[.str [],.int .i64 0,.int .i64 0,.int .i64 0,.int .i64 0,.nils,.int .i64 0,.int .i64 0,.str [],.str [],.nils]])
    ∧ g[h.length+1]?=some (.row a0C 10 [[.int .i64 host,.int .i64 file,.int .i64 fr,.int .i64 po,x,.int .i64 0,.int .i64 0,.str [],.str [],.nils]])∧Own g (h.length+2) a7f 3 (((ls.take i).map a4s++ls.drop i).map a3Y) x∧k+i=ls.length)
    (fun r=>r.1 = .ext 2∧∃ a b,r.2.1=[a,b]∧St h o r.2.2∧r.2.2[h.length]?=some (.row a2a 11 [[.str [],.int .i64 0,.int .i64 0,.int .i64 0,.int .i64 0,.nils,.int .i64 0,.int .i64 0,.str [],.str [],.nils]])
    ∧ r.2.2[h.length+1]?=some (.row a0C 10 [[.int .i64 host,.int .i64 file,.int .i64 fr,.int .i64 po,x,.int .i64 0,.int .i64 0,.str [],.str [],.nils]])∧Own r.2.2 (h.length+2) a7f 3 ((ls.map a4s).map a3Y) x) ls.length ⟨.any,0,rfl,S2,p8,p9,by simpa using ow2,rfl⟩ ?_ ?_
   ·clear S1 ow1 e2 c2 s2 S2 p8 p9 ow2
    rintro k ds g ⟨b,i,rfl,S,p8,p9,ow,hk⟩
    have hlen:(((ls.take i).map a4s++ls.drop i).map a3Y).length=ls.length:=by simp;omega
    have hlo:=c0k ow
    rw [hlen] at hlo
    simp only [b5d,a0e,a0g,bs,c8N,b1x,c0g,a1A p9,c8Q,Nat.zero_add,List.drop_succ_cons,List.drop_zero,List.head?_cons,hlo,a0q]
    refine Wp.dif ?_ ?_
    ·intro h0
     have hi:i<ls.length:=by
      have:(i:Int)<ls.length:=by simpa using h0
      omega
     obtain ⟨ob,hob,rfl,hgo⟩:=c0t ow (i:=i) (by rw [hlen];exact hi)
     rw [hlen] at *
     have hil:(i:Int)<ls.length:=by omega
     have hw:=wi_ i (by omega)
     simp only [c3O,Int.natCast_nonneg,hil,and_self,if_true,Nat.zero_add,c8W,bs,b6B]
     refine c1S hgo (b1Y ls i hi) (by rfl) (by simp [-bind_some, a3Y]) (by rfl) fun g1 hg1 sg=>?_
     have hset:(((ls.take i).map a4s++ls.drop i).map a3Y).set i (spl (a3Y ls[i]) 2 (a0A (.str [])))=((ls.take (i+1)).map a4s++ls.drop (i+1)).map a3Y:=b3c ls i hi
     rw [hset] at hg1
     simp only [a0k,bs,hw]
     refine .some (.inl ⟨rfl,k - 1,by omega,_,i+1,rfl,S.app (Nat.le_of_eq sg.1.symm) fun q hq=>sg.2 q (by omega),(sg.2 _ (by omega)).trans p8,(sg.2 _ (by omega)).trans p9,?_,by omega⟩)
     refine .inr ⟨ob,hob,?_,hg1⟩
     congr 1
     simp [-bind_some];omega
    ·intro h0
     have hi:i=ls.length:=by
      have:¬ (i:Int)<ls.length:=by simpa using h0
      omega
     subst hi
     refine .some (.inr ⟨by simp,rfl,_,_,rfl,S,p8,p9,by simpa using ow⟩)
   ·clear S1 ow1 e2 c2 s2 S2 p8 p9 ow2
    rintro ⟨ex,ds,g⟩ ⟨rfl,a,b,rfl,S,p8,p9,ow⟩
    simp only [a0o,a0j,a0e,bs,b2x]
    obtain ⟨v,g1,e1,c1,s1,v0,v1⟩:=a1z S.cd 3 (by omega) (by omega)
    obtain ⟨s,hs,hg⟩:=a2r lt98_4 v v0 v1
    have p9':=(s1.2 (h.length+1) (by omega)).trans p9
    replace p8:=(s1.2 h.length (by omega)).trans p8
    have S1:=S.next c1 s1
    have ow1:=ow.same s1 (by omega)
    refine Wp.step e1 ?_
    simp only [b6R,v0,if_true,c9a,hg,Option.map_some,bs,ld9,c3Y p9' rfl,c3Y p9 rfl,b3P,a1j]
    refine c1t p8 (by rfl) (by rfl) (by simp) (by rfl) fun g2 q8 sg=>?_
    replace q8:g2[h.length]?=some (.row a2a 11 [[.str s,.int .i64 host,.int .i64 file,.int .i64 fr,.int .i64 po,x,.int .i64 0,.int .i64 0,.str [],.str [],.nils]]):=q8
    have S2:St h o g2:=S1.app (Nat.le_of_eq sg.1.symm) fun q hq=>sg.2 q (by omega)
    have ow2:=ow1.keep (h':=g2) fun q hq _=>sg.2 q (by omega)
    simp only [b5z q8 rfl,bs,a0s]
    have hsl:=a2D (n0:=h.length) (n:=2) ow2 (by omega) (fun a _=>a6P _ g2 _ a)
    have hsl2:=b2w s hs
    obtain ⟨h',hsc,hcd,hsm⟩:=S2.scope (d := .agg [.str s,.int .i64 host,.int .i64 file,.int .i64 fr,.int .i64 po,x,.int .i64 0,.int .i64 0,.str [],.str [],.nils]) (d' := .agg (itr ⟨s,⟨host,file,fr,po,ls.map a4s,frz h.length g2 3 x,0,0,[],[],[],.nils,SlOf.nils _ _,by simp,hsl,by simp;omega⟩⟩)) (by simp [-bind_some, itr,evr]) (b5x _ _)
    rw [hsc]
    refine .some ⟨_,rfl,hcd,hsm,⟨rfl,rfl,rfl,a4K _ _ _ hch,by simpa using hl1,by simpa using hl3,fun h0=>absurd h0 hsl2,fun h0=>absurd h0 hsl2,fun _=>⟨hs,rfl,rfl,rfl,rfl,rfl,?_⟩⟩⟩
    intro l hl
    simp at hl
    obtain ⟨l0,_,rfl⟩:=hl
    rfl
  ·intro _
   clear e2 v0 v1
   obtain ⟨tm,g3,e3,c3,s3,t0,t1⟩:=d35 c2
   refine Wp.step e3 ?_
   simp only [bs]
   obtain ⟨wt,g4,e4,c4,s4,w0,w1,w2⟩:=d97 c3
   refine Wp.step e4 ?_
   have s3x4:=s3.trans s4
   replace p9:=(s3x4.2 (h.length+1) (by omega)).trans p9
   replace p8:=(s3x4.2 h.length (by omega)).trans p8
   have S4:=S2.next c4 s3x4
   have ow4:=ow2.same s3x4 (by omega)
   clear e3 e4 S1 S2 c3 s3 c2 s2 s4 s3x4 ow1 ow2 c4
   simp only [bs,b6w,b6x,b6y,b6z,b6A,Nat.zero_add]
   refine b8f p9 (by rfl) (by rfl) (by simp) (by rfl) fun g5 p9' sg=>?_
   refine b8f p9' (by rfl) (by rfl) (by simp [-bind_some, spl,a0A]) (by rfl) fun g6 p9'' sg2=>?_
   replace sg:=sg.trans sg2
   replace p9:g6[h.length+1]?=some (.row a0C 10 [[.int .i64 host,.int .i64 file,.int .i64 fr,.int .i64 po,x,.int .i64 tm,.int .i64 wt,.str [],.str [],.nils]]):=p9''
   replace p8:=(sg.2 h.length (by omega)).trans p8
   have S6:St h o g6:=S4.app (Nat.le_of_eq sg.1.symm) fun q hq=>sg.2 q (by omega)
   have ow6:=ow4.keep (h':=g6) fun q hq _=>sg.2 q (by omega)
   clear p9' p9'' sg sg2 S4 ow4
   simp only [b2y,bs]
   obtain ⟨v,g7,e7,c7,s7,v0,v1⟩:=a1z S6.cd 4 (by omega) (by omega)
   obtain ⟨tr,htr,hg⟩:=a2r lt98_5 v v0 v1
   refine Wp.step e7 ?_
   simp only [b6R,v0,if_true,c9a,hg,Option.map_some,bs,ld9,b2z]
   obtain ⟨v,g8,e8,c8,s8,v0,v1⟩:=a1z c7 2 (by omega) (by omega)
   obtain ⟨sm',hsm,hg⟩:=a2r lt98_6 v v0 v1
   refine Wp.step e8 ?_
   simp only [b6R,v0,if_true,c9a,hg,Option.map_some,bs,ld9,a1j]
   have s7x8:=s7.trans s8
   replace p9:=(s7x8.2 (h.length+1) (by omega)).trans p9
   replace p8:=(s7x8.2 h.length (by omega)).trans p8
   have S8:=S6.next c8 s7x8
   have ow8:=ow6.same s7x8 (by omega)
   clear e7 e8 S6 c7 s7 s8 s7x8 ow6 c8
   refine c1S p9 (by rfl) (by rfl) (by simp) (by rfl) fun g9 p9' sg=>?_
   refine c1S p9' (by rfl) (by rfl) (by simp [-bind_some, spl,a0A]) (by rfl) fun g10 p9'' sg2=>?_
   replace sg:=sg.trans sg2
   replace p9:g10[h.length+1]?=some (.row a0C 10 [[.int .i64 host,.int .i64 file,.int .i64 fr,.int .i64 po,x,.int .i64 tm,.int .i64 wt,.str tr,.str sm',.nils]]):=p9''
   replace p8:=(sg.2 h.length (by omega)).trans p8
   have S10:St h o g10:=S8.app (Nat.le_of_eq sg.1.symm) fun q hq=>sg.2 q (by omega)
   have ow10:=ow8.keep (h':=g10) fun q hq _=>sg.2 q (by omega)
   clear p9' p9'' sg sg2 S8 ow8
   obtain ⟨y,g11,e11,c11,s11,fs,hy,hfs⟩:=d98 S10.cd
   refine Wp.step e11 ?_
   replace p9:=(s11.2 (h.length+1) (by omega)).trans p9
   replace p8:=(s11.2 h.length (by omega)).trans p8
   have S11:=S10.next c11 s11
   have ow11:=ow10.same s11 (by omega)
   have oc:=a2X (a4E hy)
   refine c5i p9 (by rfl) (by rw [oc.1];rfl) (by simp) oc.2 fun g12 p9' sg=>?_
   rw [oc.1] at p9'
   replace p9:g12[h.length+1]?=some (.row a0C 10 [[.int .i64 host,.int .i64 file,.int .i64 fr,.int .i64 po,x,.int .i64 tm,.int .i64 wt,.str tr,.str sm',y]]):=p9'
   replace p8:=(sg.2 h.length (by omega)).trans p8
   have S12:St h o g12:=S11.app (Nat.le_of_eq sg.1.symm) fun q hq=>sg.2 q (by omega)
   have ow12:=ow11.keep (h':=g12) fun q hq _=>sg.2 q (by omega)
   clear e11 S11 ow11 S10 ow10 s11 c11 sg p9'
   simp only [c3Y p9 rfl,bs,b9g]
   refine c1t p8 (by rfl) (by rfl) (by simp) (by rfl) fun g2 q8 sg=>?_
   replace q8:g2[h.length]?=some (.row a2a 11 [[.str [],.int .i64 host,.int .i64 file,.int .i64 fr,.int .i64 po,x,.int .i64 tm,.int .i64 wt,.str tr,.str sm',y]]):=q8
   have S2:St h o g2:=S12.app (Nat.le_of_eq sg.1.symm) fun q hq=>sg.2 q (by omega)
   have ow2:=ow12.keep (h':=g2) fun q hq _=>sg.2 q (by omega)
   simp only [b5z q8 rfl,bs,a0s]
   have hsl:=a2D (n0:=h.length) (n:=2) ow2 (by omega) (fun a _=>a6P _ g2 _ a)
   have hfl:fs.length≤4:=by
    have:=hfs.1.length_le
    simpa using this
   have hfy:frz h.length g2 3 y=y:=a3o hy (fun a _=>a8r _ g2 _ a)
   obtain ⟨h',hsc,hcd,hsm2⟩:=S2.scope (d := .agg [.str [],.int .i64 host,.int .i64 file,.int .i64 fr,.int .i64 po,x,.int .i64 tm,.int .i64 wt,.str tr,.str sm',y]) (d' := .agg (itr ⟨[],⟨host,file,fr,po,ls,frz h.length g2 3 x,tm,wt,tr,sm',fs,y,hy,by omega,hsl,by omega⟩⟩)) (by simp [-bind_some, itr,evr,hfy]) (b5x _ _)
   rw [hsc]
   exact .some ⟨_,rfl,hcd,hsm2,⟨rfl,rfl,rfl,hch,hl1,hl3,fun _=>⟨t0,t1,w0,w1,htr,hsm,hfs,htx⟩,fun _=>w2,fun h0=>absurd rfl h0⟩⟩
def a2A (a b:Ev):Bool:=if a.a5=b.a5 then (if a.a0=b.a0 then (if a.a1=b.a1 then decide (a.a2<b.a2) else decide (a.a1<b.a1)) else decide (a.a0<b.a0)) else decide (a.a5<b.a5)
theorem s85 (a b:Ev) (h:Hp):R b6E [.agg (evr a),.agg (evr b)] h=some (.bool (a2A a b),h):=by
 rw [e85]
 by_cases h5:a.a5=b.a5
 ·by_cases h0:a.a0=b.a0
  ·by_cases h1:a.a1=b.a1
   ·simp [-bind_some, F85,evr,a2A,h5,h0,h1]
   ·simp [-bind_some, F85,evr,a2A,h5,h0,h1]
  ·simp [-bind_some, F85,evr,a2A,h5,h0]
 ·simp [-bind_some, F85,evr,a2A,h5]
def a1J (l:List Ev) (e:Ev):Nat→Nat
 | 0=>0
 | k+1=>match l[k]? with
  | some x=>if a2A e x=true then a1J l e k else k+1
  | none=>k+1
def ins (l:List Ev) (e:Ev):List Ev:=l.take (a1J l e l.length)++[e]++l.drop (a1J l e l.length)
theorem a5c (l:List Ev) (e:Ev):∀ k,a1J l e k≤k
 | 0=>Nat.le_refl _
 | k+1=>by
  unfold a1J
  cases l[k]? with
  | none=>simp [-bind_some]
  | some x =>
   by_cases h:a2A e x=true
   ·simp [-bind_some, h];have:=a5c l e k;omega
   ·simp [-bind_some, h]
theorem l72 (l:List Ev) (d:D) (e:Ev) (h:Hp) (hd:SlOf 10 evr l d) (hl:l.length≤1000000000):∀ k,k≤l.length→∀ a,∃ b,a0z (a5t d (.fptr (evr e))) [.int .i64 k,a] h=some (.ext 0,[.int .i64 (a1J l e k:Nat),b],h):=by
 intro k
 induction k with
 | zero =>
  intro _ a
  rw [a1w]
  exact ⟨_,by simp [-bind_some, a5t,a1J];rfl⟩
 | succ k ih =>
  intro hk a
  have hg:l[k]?=some l[k]:=c9c (by omega)
  have hp:(0:Int)<(k:Int)+1:=by omega
  have hw:IntKind.wrap .i64 (k:Int)=k:=wrap_i64 (by omega) (by omega)
  rw [a1w]
  by_cases hs:a2A e l[k]=true
  ·obtain ⟨b,ih⟩:=ih (by omega) (.bool true)
   refine ⟨b,?_⟩
   simp [-bind_some, a5t,a1J,hg,hs,hp,hw,evL,b0A hd,s85]
   simpa [-bind_some, a5t] using ih
  ·exact ⟨_,by simp [-bind_some, a5t,a1J,hg,hs,hp,hw,evL,b0A hd,s85];rfl⟩
theorem s72 (l:List Ev) (d:D) (e:Ev) (h:Hp) (hd:SlOf 10 evr l d) (hl:l.length≤1000000000):∃ d',R c1F [d,.agg (evr e)] h=some (d',h)∧SlOf 10 evr (ins l e) d':=by
 suffices Wp (R c1F [d,.agg (evr e)] h) (fun p=>p.2=h∧SlOf 10 evr (ins l e) p.1) by
  obtain ⟨⟨x,h'⟩,h1,rfl,h2⟩:=this
  exact ⟨x,h1,h2⟩
 rw [e72]
 obtain ⟨b,hlp⟩:=l72 l d e h hd hl l.length (Nat.le_refl _) .any
 have hp:=a5c l e l.length
 simp only [F72,a1l,bs,c8N,a9Q hd,hlp,a0o,a0j,a0e]
 obtain ⟨y1,hs1,hy1⟩:=b3d (T:=tab) (t:=a2o) (i:=c0R) (j:=c0Q) (id rfl) (id rfl) (id rfl) (id rfl) hd (k := .i64) (n:=(a1J l e l.length:Nat)) (by omega) (by omega)
 obtain ⟨y2,hs2,hy2⟩:=a8F (T:=tab) (t:=a2o) (i:=c0R) (j:=c0Q) (id rfl) (id rfl) (id rfl) (id rfl) hd (k := .i64) (n:=(a1J l e l.length:Nat)) (by omega) (by omega)
 rw [c8W] at hy1 hy2
 simp only [hs1,hs2,bs]
 refine b0K (n0:=h.length) (Nat.le_refl _) (Own.nils _ _ _ _) (a5k _ hy1) (by simp;omega) fun x1 h1 ow1 len1 bel1 _ _=>?_
 have hb:a0J tab a2o 1 [0] [.agg (evr e)]=some (.sl 10 true [evr e]):=by simp [-bind_some, evr]
 simp only [bs,evL,hb]
 refine b0K (by omega) ow1 (a0O _ _ _ _) (by simp;omega) fun x2 h2 ow2 len2 bel2 _ _=>?_
 dsimp only
 refine b0K (by omega) ow2 (a5k _ hy2) (by simp;omega) fun x3 h3 ow3 len3 bel3 _ _=>?_
 simp only [bs,a0s]
 rw [List.nil_append,show [evr e]=[e].map evr from rfl,← c8U,← c8U] at ow3
 have hsl:=a2D (n0:=h.length) (n:=3) ow3 (Nat.le_refl _) (fun a _=>a4d _ h3 2 a)
 rw [a1m rfl (a1C hsl fun a _=>a5z _ a) (by omega) (fun q hq=>((bel3 q hq).trans (bel2 q hq)).trans (bel1 q hq))]
 exact .some ⟨rfl,hsl⟩
def a4e (hst fil:Int):Int→List It→Int→Prop
 | a,[],b=>a=b
 | a,i::r,b=>ItOK hst fil a i∧a4e hst fil i.e.a3 r b
theorem a5L (hst fil:Int):∀ (l:List It) (a b:Int) (i:It),a4e hst fil a l b→ItOK hst fil b i→a4e hst fil a (l++[i]) i.e.a3
 | [],a,b,i,h,hi=>by
  simp only [a4e] at h
  subst h
  exact ⟨hi,rfl⟩
 | x::r,a,b,i,h,hi=>⟨h.1,a5L hst fil r _ b i h.2 hi⟩
theorem a7M (hst fil:Int):∀ (l:List It) (a b:Int),a4e hst fil a l b→∀ i∈l,∃ f,ItOK hst fil f i
 | [],_,_,_,i,hi=>by cases hi
 | x::r,a,b,h,i,hi=>by
  rcases c9i.1 hi with rfl | hi
  ·exact ⟨_,h.1⟩
  ·exact a7M hst fil r _ _ h.2 i hi
def FilesOK (host most:Int) (P:List It→D→Prop) (ps:List (List It × D)):Prop:=∀ (f:Nat) p,ps[f]?=some p→P p.1 p.2∧p.1.length≤most∧∃ po,a4e host (5+f) 0 p.1 po
theorem FilesOK.mono {host most:Int} {P P':List It→D→Prop} {ps:List (List It × D)} (h:FilesOK host most P ps) (k:∀ a b,P a b→P' a b):FilesOK host most P' ps:=fun f p hp=>⟨k _ _ (h f p hp).1,(h f p hp).2⟩
theorem l71 {o N:Nat} (host most f:Int) (n0:Nat) (ho:o<n0) (hN:n0≤N) (ds0:List D) (hds0:nth 1 ds0 = .int .i64 f) (hf0:0≤f) (hf1:f≤1000) {β:Type} {K:Out→Option β} {Q:β→Prop} (g:Hp) (n:Nat) (hn:n≤1000) (a b:D) (hc:CD g o) (hNg:N≤g.length)
  (k:∀ g' its po x a b c,Own g' N a2a 11 (its.map itr) x→CD g' o→Grow N o g g'→a4e host (5+f) 0 its po→its.length=n→Wp (K (.ext 2,[x,.int .i64 po,a,b,c],g')) Q) :
  Wp ((a0z (b0Q (.ptr o 0 0) (.int .i64 host) ds0) [.nils,.int .i64 0,.int .i64 n,a,b] g).bind K) Q:=by
 refine Wp.loop (fun k ds g'=>∃ x po a b,∃ its:List It,ds=[x,.int .i64 po,.int .i64 k,a,b]∧Own g' N a2a 11 (its.map itr) x∧CD g' o∧Grow N o g g'∧a4e host (5+f) 0 its po∧0≤po∧po≤108*its.length∧its.length+k=n)
  (fun r=>r.1 = .ext 2∧∃ x po a b c,∃ its:List It,r.2.1=[x,.int .i64 po,a,b,c]∧Own r.2.2 N a2a 11 (its.map itr) x∧CD r.2.2 o∧Grow N o g r.2.2∧a4e host (5+f) 0 its po∧its.length=n)
  n ⟨.nils,0,a,b,[],rfl,Own.nils _ _ _ _,hc,.refl _ _ _,rfl,by omega,by simp,by simp⟩ ?_ ?_
 ·rintro k ds g' ⟨x,po,a,b,its,rfl,ow,hc',hg,hit,hp0,hp1,hk⟩
  simp only [b0Q,a0e,a0g,bs,a1e,hds0,a0k,wrap_i64 (n:=5+f) (by omega) (by omega)]
  refine Wp.dif ?_ ?_
  ·intro h0
   have h0:0<(k:Int):=by simpa using h0
   obtain ⟨i,g1,e1,c1,s1,hi⟩:=d84 hc' host (5+f) po hp0 (by omega)
   have hcl:=a4x _ _ _ hi.ch
   have hn3:=hi.n3
   have hn1:=hi.n1
   have ow1:=ow.same s1 (by omega)
   refine Wp.step e1 ?_
   simp only [c2c,bs,c8a,c5O]
   refine c1s (by have:=hg.1;have:=s1.1;omega) ow1 (a0O _ _ _ _) (by simp;omega) fun x' g2 ow2 len bel _ _=>?_
   have hto:=c8F i g2
   cases hfa:a0b tab a2a 1 (.fptr (itr i)) with
   | none=>rw [hfa] at hto;cases hto
   | some p =>
    rw [hfa] at hto
    simp only [bs] at hto
    cases hfb:a0b tab a0C 3 p with
    | none=>rw [hfb] at hto;cases hto
    | some q =>
     rw [hfb] at hto
     simp only [bs] at hto
     have hk1:IntKind.wrap .i64 ((k:Int) - 1)=((k - 1:Nat):Int):=by
      rw [wrap_i64 (by omega) (by omega)];omega
     simp only [bs,hfa,hfb,hto,a0t,hk1]
     refine .some (.inl ⟨rfl,k - 1,by omega,x',i.e.a3,_,_,its++[i],rfl,by rw [c8U];exact ow2,c1.keep (bel o (by omega)),(hg.trans s1.grow).trans ⟨len,fun q hq _=>bel q hq⟩,a5L _ _ _ _ _ _ hit hi,by omega,by simp;omega,by simp;omega⟩)
  ·intro h0
   have h0:¬ 0<(k:Int):=by simpa using h0
   exact .some (.inr ⟨by simp,rfl,x,po,_,_,_,its,rfl,ow,hc',hg,hit,by omega⟩)
 ·rintro ⟨ex,ds,g'⟩ ⟨rfl,x,po,a,b,c,its,rfl,ow,hc',hg,hit,hn⟩
  exact k g' its po x a b c ow hc' hg hit hn
theorem c5Q {h:Hp} {o:Nat} (hc:CD h o) (host most:Int) (hm0:0≤most) (hm1:most≤100):∃ x h',R b9L [.ptr o 0 0,.int .i64 host,.int .i64 most] h=some (x,h')∧CD h' o∧Same o h h'∧∃ ps:List (List It × D),SlOf 1 (fun p=>[p.2]) ps x∧ps.length≤3∧1≤ps.length∧FilesOK host most (SlOf 11 itr) ps:=by
 suffices Wp (R b9L [.ptr o 0 0,.int .i64 host,.int .i64 most] h) (fun p=>CD p.2 o∧Same o h p.2∧∃ ps:List (List It × D),SlOf 1 (fun p=>[p.2]) ps p.1∧ps.length≤3∧1≤ps.length∧FilesOK host most (SlOf 11 itr) ps) by
  obtain ⟨⟨x,h'⟩,h1,h2⟩:=this
  exact ⟨x,h',h1,h2⟩
 have ho:=hc.lt
 rw [e71]
 simp only [F71,bs,c8N]
 refine Wp.loop (fun k ds g=>∃ x a b c d e f',∃ f:Nat,∃ ps:List (List It × D),ds=[x,.int .i64 f,a,b,c,d,e,f']∧St h o g∧Own g h.length a2n 1 (ps.map fun p=>[p.2]) x∧ps.length=f∧k+f=3∧FilesOK host most (fun l d=>Own g h.length a2a 11 (l.map itr) d) ps)
  (fun r=>r.1 = .ext 0∧∃ x a b c d e f' h',∃ ps:List (List It × D),r.2.1=[x,a,b,c,d,e,f',h']∧St h o r.2.2∧Own r.2.2 h.length a2n 1 (ps.map fun p=>[p.2]) x∧ps.length≤3∧1≤ps.length∧FilesOK host most (fun l d=>Own r.2.2 h.length a2a 11 (l.map itr) d) ps)
  3 ⟨.nils,.any,.any,.any,.any,.any,.any,0,[],rfl,.refl hc,Own.nils _ _ _ _,rfl,rfl,fun f p hp=>by simp at hp⟩ ?_ ?_
 ·rintro k ds g ⟨x,a,b,c,d,e,f',f,ps,rfl,S,ow,hpf,hk,hps⟩
  simp only [b5b,a0e,a0g,bs,c8N]
  obtain ⟨v,g1,e1,c1,s1,v0,v1⟩:=a1z S.cd 3 (by omega) (by omega)
  have S1:=S.next c1 s1
  have ow1:=ow.same s1 ho
  have hps1:FilesOK host most (fun l d=>Own g1 h.length a2a 11 (l.map itr) d) ps:=hps.mono fun _ _ w=>w.same s1 ho
  refine Wp.step e1 ?_
  simp only [a0Y,bs]
  refine Wp.dif ?_ ?_
  ·intro h0
   have h0:(f:Int)≤v:=by simpa using h0
   simp only [a0k,bs,wrap_i64 (n:=most+1) (by omega) (by omega)]
   obtain ⟨n,g2,e2,c2,s2,n0,n1⟩:=a1z c1 (most+1) (by omega) (by omega)
   have S2:=S1.next c2 s2
   have ow2:=ow1.same s2 ho
   have hps2:FilesOK host most (fun l d=>Own g2 h.length a2a 11 (l.map itr) d) ps:=hps1.mono fun _ _ w=>w.same s2 ho
   refine Wp.step e2 ?_
   simp only [bs]
   rw [← Int.toNat_of_nonneg n0]
   refine l71 (N:=g2.length) host most f h.length ho S2.le _ (by rfl) (by omega) (by omega) g2 n.toNat (by omega) _ _ c2 (Nat.le_refl _) ?_
   intro g3 its po y a' b' c' owy c3 gr hit hlen
   have bel:∀ q,q<g2.length→q≠o→g3[q]?=g2[q]?:=gr.2
   have S3:St h o g3:=⟨ho,c3,S2.gr.trans ⟨gr.1,fun q hq hn=>bel q (by have:=S2.le;omega) hn⟩⟩
   have ow3:Own g3 h.length a2n 1 (ps.map fun p=>[p.2]) x:=ow2.keep fun q hq hin=>bel q (ow2.lt hin).2 (by omega)
   have hps3:FilesOK host most (fun l d=>Own g3 h.length a2a 11 (l.map itr) d) ps:=hps2.mono fun _ _ w=>w.keep fun q hq hin=>bel q (w.lt hin).2 (by omega)
   have owy':Own g3 h.length a2a 11 (its.map itr) y:=owy.from S2.le
   simp only [a0o,a0j,a0e,a0g,bs,b6k y (a5f owy)]
   have hw:=wi_ f (by omega)
   refine c1r S3.le ow3 (a0O _ _ _ _) (by simp;omega) fun x' g4 ow4 len bel4 keep4 _=>?_
   simp only [bs,hw]
   have kp:∀ (l:List It) (d:D),Own g3 h.length a2a 11 (l.map itr) d→Own g4 h.length a2a 11 (l.map itr) d:=fun l d w=>w.keep fun q hq hin=>keep4 q (w.lt hin).2 (b2I w ow3 (by decide) hin)
   refine .some (.inl ⟨rfl,k - 1,by omega,x',_,_,_,_,_,_,f+1,ps++[(its,y)],rfl,S3.app len bel4,by rw [c8U];exact ow4,by simp;omega,by omega,fun j p hp=>?_⟩)
   rcases Nat.lt_or_ge j ps.length with hj | hj
   ·rw [c9l hj] at hp
    exact ⟨kp _ _ (hps3 j p hp).1,(hps3 j p hp).2⟩
   ·rw [List.getElem?_append_right hj] at hp
    have hj0:j - ps.length=0:=by
     have:=(c9d.1 hp).1
     simpa using this
    rw [hj0] at hp
    simp at hp
    subst hp
    have hjf:j=f:=by omega
    subst hjf
    exact ⟨kp _ _ owy',by simp only;omega,po,hit⟩
  ·intro h0
   have h0:¬ (f:Int)≤v:=by simpa using h0
   exact .some (.inr ⟨by simp,rfl,x,_,_,_,_,_,_,_,ps,rfl,S1,ow1,by omega,by omega,hps1⟩)
 ·rintro ⟨ex,ds,g⟩ ⟨rfl,x,a,b,c,d,e,f',h',ps,rfl,S,ow,hpl,hpl1,hps⟩
  simp only [a0o,a0j,a0e,bs,a0s]
  have hfz:SlOf 1 (fun p:List It × D=>[p.2]) (ps.map fun p=>(p.1,frz h.length g 3 p.2)) (frz h.length g 4 x):=by
   rcases ow with ⟨rfl,hr⟩ | ⟨ob,hob,rfl,hgo⟩
   ·have:ps=[]:=by simpa using hr
    subst this
    exact .inl ⟨rfl,rfl⟩
   ·right
    refine ⟨false,?_⟩
    rw [a6G hob hgo]
    simp [-bind_some]
    rw [List.take_of_length_le (by simp)]
    rfl
  have hps':FilesOK host most (SlOf 11 itr) (ps.map fun p=>(p.1,frz h.length g 3 p.2)):=by
   intro j p hp
   rw [c9a] at hp
   cases hq:ps[j]? with
   | none=>rw [hq] at hp;cases hp
   | some q =>
    rw [hq] at hp
    simp at hp
    subst hp
    exact ⟨a2D (hps j q hq).1 (Nat.le_refl _) fun a _=>b6P _ _ _ a,(hps j q hq).2⟩
  obtain ⟨h',hs,hcd,hsm⟩:=S.scope rfl (a1C hfz fun a ha d hd=>by
   simp at hd
   subst hd
   obtain ⟨j,hj⟩:=List.getElem?_of_mem ha
   exact a1C (hps' j a hj).1 fun i _=>b6Q _ i)
  exact ⟨_,hs,hcd,hsm,_,hfz,by simpa using hpl,by simpa using hpl1,hps'⟩
theorem d71 {h:Hp} {o:Nat} (hc:CD h o) (host most:Int) (hm0:0≤most) (hm1:most≤100):∃ x h',R b9L [.ptr o 0 0,.int .i64 host,.int .i64 most] h=some (x,h')∧CD h' o∧Same o h h'∧∃ ps:List (List It × D),SlOf 1 (fun p=>[p.2]) ps x∧ps.length≤3∧FilesOK host most (SlOf 11 itr) ps:=by
 obtain ⟨x,h',a,b,c,ps,d,e,_,f⟩:=c5Q hc host most hm0 hm1
 exact ⟨x,h',a,b,c,ps,d,e,f⟩
def a8L (e:Ev):Prop:=ItOK e.a0 e.a1 e.a2 ⟨[],e⟩∧1≤e.a0∧e.a0≤2∧5≤e.a1∧e.a1≤7
def b0g (l:List Ev):Prop:=(∀ e∈l,a8L e)∧l.Pairwise fun a b=>a.a5≤b.a5
theorem b4A {a b:Ev} (h:a2A a b=true):a.a5≤b.a5:=by
 unfold a2A at h
 split at h
 ·omega
 ·have:a.a5<b.a5:=by simpa using h
  omega
theorem a7R {a b:Ev} (h:¬ a2A a b=true):b.a5≤a.a5:=by
 unfold a2A at h
 split at h
 ·omega
 ·have:¬ a.a5<b.a5:=by simpa using h
  omega
theorem a3Q (l:List Ev) (e:Ev):∀ k,k≤l.length→∀ j x,a1J l e k=j+1→l[j]?=some x→x.a5≤e.a5
 | 0,_,j,x,h,_=>by simp [-bind_some, a1J] at h
 | k+1,hk,j,x,h,hx=>by
  have hg:l[k]?=some l[k]:=c9c (by omega)
  simp only [a1J,hg] at h
  split at h
  ·exact a3Q l e k (by omega) j x h hx
  ·rename_i hs
   have:k=j:=by omega
   subst this
   rw [hg] at hx
   injection hx with hx
   subst hx
   exact a7R hs
theorem a4o (l:List Ev) (e:Ev):∀ k,k≤l.length→∀ j x,a1J l e k≤j→j<k→l[j]?=some x→e.a5≤x.a5
 | 0,_,j,x,h,hj,_=>by omega
 | k+1,hk,j,x,h,hj,hx=>by
  have hg:l[k]?=some l[k]:=c9c (by omega)
  simp only [a1J,hg] at h
  split at h
  ·rename_i hs
   rcases Nat.lt_or_ge j k with hjk | hjk
   ·exact a4o l e k (by omega) j x h hjk hx
   ·have:k=j:=by omega
    subst this
    rw [hg] at hx
    injection hx with hx
    subst hx
    exact b4A hs
  ·omega
theorem b9T {l:List Ev} {e:Ev} (hl:b0g l) (he:a8L e):b0g (ins l e):=by
 have hp:=a5c l e l.length
 refine ⟨fun x hx=>?_,?_⟩
 ·simp only [ins,List.append_assoc,c9j,List.mem_singleton] at hx
  rcases hx with hx | rfl | hx
  ·exact hl.1 x (List.mem_of_mem_take hx)
  ·exact he
  ·exact hl.1 x (List.mem_of_mem_drop hx)
 ·have hbef:∀ x∈l.take (a1J l e l.length),x.a5≤e.a5:=by
    intro x hx
    obtain ⟨i,hi⟩:=List.getElem?_of_mem hx
    rw [List.getElem?_take] at hi
    split at hi
    ·rename_i hlt
     obtain ⟨j,hj⟩:∃ j,a1J l e l.length=j+1:=⟨a1J l e l.length - 1,by omega⟩
     have hgj:l[j]?=some l[j]:=c9c (by omega)
     have h1:=a3Q l e l.length (Nat.le_refl _) j _ hj hgj
     rcases Nat.lt_or_ge i j with hij | hij
     ·have h2:=List.pairwise_iff_getElem.1 hl.2 i j (by omega) (by omega) hij
      have:l[i]=x:=by
       have:=c9c (l:=l) (i:=i) (by omega)
       rw [this] at hi
       injection hi
      rw [this] at h2
      exact Int.le_trans h2 h1
     ·have:i=j:=by omega
      subst this
      rw [hgj] at hi
      injection hi with hi
      rw [← hi];exact h1
    ·cases hi
  have haft:∀ x∈l.drop (a1J l e l.length),e.a5≤x.a5:=by
   intro x hx
   obtain ⟨i,hi⟩:=List.getElem?_of_mem hx
   rw [List.getElem?_drop] at hi
   have hlt:=(c9d.1 hi).1
   exact a4o l e l.length (Nat.le_refl _) _ x (by omega) hlt hi
  unfold ins
  rw [List.append_assoc,List.pairwise_append]
  refine ⟨hl.2.sublist (List.take_sublist _ _),?_,?_⟩
  ·rw [List.singleton_append,List.pairwise_cons]
   exact ⟨haft,hl.2.sublist (List.drop_sublist _ _)⟩
  ·intro a ha b hb
   rcases c9j.1 hb with hb | hb
   ·simp at hb;subst hb;exact hbef a ha
   ·exact Int.le_trans (hbef a ha) (haft b hb)
theorem s99 (n:Int) (h:Hp):R c1K [.int .i64 n] h=some (.bool false,h):=by
 rw [e99]
 simp [-bind_some, F99]
def a2h (a b:Int):Int:=if a<b then -1 else if b<a then 1 else 0
theorem s90 (a b:Int) (h:Hp):R b3r [.int .i64 a,.int .i64 b] h=some (.int .i64 (a2h a b),h):=by
 rw [e90]
 simp [-bind_some, F90,s99,a2h]
 by_cases h0:a<b
 ·simp [-bind_some, h0]
 ·by_cases h1:b<a <;> simp [-bind_some, h0,h1]
theorem c4z (s:Str) (i:Nat) (c:UInt8) (hc:s[i]?=some c):a2N tab ty9 (.str s) (.int .i64 i)=some (.int .u8 c.toNat):=by
 show (if (0:Int)≤(i:Int) then (match s[(i:Int).toNat]? with | some c=>some (D.int .u8 c.toNat) | none=>none) else none)=_
 simp [-bind_some, hc]
theorem c8i (t:Nat) (s u:Str):a0f tab .gtr t (.str s) (.str u)=some (.bool (!(Op.bytesLess s u||s==u))):=id rfl
def inr (n:Int):List D:=[.int .i64 n]
def orI:List Int→Int
 | []=>0
 | x::r=>if x=0 then orI r else x
theorem l89 (l:List Int) (d:D) (h:Hp) (hd:SlOf 1 inr l d) (hl:l.length≤9223372036854775807) {β:Type} (K:Out→Option β) (X:Int→Option β)
   (hX:∀ v r,K (.ret,.int .i64 v::r,h)=X v) (hY:∀ r,K (.ext 0,r,h)=X 0):∀ (suf pre:List Int),l=pre++suf→∀ n:Int,n=pre.length→∀ a b e f,
   (a0z (a7i (.int .i64 0) d (.int .i64 l.length)) [a,b,.int .i64 n,e,f] h).bind K=X (orI suf):=by
 intro suf
 induction suf with
 | nil =>
  rintro pre rfl n rfl a b e f
  rw [a1w]
  simp [-bind_some, a7i,hY,orI]
 | cons p suf ih =>
  rintro pre rfl n rfl a b e f
  have hw:IntKind.wrap .i64 ((pre.length:Int)+1)=(pre++[p]).length:=by
   rw [wrap_i64 (by omega) (by simp at hl;omega)];simp [-bind_some]
  have hlt:(pre.length:Int)<(pre++p::suf).length:=by simp;omega
  rw [a1w]
  generalize hL:pre++p::suf=L at *
  have hg:L[pre.length]?=some p:=by rw [← hL];exact a4Z _ _ _
  by_cases hp:p=0
  ·subst hp
   have:=ih (pre++[0]) (by simp [-bind_some, ← hL]) _ rfl a (.int .i64 0) (.bool true) (.bool false)
   simp only [← hw] at this
   simp [-bind_some, a7i,b9Z hd,hlt,hg,inr,orI]
   exact this
  ·simp [-bind_some, a7i,b9Z hd,hlt,hg,inr,hp,hX,orI]
theorem s89 (l:List Int) (d:D) (h:Hp) (hd:SlOf 1 inr l d) (hl:l.length≤9223372036854775807):R b9M [d] h=some (.int .i64 (orI l),h):=by
 rw [e89]
 simp only [F89,bs,c0l hd,c8N]
 rw [l89 l d h hd hl _ (fun v=>some (.int .i64 v,h)) (fun v r=>by simp) (fun r=>by simp) l [] rfl 0 rfl]
structure Mrk where
 h:Int
 f:Int
 o:Int
 deriving DecidableEq
def c2h (a b:Mrk):Int:=orI [a2h a.h b.h,a2h a.f b.f]
theorem a6R (g:Hp) (T z:Nat) (rows:List (List D)):(a1h g T z rows).length=g.length+1:=by simp [-bind_some, a1h]
def dn {α:Type} (c:α→α→Int) (a:Nat):Nat→List α→List α
 | 0,l=>l
 | j+1,l=>match l[j+1]?,l[j]? with
  | some x,some y=>if a<j+1∧c x y<0 then dn c a j ((l.set (j+1) y).set j x) else l
  | _,_=>l
theorem b1j {α:Type} (c:α→α→Int) (a:Nat):∀ (j:Nat) (l:List α),(dn c a j l).length=l.length
 | 0,l=>rfl
 | j+1,l=>by
  unfold dn
  split
  ·split
   ·rw [b1j c a j];simp [-bind_some]
   ·rfl
  ·rfl
def isr {α:Type} (c:α→α→Int) (a:Nat):Nat→Nat→List α→List α
 | _,0,l=>l
 | i,n+1,l=>isr c a (i+1) n (dn c a i l)
theorem a2L {α:Type} (f:α→List D) (l:List α) (i:Nat) (x:α):(l.map f).set i (f x)=(l.set i x).map f:=by rw [List.map_set]
theorem b7f (a b:Ev):decide (orI [a2h a.a5 b.a5,a2h a.a0 b.a0,a2h a.a1 b.a1,a2h a.a2 b.a2]<0)=a2A a b:=by
 have key:∀ x y:Int,(a2h x y=0↔x=y)∧(a2h x y<0↔x<y):=fun x y=>by
  unfold a2h
  split
  ·constructor <;> constructor <;> intro h <;> omega
  ·split
   ·constructor <;> constructor <;> intro h <;> omega
   ·constructor <;> constructor <;> intro h <;> omega
 simp only [orI,key,a2A]
 by_cases h5:a.a5=b.a5
 ·by_cases h0:a.a0=b.a0
  ·by_cases h1:a.a1=b.a1
   ·by_cases h2:a.a2=b.a2
    ·simp [-bind_some, h5,h0,h1,h2]
    ·simp [-bind_some, h5,h0,h1,h2,key]
   ·simp [-bind_some, h5,h0,h1,key]
  ·simp [-bind_some, h5,h0,key]
 ·simp [-bind_some, h5,key]
theorem c0D (a b:Ev) (h:Hp):R a5B [.agg (evr a),.agg (evr b)] h=some (.bool (a2A a b),h):=by
 have s4:SlOf 1 inr [a2h a.a5 b.a5,a2h a.a0 b.a0,a2h a.a1 b.a1,a2h a.a2 b.a2] (.sl 1 true [[.int .i64 (a2h a.a5 b.a5)],[.int .i64 (a2h a.a0 b.a0)],[.int .i64 (a2h a.a1 b.a1)],[.int .i64 (a2h a.a2 b.a2)]]) := .inr ⟨true,rfl⟩
 rw [c2o]
 simp only [b8g,bs,a1l,evr,b9D,b9E,b9F,b9G,ld3,s90,b9k,s89 _ _ h s4 (by simp),a0q,a1j,a0s,b7f]
structure Tal where
 h:Int
 r:Str
 n:Int
def b0o (a b:Str):Int:=if Op.bytesLess a b=true then -1 else if a=b then 0 else 1
theorem c8g (s:Str) (h:Hp):R b4k [.str s] h=some (.bool false,h):=by
 rw [c5R]
 simp [-bind_some, c5l]
theorem s91 (a b:Str) (h:Hp):R c3B [.str a,.str b] h=some (.int .i64 (b0o a b),h):=by
 rw [e91]
 simp only [F91,bs,c8g,a0d,c8O,if_false,a2S,c8i,b0o,a0s]
 cases h0:Op.bytesLess a b
 ·by_cases h1:a=b <;> simp [-bind_some, h1]
 ·simp [-bind_some]
def c5s (a b:Tal):Int:=orI [a2h a.h b.h,b0o a.r b.r]
theorem a2R:∀ a:Str,Op.bytesLess a a=false
 | []=>rfl
 | x::a=>by simp [-bind_some, Op.bytesLess,a2R a]
theorem b0i:∀ {a b c:Str},Op.bytesLess a b=true→Op.bytesLess b c=true→Op.bytesLess a c=true
 | _,[],_,h,_=>by cases ‹Str› <;> simp [-bind_some, Op.bytesLess] at h
 | _,_::_,[],_,h=>by simp [-bind_some, Op.bytesLess] at h
 | [],_::_,_::_,_,_=>rfl
 | x::a,y::b,z::c,h,k=>by
  simp only [Op.bytesLess,Bool.or_eq_true,decide_eq_true_eq,Bool.and_eq_true,beq_iff_eq] at h k ⊢
  rcases h with h | ⟨rfl,h⟩
  ·rcases k with k | ⟨rfl,k⟩
   ·exact .inl (UInt8.lt_trans h k)
   ·exact .inl h
  ·rcases k with k | ⟨rfl,k⟩
   ·exact .inl k
   ·exact .inr ⟨rfl,b0i h k⟩
theorem a9n:∀ {a b:Str},Op.bytesLess a b=false→a≠b→Op.bytesLess b a=true
 | [],[],_,h=>absurd rfl h
 | [],_::_,h,_=>by simp [-bind_some, Op.bytesLess] at h
 | _::_,[],_,_=>rfl
 | x::a,y::b,h,k=>by
  simp only [Op.bytesLess,Bool.or_eq_false_iff,decide_eq_false_iff_not,Bool.and_eq_false_iff,beq_eq_false_iff_ne] at h
  simp only [Op.bytesLess,Bool.or_eq_true,decide_eq_true_eq,Bool.and_eq_true,beq_iff_eq]
  by_cases hxy:x=y
  ·subst hxy
   refine .inr ⟨rfl,a9n (h.2.resolve_left fun hh=>hh rfl) fun hh=>k (by rw [hh])⟩
  ·left
   have h1:=mt UInt8.lt_iff_toNat_lt.2 h.1
   have h2:x.toNat≠y.toNat:=fun hh=>hxy (UInt8.toNat_inj.1 hh)
   exact UInt8.lt_iff_toNat_lt.2 (by omega)
def kT (key:Tal):List Tal→Nat
 | []=>0
 | x::r=>if c5s x key<0 then kT key r+1 else 0
def c5N (l:List Tal) (hst:Int) (rule:Str) (n:Int) (k:Nat):List Tal:=match l[k]? with
 | some x=>if c5s x ⟨hst,rule,0⟩=0 then l.set k ⟨x.h,x.r,IntKind.wrap .i64 (x.n+n)⟩ else l.take k++[⟨hst,rule,IntKind.wrap .i64 (0+n)⟩]++l.drop k
 | none=>l.take k++[⟨hst,rule,IntKind.wrap .i64 (0+n)⟩]++l.drop k
def c2a (l:List Tal) (hst:Int) (rule:Str) (n:Int):List Tal:=if n<1 then l else c5N l hst rule n (kT ⟨hst,rule,0⟩ l)
def gr:List Ev→List Ev→Bool
 | [],_=>true
 | _::_,[]=>false
 | x::a,y::b=>if a2k x y=true then gr a b else gr (x::a) b
def sm (f:Tal→Int):List Tal→Int
 | []=>0
 | t::r=>f t+sm f r
def kM (key:Mrk):List Mrk→Nat
 | []=>0
 | x::r=>if c2h x key<0 then kM key r+1 else 0
def c7A (l:List Mrk) (key:Mrk):Bool:=match l[kM key l]? with
 | some x=>decide (c2h x key=0)
 | none=>false
def c0o (l:List Mrk) (hst fil:Int):Int:=match l[kM ⟨hst,fil,0⟩ l]? with
 | some x=>if c2h x ⟨hst,fil,0⟩=0 then x.o else 0
 | none=>0
def c8h (l:List Mrk) (m:Mrk):List Mrk:=if c7A l m=true then l.set (kM m l) m else l.take (kM m l)++[m]++l.drop (kM m l)
structure Bat where
 hs:Int
 nu:Int
 its:List It
 d:D
 hd:SlOf 11 itr its d
def c5u:Str:=[42]
def tkO (mk:Int) (i:It):Option (Option Nat) :=
 if i.e.a3≤mk then some none
 else if mk<i.e.a2 then none
 else if i.e.a2<mk then (if idx (fun l:Lin=>decide (l.off=mk)) 0 i.e.ls<1 then none else some (some (idx (fun l:Lin=>decide (l.off=mk)) 0 i.e.ls).toNat))
 else some (some 0)
def apS:List Mrk→List Tal→List It→Option (List Mrk × List Tal)
 | ms,ts,[]=>some (ms,ts)
 | ms,ts,i::r=>match tkO (c0o ms i.e.a0 i.e.a1) i with
  | none=>none
  | some none=>apS ms (c2a ts i.e.a0 c5u i.e.ls.length) r
  | some (some k)=>apS (c8h ms ⟨i.e.a0,i.e.a1,i.e.a3⟩) (c2a (c2a ts i.e.a0 c5u (k:Nat)) i.e.a0 i.r ((i.e.ls.length - k:Nat):Int)) r
def ap (s:List Mrk × List Tal) (b:Bat):List Mrk × List Tal:=(apS s.1 s.2 b.its).getD s
structure SOrd {α:Type} (c:α→α→Int) (S Pre:α→α→Prop):Prop where
 tr:∀ x y z,S x y→S y z→S x z
 lt:∀ x y,Pre x y→c y x<0→S y x
 ge:∀ x y,Pre x y→¬ c y x<0→S x y
theorem c0y {α:Type} {c:α→α→Int} {S Pre:α→α→Prop} (o:SOrd c S Pre) {A1 A2:List α} {x:α} (hA:(A1++A2).Pairwise S) (hp:∀ y∈A1++A2,Pre y x)
  (h2:A2=[]∨∃ y r,A2=y::r∧c x y<0) (h1:A1=[]∨∃ y r,A1=r++[y]∧¬ c x y<0):(A1++x::A2).Pairwise S:=by
 rw [List.pairwise_append] at hA ⊢
 obtain ⟨p1,p2,p3⟩:=hA
 have q1:∀ a∈A1,S a x:=by
  rcases h1 with rfl | ⟨y,r,rfl,hy⟩
  ·intro a ha;cases ha
  ·intro a ha
   have hyx:S y x:=o.ge y x (hp y (by simp)) hy
   rw [List.pairwise_append] at p1
   rcases c9j.1 ha with ha | ha
   ·exact o.tr _ _ _ (p1.2.2 a ha y (by simp)) hyx
   ·simp at ha;subst ha;exact hyx
 have q2:∀ b∈A2,S x b:=by
  rcases h2 with rfl | ⟨y,r,rfl,hy⟩
  ·intro a ha;cases ha
  ·intro b hb
   have hxy:S x y:=o.lt y x (hp y (by simp)) hy
   rw [List.pairwise_cons] at p2
   rcases c9i.1 hb with rfl | hb
   ·exact hxy
   ·exact o.tr _ _ _ hxy (p2.1 b hb)
 refine ⟨p1,List.pairwise_cons.2 ⟨q2,p2⟩,fun a ha b hb=>?_⟩
 rcases c9i.1 hb with rfl | hb
 ·exact q1 a ha
 ·exact p3 a ha b hb
theorem b1k {α:Type} (c:α→α→Int) (P:List α) (x:α):∀ (R:List α) (Q:List α),∃ A1 A2,R.reverse=A1++A2∧dn c P.length (P.length+R.length) (P++R.reverse++x::Q)=P++A1++x::A2++Q ∧
  (A2=[]∨∃ y r,A2=y::r∧c x y<0)∧(A1=[]∨∃ y r,A1=r++[y]∧¬ c x y<0)
 | [], Q=>⟨[],[],rfl,by
   cases P with
   | nil=>simp [-bind_some, dn]
   | cons p P =>
    simp only [c9e,c9f,Nat.add_zero,List.reverse_nil,List.append_nil]
    unfold dn
    split
    ·rw [if_neg (by omega)];simp [-bind_some]
    ·simp [-bind_some],.inl rfl,.inl rfl⟩
 | y::R,Q=>by
  have g1:(P++(y::R).reverse++x::Q)[P.length+R.length+1]?=some x:=by
   rw [List.getElem?_append_right (by simp;omega)]
   simp [-bind_some]
   try (have:P.length+R.length+1 - (P.length+(R.length+1))=0:=by omega
        rw [this];rfl)
  have g0:(P++(y::R).reverse++x::Q)[P.length+R.length]?=some y:=by
   rw [c9l (by simp),List.getElem?_append_right (by omega)]
   simp [-bind_some]
  rw [c9e,← Nat.add_assoc]
  unfold dn
  rw [g1,g0]
  simp only
  by_cases hc:c x y<0
  ·rw [if_pos ⟨by omega,hc⟩]
   have hs:((P++(y::R).reverse++x::Q).set (P.length+R.length+1) y).set (P.length+R.length) x=P++R.reverse++x::(y::Q):=by
    have e1:P++(y::R).reverse++x::Q=(P++R.reverse)++y::x::Q:=by simp
    rw [e1]
    have l1:(P++R.reverse).length=P.length+R.length:=by simp
    rw [List.set_append_right _ _ (by omega),List.set_append_right _ _ (by omega),l1]
    have:P.length+R.length+1 - (P.length+R.length)=1:=by omega
    rw [this,Nat.sub_self]
    rfl
   rw [hs]
   obtain ⟨A1,A2,h1,h2,h3,h4⟩:=b1k c P x R (y::Q)
   refine ⟨A1,A2++[y],by simp [-bind_some, h1],by rw [h2];simp [-bind_some],?_,h4⟩
   rcases h3 with rfl | ⟨u,r,rfl,hu⟩
   ·exact .inr ⟨y,[],rfl,hc⟩
   ·exact .inr ⟨u,r++[y],rfl,hu⟩
  ·rw [if_neg (fun hh=>hc hh.2)]
   exact ⟨(y::R).reverse,[],by simp,by simp,.inl rfl,.inr ⟨y,R.reverse,by simp,hc⟩⟩
theorem b9r {α:Type} (c:α→α→Int) (P A Q:List α) (x:α):∃ A1 A2,A=A1++A2∧dn c P.length (P.length+A.length) (P++A++x::Q)=P++A1++x::A2++Q ∧
  (A2=[]∨∃ y r,A2=y::r∧c x y<0)∧(A1=[]∨∃ y r,A1=r++[y]∧¬ c x y<0):=by
 have:=b1k c P x A.reverse Q
 simpa using this
theorem b2d {α:Type} {c:α→α→Int} {S Pre:α→α→Prop} (o:SOrd c S Pre) (P Q:List α):∀ (B A:List α),A.Pairwise S→(∀ x∈A,∀ y∈B,Pre x y)→B.Pairwise Pre →
  ∃ C,isr c P.length (P.length+A.length) B.length (P++A++B++Q)=P++C++Q∧C.Perm (A++B)∧C.Pairwise S
 | [],A,hA,_,_=>⟨A,by simp [-bind_some, isr],by simp,hA⟩
 | x::B,A,hA,hp,hB=>by
  rw [List.pairwise_cons] at hB
  obtain ⟨A1,A2,rfl,h2,h3,h4⟩:=b9r c P A (B++Q) x
  have hA':(A1++x::A2).Pairwise S:=c0y o hA (fun y hy=>hp y hy x (by simp)) h3 h4
  have e1:P++(A1++A2)++x::B++Q=P++(A1++A2)++x::(B++Q):=by simp
  have hpm:(A1++x::A2).Perm (x::(A1++A2)):=List.perm_middle
  obtain ⟨C,q1,q2,q3⟩:=b2d o P Q B (A1++x::A2) hA' (fun u hu v hv=>by
   rcases c9i.1 (hpm.mem_iff.1 hu) with rfl | hu
   ·exact hB.1 v hv
   ·exact hp u hu v (by simp [-bind_some, hv])) hB.2
  refine ⟨C,?_,q2.trans ?_,q3⟩
  ·rw [c9e]
   unfold isr
   rw [e1,h2,← q1]
   have e2:P.length+(A1++A2).length+1=P.length+(A1++x::A2).length:=by simp;omega
   have e3:P++A1++x::A2++(B++Q)=P++(A1++x::A2)++B++Q:=by simp
   rw [e2,e3]
  ·have:((A1++x::A2)++B).Perm ((x::(A1++A2))++B):=hpm.append_right B
   refine this.trans ?_
   simpa using (List.perm_middle (l₁:=A1++A2) (l₂:=B) (a:=x)).symm
def num (l:List Int):Int:=l.foldl (fun v b=>v*256+b) 0
theorem a4F (n:Int):IntKind.wrap .u8 n=n % 256:=by
 unfold IntKind.wrap
 simp [-bind_some, IntKind.signed,IntKind.bits,IntKind.min,IntKind.max]
def RdB (h:Hp) (l:List Int) (d:D):Prop:=SlOf 1 byr l d∨∃ ob,d = .msl 1 ob 0 l.length∧h[ob]?=some (Ob.row ty5 1 (l.map byr))
theorem RdB.own {h:Hp} {n0:Nat} {l:List Int} {d:D} (ow:Own h n0 ty5 1 (l.map byr) d):RdB h l d:=by
 rcases ow with ⟨rfl,hl⟩ | ⟨o,_,rfl,hg⟩
 ·exact .inl (.inl ⟨rfl,by simpa using hl⟩)
 ·exact .inr ⟨o,by simp,hg⟩
theorem a6U {h:Hp} {l:List Int} {d:D} (hd:RdB h l d):a1b h 1 d=some (l.map byr):=by
 rcases hd with hd | ⟨ob,rfl,ho⟩
 ·rcases hd with ⟨rfl,rfl⟩ | ⟨b,rfl⟩
  ·rfl
  ·exact a0O _ _ _ _
 ·simp only [a1b,if_true,ho,List.drop_zero]
  rw [List.take_of_length_le (by simp)]
theorem RdB.keep {h h':Hp} {l:List Int} {d:D} (hd:RdB h l d) (hk:∀ (q T z:Nat) (rows:List (List D)),h[q]?=some (Ob.row T z rows)→h'[q]?=h[q]?):RdB h' l d:=by
 rcases hd with hd | ⟨ob,rfl,ho⟩
 ·exact .inl hd
 ·exact .inr ⟨ob,rfl,by rw [hk _ _ _ _ ho];exact ho⟩
theorem b3p (x:BitVec IntKind.u64.bits):IntKind.wrap .u64 (x.toNat:Int)=x.toNat:=by
 have:=x.isLt
 have h2:(2:Nat) ^ IntKind.u64.bits=18446744073709551616:=by decide
 exact a1y (by omega) (by omega)
def bys (l:List Int):Str:=l.map fun z=>UInt8.ofNat z.toNat
theorem a4M:∀ (l:List Int),a4k (l.map byr)=some (bys l)
 | []=>rfl
 | z::l=>by
  simp only [c8V,byr,a4k]
  rw [a4M l]
  rfl
abbrev Cur:=List Int × Bool
def b4S (s:Cur) (n:Int):List Int × Cur:=if s.2=true∨n<0∨(s.1.length:Int)<n then ([],(s.1,true)) else (s.1.take n.toNat,(s.1.drop n.toNat,false))
def b5G (s:Cur):Int × Cur:=(IntKind.wrap .i64 (num (b4S s 8).1),(b4S s 8).2)
def c5D (s:Cur):Int × Cur:=(IntKind.wrap .i64 (num (b4S s 4).1),(b4S s 4).2)
theorem b1v (e:Ev):(D.agg (evr e)).okv=true:=by
 have o1:=a4E e.hld
 have o2:=a4E e.hfd
 have o3:D.agg (evr e) = .agg [.int .i64 e.a0,.int .i64 e.a1,.int .i64 e.a2,.int .i64 e.a3,e.ld,.int .i64 e.a5,.int .i64 e.a6,.str e.s7,.str e.s8,e.fd]:=rfl
 rw [o3]
 generalize e.ld=a at o1
 generalize e.fd=b at o2
 cases a <;> simp_all [-bind_some, D.okv,D.one,a0A] <;> cases b <;> simp_all [-bind_some, D.okv,D.one,a0A]
structure Rw where
 k:List Str
 kd:D
 hk:SlOf 1 (fun s=>[D.str s]) k kd
 hkl:k.length≤1000000
 n:List Int
 nd:D
 hn:SlOf 1 inr n nd
 hnl:n.length≤1000000
 er:Int
theorem a7q (a b:Str):b0o a b=0↔a=b:=by
 unfold b0o
 by_cases h:Op.bytesLess a b=true
 ·simp only [h,if_true]
  constructor
  ·intro h;cases h
  ·rintro rfl;rw [a2R] at h;cases h
 ·by_cases h2:a=b <;> simp [-bind_some, h,h2,a2R]
theorem b6l (a b:Str):b0o a b<0↔Op.bytesLess a b=true:=by
 unfold b0o
 by_cases h:Op.bytesLess a b=true
 ·simp [-bind_some, h]
 ·by_cases h2:a=b <;> simp [-bind_some, h,h2,a2R]
theorem a2u (a b:Int):a2h a b=0↔a=b:=by
 unfold a2h
 by_cases h:a<b
 ·simp [-bind_some, h];omega
 ·by_cases h2:b<a
  ·simp [-bind_some, h,h2];omega
  ·simp [-bind_some, h,h2];omega
theorem a6w (a b:Int):a2h a b<0↔a<b:=by
 unfold a2h
 by_cases h:a<b
 ·simp [-bind_some, h]
 ·by_cases h2:b<a
  ·simp [-bind_some, h,h2]
  ·simp [-bind_some, h,h2]
def dig (n:Int):Str:=[UInt8.ofNat (48+n.toNat)]
theorem c4i (n:Int) (h:Hp) (h0:0≤n) (h9:n≤9):R a4m [.int .i64 n] h=some (.str (dig n),h):=by
 apply Wp.val
 have d0:decide (n<0)=false:=decide_eq_false (by omega)
 have w1:IntKind.wrap .u64 n=n:=a1y h0 (by omega)
 have r1:n.tmod 10=n:=by rw [Int.tmod_eq_emod_of_nonneg h0];omega
 have q1:n.tdiv 10=0:=by rw [Int.tdiv_eq_ediv_of_nonneg h0];omega
 have w2:IntKind.wrap .u64 (48+n)=48+n:=a1y (by omega) (by omega)
 have w3:IntKind.wrap .u8 (48+n)=48+n:=by rw [a4F];omega
 have w4:IntKind.wrap .u64 0=0:=a1y (by omega) (by omega)
 have ap:a0D tab h a3h a3h (.sl 1 true [[.int .u8 (48+n)]]) .nils=some (.sl 1 true [[.int .u8 (48+n)]],h):=id rfl
 have ts:a3u h (.sl 1 true [[.int .u8 (48+n)]])=some (.str (dig n)):=by
  have e:(48+n).toNat=48+n.toNat:=by omega
  simp [-bind_some, a3u,a1b,a4k,dig,e]
 have hsc:scope h h (.str (dig n))=some (.str (dig n),h):=a1m (by simp) (.str _) (Nat.le_refl _) fun _ _=>rfl
 rw [b9u]
 simp only [b5W,bs,c8N,a9q,w1,a0q,d0,a0d,c8O,if_false,a0j,a0e]
 rw [a1w]
 simp only [a5V,a0e,a0g,bs,a6x,show ¬ (10:Int)=0 by omega,if_false,r1,a0k,w2,a4y,w3,b5k,ap,a1D,q1,w4,a0Q,decide_true,a0d,if_true,a0o,a0j,a0q,d0,c8O,ts,a0s,hsc]
 exact .some rfl
def a3W (e:Ev) (nm:Str):Str × Bool :=
 if nm=[64,104,111,115,116] then (dig e.a0,true) else if nm=[64,116,114,97,99,101] then (e.s7,true) else if nm=[64,115,116,114,101,97,109] then (e.s8,true) else ((a8i e.fs nm).getD [],(a8i e.fs nm).isSome)
def b3t (nm:Str):Prop:=nm≠[64,102,105,108,101]∧nm≠[64,116,105,109,101]∧nm≠[64,119,101,105,103,104,116]
theorem c4g (e:Ev) (nm:Str) (h:Hp) (h0:0≤e.a0) (h9:e.a0≤9) (hn:b3t nm):R a5D [.agg (evr e),.str nm] h=some (.tup [.str (a3W e nm).1,.bool (a3W e nm).2],h):=by
 have q0:a0b tab a0C 0 (.fptr (evr e))=some (.fptr (evr e)):=id rfl
 have q7:a0b tab a0C 7 (.fptr (evr e))=some (.fptr [.str e.s7,.str e.s8,e.fd]):=id rfl
 have q8:a0b tab a0C 8 (.fptr (evr e))=some (.fptr [.str e.s8,e.fd]):=id rfl
 have q9:a0b tab a0C 9 (.fptr (evr e))=some (.fptr [e.fd]):=id rfl
 have l0:a0c tab h ty3 (.fptr (evr e))=some (.int .i64 e.a0):=id rfl
 have l9:a0c tab h a3F (.fptr [e.fd])=some e.fd:=by
  have h1:=a4E e.hfd
  generalize e.fd=a at h1
  cases a <;> first | rfl | (simp [-bind_some, D.one] at h1)
 rw [b9t]
 simp only [b0N,a1l,bs,a1L,q0,q7,q8,q9,l0]
 unfold a3W
 have n1:(nm==[64,102,105,108,101])=false:=by simpa using hn.1
 have n2:(nm==[64,116,105,109,101])=false:=by simpa using hn.2.1
 have n3:(nm==[64,119,101,105,103,104,116])=false:=by simpa using hn.2.2
 by_cases c1:nm=[64,104,111,115,116]
 ·have b1:(nm==[64,104,111,115,116])=true:=by simpa using c1
  rw [if_pos c1]
  simp only [b1,a0d,if_true,c4i e.a0 h h0 h9,bs,a0G]
 have b1:(nm==[64,104,111,115,116])=false:=by simpa using c1
 by_cases c2:nm=[64,116,114,97,99,101]
 ·have b2:(nm==[64,116,114,97,99,101])=true:=by simpa using c2
  have l7:a0c tab h ty9 (.fptr [.str e.s7,.str e.s8,e.fd])=some (.str e.s7):=id rfl
  rw [if_neg c1,if_pos c2]
  simp only [b1,n1,n2,n3,b2,a0d,c8O,if_false,if_true,l7,bs,a0G]
 have b2:(nm==[64,116,114,97,99,101])=false:=by simpa using c2
 by_cases c3:nm=[64,115,116,114,101,97,109]
 ·have b3:(nm==[64,115,116,114,101,97,109])=true:=by simpa using c3
  have l8:a0c tab h ty9 (.fptr [.str e.s8,e.fd])=some (.str e.s8):=id rfl
  rw [if_neg c1,if_neg c2,if_pos c3]
  simp only [b1,n1,n2,n3,b2,b3,a0d,c8O,if_false,if_true,l8,bs,a0G]
 have b3:(nm==[64,115,116,114,101,97,109])=false:=by simpa using c3
 rw [if_neg c1,if_neg c2,if_neg c3]
 simp only [b1,n1,n2,n3,b2,b3,a0d,c8O,if_false,l9,bs,s76 _ _ _ h e.hfd e.hl,a8t,a0H,c8Q,c8R,a0G]
theorem b6o {h:Hp} {o:Nat} (hc:CD h o):∃ s h',R a7A [.ptr o 0 0] h=some (.str s,h')∧CD h' o∧Same o h h'∧s∈lt98_46:=by
 obtain ⟨v,h',h1,h2,h3,h4,h5⟩:=a1z hc 4 (by omega) (by omega)
 obtain ⟨s,hs,hg⟩:=a2r lt98_46 v h4 h5
 refine ⟨s,h',?_,h2,h3,hs⟩
 rw [c2q];simp [-bind_some, b8i,h1,h4,hg]
def rwa:Rw:=⟨[],.nils,.nils _ _,by simp,[1],.sl 1 true [[.int .i64 1]],.inr ⟨true,rfl⟩,by simp,0⟩
abbrev FM:=Int × Int
def c4b:Nat→Cur→List FM × Cur
 | 0,s=>([],s)
 | n+1,s=>if s.2=true then ([],s) else (((b5G s).1,(b5G (b5G s).2).1)::(c4b n (b5G (b5G s).2).2).1,(c4b n (b5G (b5G s).2).2).2)
def dN (l:List Int):Nat:=(num ((l.drop 4).take 4)).toNat
def dS0 (l:List Int):Cur:=((l.take (8+dN l)).drop 8,false)
def dA (l:List Int):Int × Cur:=b5G (dS0 l)
def dM (l:List Int):List FM × Cur:=c4b (c5D (dA l).2).1.toNat (c5D (dA l).2).2
theorem c5j (e:Ev) (nm:Str) (h:Hp) (h0:0≤e.a0) (h9:e.a0≤9) (hn:b3t nm):R1 a7B [.agg (evr e),.str nm] h=some (.tup [.str (a3W e nm).1,.bool (a3W e nm).2],h):=by
 rw [c8I]
 have h1:=s75 nm e h
 unfold evr at h1 ⊢
 unfold b9q a3W dig
 simp only
 by_cases c1:nm=[64,104,111,115,116]
 ·rw [if_pos c1,if_pos c1,if_pos ⟨h0,h9⟩]
 ·rw [if_neg c1,if_neg c1,if_neg hn.1,if_neg hn.2.1,if_neg hn.2.2]
  by_cases c2:nm=[64,116,114,97,99,101]
  ·rw [if_pos c2,if_pos c2]
  ·rw [if_neg c2,if_neg c2]
   by_cases c3:nm=[64,115,116,114,101,97,109]
   ·rw [if_pos c3,if_pos c3]
   ·rw [if_neg c3,if_neg c3,h1]
    rfl
structure CmO {α:Type} (c:α→α→Int):Prop where
 asm:∀ x y,c x y<0→¬ c y x<0
 tr:∀ x y z,¬ c y x<0→¬ c z y<0→¬ c z x<0
theorem CmO.irr {α:Type} {c:α→α→Int} (o:CmO c) (x:α):¬ c x x<0:=fun h=>o.asm x x h h
theorem CmO.lt_le {α:Type} {c:α→α→Int} (o:CmO c) {x y z:α} (h:c x y<0) (k:¬ c z y<0):c x z<0:=Decidable.byContradiction fun hh=>o.tr y z x k hh h
theorem CmO.lt {α:Type} {c:α→α→Int} (o:CmO c) {x y z:α} (h:c x y<0) (k:c y z<0):c x z<0:=o.lt_le h (o.asm _ _ k)
theorem CmO.od {α:Type} {c:α→α→Int} (o:CmO c):SOrd c (fun x y=>¬ c y x<0) (fun _ _=>True) where
 tr:=o.tr
 lt:=fun x y _ h=>o.asm _ _ h
 ge:=fun x y _ h=>h
structure Seg {α:Type} (a b:Nat) (l l':List α):Prop where
 len:l'.length=l.length
 pm:l'.Perm l
 out:∀ j,(j<a∨b≤j)→l'[j]?=l[j]?
theorem Seg.refl {α:Type} (a b:Nat) (l:List α):Seg a b l l:=⟨rfl,.refl _,fun _ _=>rfl⟩
theorem Seg.trans {α:Type} {a b:Nat} {l m n:List α} (h:Seg a b l m) (k:Seg a b m n):Seg a b l n:=⟨k.len.trans h.len,k.pm.trans h.pm,fun j hj=>(k.out j hj).trans (h.out j hj)⟩
theorem Seg.mono {α:Type} {a b a' b':Nat} {l m:List α} (h:Seg a' b' l m) (ha:a≤a') (hb:b'≤b):Seg a b l m:=⟨h.len,h.pm,fun j hj=>h.out j (by omega)⟩
theorem a3V {α:Type} {l:List α} {i j:Nat} {x y:α} (hi:l[i]?=some x) (hj:l[j]?=some y) (k:Nat):((l.set i y).set j x)[k]?=if k=j then some x else if k=i then some y else l[k]?:=by
 have h1:=(c9d.1 hi).1
 have h2:=(c9d.1 hj).1
 by_cases e:k=j
 ·subst e;rw [if_pos rfl,List.getElem?_set_self (by simpa using h2)]
 ·rw [if_neg e,c9m (Ne.symm e)]
  by_cases e2:k=i
  ·subst e2;rw [if_pos rfl,List.getElem?_set_self h1]
  ·rw [if_neg e2,c9m (Ne.symm e2)]
theorem a1O {α:Type} {l:List α} {a b i j:Nat} {x y:α} (hi:l[i]?=some x) (hj:l[j]?=some y) (i1:a≤i) (i2:i<b) (j1:a≤j) (j2:j<b):Seg a b l ((l.set i y).set j x):=by
 obtain ⟨h1,rfl⟩:=c9d.1 hi
 obtain ⟨h2,rfl⟩:=c9d.1 hj
 refine ⟨by simp,List.set_set_perm h1 h2,fun k hk=>?_⟩
 rw [a3V hi hj,if_neg (by omega),if_neg (by omega)]
theorem b0c {α:Type} (l:List α) {a b:Nat} (hab:a≤b):l=l.take a++((l.take b).drop a++l.drop b):=by
 rw [← List.append_assoc]
 have:l.take a++(l.take b).drop a=l.take b:=by
  have h:=List.take_append_drop a (l.take b)
  rw [List.take_take,Nat.min_eq_left hab] at h
  exact h
 rw [this,List.take_append_drop]
theorem Seg.mid {α:Type} {a b:Nat} {l l':List α} (h:Seg a b l l') (hab:a≤b):((l'.take b).drop a).Perm ((l.take b).drop a):=by
 have h1:l'.take a=l.take a:=List.ext_getElem? fun i=>by
  rw [List.getElem?_take,List.getElem?_take]
  split
  ·exact h.out i (by omega)
  ·rfl
 have h2:l'.drop b=l.drop b:=List.ext_getElem? fun i=>by
  rw [List.getElem?_drop,List.getElem?_drop]
  exact h.out _ (by omega)
 have hp:=h.pm
 rw [b0c l hab,b0c l' hab,h1,h2] at hp
 exact (List.perm_append_right_iff _).1 ((List.perm_append_left_iff _).1 hp)
theorem b7j {α:Type} {l:List α} {a b j:Nat} {x:α} (h1:a≤j) (h2:j<b) (h:l[j]?=some x):x∈(l.take b).drop a:=by
 refine List.mem_iff_getElem?.2 ⟨j - a,?_⟩
 rw [List.getElem?_drop,List.getElem?_take,show a+(j - a)=j by omega,if_pos h2,h]
theorem a4Z {α:Type} {l:List α} {a b:Nat} {x:α} (h:x∈(l.take b).drop a):∃ j,a≤j∧j<b∧l[j]?=some x:=by
 obtain ⟨i,hi⟩:=List.mem_iff_getElem?.1 h
 rw [List.getElem?_drop,List.getElem?_take] at hi
 split at hi
 ·exact ⟨a+i,by omega,by assumption,hi⟩
 ·cases hi
def AllIn {α:Type} (a b:Nat) (Q:α→Prop) (l:List α):Prop:=∀ j x,a≤j→j<b→l[j]?=some x→Q x
theorem AllIn.seg {α:Type} {a b:Nat} {Q:α→Prop} {l l':List α} (h:AllIn a b Q l) (s:Seg a b l l'):AllIn a b Q l':=fun j x h1 h2 hx=>by
 obtain ⟨k,k1,k2,k3⟩:=a4Z ((s.mid (by omega)).mem_iff.1 (b7j h1 h2 hx))
 exact h k x k1 k2 k3
def Srt {α:Type} (c:α→α→Int) (a b:Nat) (l:List α):Prop:=∀ i j x y,a≤i→i<j→j<b→l[i]?=some x→l[j]?=some y→¬ c y x<0
def Low {α:Type} (c:α→α→Int) (a b:Nat) (l:List α):Prop:=∀ i j x y,i<a→a≤j→j<b→l[i]?=some x→l[j]?=some y→c x y<0
theorem Low.seg {α:Type} {c:α→α→Int} {a b:Nat} {l l':List α} (h:Low c a b l) (s:Seg a b l l'):Low c a b l':=fun i j x y h1 h2 h3 hx hy=>by
 rw [s.out i (by omega)] at hx
 exact (AllIn.seg (Q:=fun y=>c x y<0) (fun k z k1 k2 hz=>h i k x z h1 k1 k2 hx hz) s) j y h2 h3 hy
def Nd {α:Type} (c:α→α→Int) (l:List α):Prop:=l.Pairwise fun x y=>c x y<0∨c y x<0
theorem Nd.pm {α:Type} {c:α→α→Int} {l l':List α} (h:Nd c l) (p:l'.Perm l):Nd c l':=(p.pairwise_iff (R:=fun x y=>c x y<0∨c y x<0) fun {_ _} hh=>hh.symm).2 h
theorem Nd.at {α:Type} {c:α→α→Int} {l:List α} (h:Nd c l) {i j:Nat} {x y:α} (hij:i≠j) (hx:l[i]?=some x) (hy:l[j]?=some y):c x y<0∨c y x<0:=by
 obtain ⟨h1,rfl⟩:=c9d.1 hx
 obtain ⟨h2,rfl⟩:=c9d.1 hy
 rcases Nat.lt_or_gt_of_ne hij with hlt | hlt
 ·exact List.pairwise_iff_getElem.1 h i j h1 h2 hlt
 ·exact (List.pairwise_iff_getElem.1 h j i h2 h1 hlt).symm
theorem b5R {α:Type} {c:α→α→Int} {P A Q:List α} (h:A.Pairwise fun x y=>¬ c y x<0):Srt c P.length (P.length+A.length) (P++A++Q):=fun i j x y h1 h2 h3 hx hy=>by
 rw [List.append_assoc,List.getElem?_append_right h1,c9l (by omega)] at hx
 rw [List.append_assoc,List.getElem?_append_right (by omega),c9l (by omega)] at hy
 obtain ⟨k1,rfl⟩:=c9d.1 hx
 obtain ⟨k2,rfl⟩:=c9d.1 hy
 exact List.pairwise_iff_getElem.1 h _ _ k1 k2 (by omega)
theorem b2W {α:Type} {P A B Q:List α} (h:B.Perm A):Seg P.length (P.length+A.length) (P++A++Q) (P++B++Q):=by
 have hl:=h.length_eq
 refine ⟨by simp [-bind_some, hl],(h.append_left P).append_right Q,fun j hj=>?_⟩
 rcases hj with hj | hj
 ·rw [List.append_assoc,List.append_assoc,c9l hj,c9l hj]
 ·rw [List.getElem?_append_right (by simp;omega),List.getElem?_append_right (by simp;omega)]
  simp [-bind_some, hl]
def Out2 {α:Type} (c:α→α→Int) (a b a' b':Nat) (l:List α):Prop:=∀ i j x y,a≤i→i<j→j<b→¬ (a'≤i∧j<b')→l[i]?=some x→l[j]?=some y→¬ c y x<0
theorem Out2.seg {α:Type} {c:α→α→Int} {a b a' b':Nat} {l l':List α} (h:Out2 c a b a' b' l) (s:Seg a' b' l l') (h1:a≤a') (h2:b'≤b):Out2 c a b a' b' l':=fun i j x y k1 k2 k3 k4 hx hy=>by
 by_cases hi:a'≤i∧i<b'
 ·have hj:b'≤j:=by omega
  rw [s.out j (by omega)] at hy
  exact (AllIn.seg (Q:=fun x=>¬ c y x<0) (fun k z z1 z2 hz=>h k j z y (by omega) (by omega) k3 (by omega) hz hy) s) i x hi.1 hi.2 hx
 ·rw [s.out i (by omega)] at hx
  by_cases hj:a'≤j∧j<b'
  ·exact (AllIn.seg (Q:=fun y=>¬ c y x<0) (fun k z z1 z2 hz=>h i k x z k1 (by omega) (by omega) (by omega) hx hz) s) j y hj.1 hj.2 hy
  ·rw [s.out j (by omega)] at hy
   exact h i j x y k1 k2 k3 k4 hx hy
theorem Out2.all {α:Type} {c:α→α→Int} {a b a' b':Nat} {l:List α} (h:Out2 c a b a' b' l) (s:Srt c a' b' l):Srt c a b l:=fun i j x y k1 k2 k3 hx hy=>by
 by_cases hh:a'≤i∧j<b'
 ·exact s i j x y hh.1 k2 hh.2 hx hy
 ·exact h i j x y k1 k2 k3 hh hx hy
structure Part {α:Type} (c:α→α→Int) (a b m:Nat) (l:List α):Prop where
 lo:a≤m
 hi:m<b
 lt:∀ i x p,a≤i→i<m→l[i]?=some x→l[m]?=some p→c x p<0
 ge:∀ i x p,m<i→i<b→l[i]?=some x→l[m]?=some p→¬ c x p<0
theorem Out2.left {α:Type} {c:α→α→Int} (o:CmO c) {a b a' b' m:Nat} {l l':List α} (h:Out2 c a b a' b' l) (p:Part c a' b' m l) (hb:b'≤l.length) (s:Seg a' m l l') (hs:Srt c a' m l') (h1:a≤a') (h2:b'≤b):Out2 c a b (m+1) b' l':=fun i j x y k1 k2 k3 k4 hx hy=>by
 have hlo:=p.lo
 have hhi:=p.hi
 have h':=h.seg (s.mono (Nat.le_refl _) (by omega:m≤b')) h1 h2
 by_cases hin:a'≤i∧j<b'
 ·obtain ⟨q,hq⟩:∃ q,l[m]?=some q:=⟨_,c9c (by omega)⟩
  have hm:l'[m]?=some q:=by rw [s.out m (by omega)];exact hq
  have hl:AllIn a' m (fun z=>c z q<0) l':=AllIn.seg (fun k z z1 z2 hz=>p.lt k z q z1 z2 hz hq) s
  have hr:∀ k z,m<k→k<b'→l'[k]?=some z→¬ c z q<0:=fun k z z1 z2 hz=>by rw [s.out k (by omega)] at hz;exact p.ge k z q z1 z2 hz hq
  rcases Nat.lt_trichotomy j m with hj | hj | hj
  ·exact hs i j x y hin.1 k2 hj hx hy
  ·subst hj
   rw [hm] at hy
   injection hy with hy
   subst hy
   exact o.asm _ _ (hl i x hin.1 k2 hx)
  ·have hyq:=hr j y hj hin.2 hy
   rcases Nat.lt_trichotomy i m with hi | hi | hi
   ·exact o.tr _ _ _ (o.asm _ _ (hl i x hin.1 hi hx)) hyq
   ·subst hi
    rw [hm] at hx
    injection hx with hx
    subst hx
    exact hyq
   ·omega
 ·exact h' i j x y k1 k2 k3 hin hx hy
theorem Out2.right {α:Type} {c:α→α→Int} (o:CmO c) {a b a' b' m:Nat} {l l':List α} (h:Out2 c a b a' b' l) (p:Part c a' b' m l) (hb:b'≤l.length) (s:Seg (m+1) b' l l') (hs:Srt c (m+1) b' l') (h1:a≤a') (h2:b'≤b):Out2 c a b a' m l':=fun i j x y k1 k2 k3 k4 hx hy=>by
 have hlo:=p.lo
 have hhi:=p.hi
 have h':=h.seg (s.mono (by omega:a'≤m+1) (Nat.le_refl _)) h1 h2
 by_cases hin:a'≤i∧j<b'
 ·obtain ⟨q,hq⟩:∃ q,l[m]?=some q:=⟨_,c9c (by omega)⟩
  have hm:l'[m]?=some q:=by rw [s.out m (by omega)];exact hq
  have hr:AllIn (m+1) b' (fun z=>¬ c z q<0) l':=AllIn.seg (fun k z z1 z2 hz=>p.ge k z q (by omega) z2 hz hq) s
  have hl:∀ k z,a'≤k→k<m→l'[k]?=some z→c z q<0:=fun k z z1 z2 hz=>by rw [s.out k (by omega)] at hz;exact p.lt k z q z1 z2 hz hq
  rcases Nat.lt_trichotomy i m with hi | hi | hi
  ·have hxq:=hl i x hin.1 hi hx
   rcases Nat.lt_trichotomy j m with hj | hj | hj
   ·omega
   ·subst hj
    rw [hm] at hy
    injection hy with hy
    subst hy
    exact o.asm _ _ hxq
   ·exact o.tr _ _ _ (o.asm _ _ hxq) (hr j y (by omega) hin.2 hy)
  ·subst hi
   rw [hm] at hx
   injection hx with hx
   subst hx
   exact hr j y (by omega) hin.2 hy
  ·exact hs i j x y (by omega) k2 hin.2 hx hy
 ·exact h' i j x y k1 k2 k3 hin hx hy
theorem Low.lft {α:Type} {c:α→α→Int} {a b m:Nat} {l:List α} (h:Low c a b l) (p:Part c a b m l):Low c a m l:=fun i j x y h1 h2 h3 hx hy=>h i j x y h1 h2 (by have:=p.hi;omega) hx hy
theorem Low.rgt {α:Type} {c:α→α→Int} (o:CmO c) {a b m:Nat} {l:List α} (h:Low c a b l) (p:Part c a b m l) (nd:Nd c l) (hb:b≤l.length):Low c (m+1) b l:=fun i j x y h1 h2 h3 hx hy=>by
 have hlo:=p.lo
 have hhi:=p.hi
 obtain ⟨q,hq⟩:∃ q,l[m]?=some q:=⟨_,c9c (by omega)⟩
 have hqy:c q y<0:=by
  rcases nd.at (by omega:m≠j) hq hy with h4 | h4
  ·exact h4
  ·exact absurd h4 (p.ge j y q (by omega) h3 hy hq)
 by_cases hi:i<a
 ·exact h i j x y hi (by omega) h3 hx hy
 ·by_cases hm:i=m
  ·subst hm
   rw [hq] at hx
   injection hx with hx
   subst hx
   exact hqy
  ·exact o.lt (p.lt i x q (by omega) (by omega) hx hq) hqy
def a8h {α:Type} (c:α→α→Int) (f k hi:Nat) (l:List α):Prop:=∀ i ch x y,k≤i→(ch=2*i+1∨ch=2*i+2)→ch<hi→l[f+i]?=some x→l[f+ch]?=some y→¬ c x y<0
structure HeapE {α:Type} (c:α→α→Int) (f k hi r:Nat) (l:List α):Prop where
 ot:∀ i ch x y,k≤i→i≠r→(ch=2*i+1∨ch=2*i+2)→ch<hi→l[f+i]?=some x→l[f+ch]?=some y→¬ c x y<0
 up:∀ i ch x y,k≤i→(r=2*i+1∨r=2*i+2)→(ch=2*r+1∨ch=2*r+2)→ch<hi→l[f+i]?=some x→l[f+ch]?=some y→¬ c x y<0
theorem HeapE.mk0 {α:Type} {c:α→α→Int} {f k hi:Nat} {l:List α} (h:a8h c f (k+1) hi l):HeapE c f k hi k l :=
 ⟨fun i ch x y h1 h2 h3 h4 hx hy=>h i ch x y (by omega) h3 h4 hx hy,fun i ch x y h1 h2 h3 h4 hx hy=>by omega⟩
theorem HeapE.leaf {α:Type} {c:α→α→Int} {f k hi r:Nat} {l:List α} (h:HeapE c f k hi r l) (hr:hi≤2*r+1):a8h c f k hi l:=fun i ch x y h1 h2 h3 hx hy=>h.ot i ch x y h1 (fun e=>by subst e;omega) h2 h3 hx hy
def c1w {α:Type} (c:α→α→Int) (f hi r ch:Nat) (l:List α):Prop:=(ch=2*r+1∨ch=2*r+2)∧ch<hi∧∀ d y z,(d=2*r+1∨d=2*r+2)→d<hi→l[f+ch]?=some y→l[f+d]?=some z→¬ c y z<0
theorem HeapE.stop {α:Type} {c:α→α→Int} (o:CmO c) {f k hi r ch:Nat} {l:List α} (h:HeapE c f k hi r l) (b:c1w c f hi r ch l) {x y:α} (hx:l[f+r]?=some x) (hy:l[f+ch]?=some y) (hc:¬ c x y<0):a8h c f k hi l:=fun i d u v h1 h2 h3 hu hv=>by
 by_cases e:i=r
 ·subst e
  rw [hx] at hu
  injection hu with hu
  subst hu
  exact o.tr _ _ _ (b.2.2 d y v h2 h3 hy hv) hc
 ·exact h.ot i d u v h1 e h2 h3 hu hv
theorem HeapE.down {α:Type} {c:α→α→Int} (o:CmO c) {f k hi r ch:Nat} {l:List α} (h:HeapE c f k hi r l) (hk:k≤r) (b:c1w c f hi r ch l) {x y:α} (hx:l[f+r]?=some x) (hy:l[f+ch]?=some y) (hc:c x y<0):HeapE c f k hi ch ((l.set (f+r) y).set (f+ch) x):=by
 obtain ⟨b1,b2,b3⟩:=b
 have g:=a3V hx hy
 refine ⟨fun i d u v h1 h2 h3 h4 hu hv=>?_,fun i d u v h1 h2 h3 h4 hu hv=>?_⟩
 ·rw [g,if_neg (by omega)] at hu
  by_cases e:i=r
  ·subst e
   rw [if_pos rfl] at hu
   injection hu with hu
   subst hu
   rw [g] at hv
   by_cases e2:d=ch
   ·subst e2
    rw [if_pos rfl] at hv
    injection hv with hv
    subst hv
    exact o.asm _ _ hc
   ·rw [if_neg (by omega),if_neg (by omega)] at hv
    exact b3 d y v h3 h4 hy hv
  ·rw [if_neg (by omega)] at hu
   rw [g,if_neg (by omega)] at hv
   by_cases e2:d=r
   ·subst e2
    rw [if_pos rfl] at hv
    injection hv with hv
    subst hv
    exact h.up i ch u y h1 h3 b1 b2 hu hy
   ·rw [if_neg (by omega)] at hv
    exact h.ot i d u v h1 e h3 h4 hu hv
 ·have e:i=r:=by omega
  subst e
  rw [g,if_neg (by omega),if_pos rfl] at hu
  injection hu with hu
  subst hu
  rw [g,if_neg (by omega),if_neg (by omega)] at hv
  exact h.ot ch d y v (by omega) (by omega) h3 h4 hy hv
theorem b4p {α:Type} {c:α→α→Int} (o:CmO c) {f hi:Nat} {l:List α} (h:a8h c f 0 hi l) (hl:f+hi≤l.length) {x:α} (hx:l[f]?=some x):∀ j y,j<hi→l[f+j]?=some y→¬ c x y<0:=fun j=>by
 induction j using Nat.strongRecOn with
 | _ j ih =>
  intro y hj hy
  by_cases h0:j=0
  ·subst h0
   rw [Nat.add_zero,hx] at hy
   injection hy with hy
   subst hy
   exact o.irr _
  ·obtain ⟨q,hq⟩:∃ q,q=(j - 1) / 2:=⟨_,rfl⟩
   have hqj:j=2*q+1∨j=2*q+2:=by omega
   obtain ⟨z,hz⟩:∃ z,l[f+q]?=some z:=⟨_,c9c (by omega)⟩
   exact o.tr _ _ _ (h q j z y (by omega) hqj hj hz hy) (ih q (by omega) z (by omega) hz)
structure HS {α:Type} (c:α→α→Int) (f n i:Nat) (l:List α):Prop where
 hp:a8h c f 0 i l
 ab:∀ p q x y,p<i→i≤q→q<n→l[f+p]?=some x→l[f+q]?=some y→¬ c y x<0
 st:Srt c (f+i) (f+n) l
theorem HS.mk0 {α:Type} {c:α→α→Int} {f n:Nat} {l:List α} (h:a8h c f 0 n l):HS c f n n l:=⟨h,fun p q x y h1 h2 h3=>by omega,fun i j x y h1 h2 h3=>by omega⟩
theorem HS.step {α:Type} {c:α→α→Int} (o:CmO c) {f n i:Nat} {l l':List α} (h:HS c f n (i+1) l) (hi:i+1≤n) (hl:f+n≤l.length) {x y:α} (hx:l[f]?=some x) (hy:l[f+i]?=some y)
  (s:Seg f (f+i) ((l.set f y).set (f+i) x) l') (hh:a8h c f 1 i ((l.set f y).set (f+i) x)→a8h c f 0 i l'):HS c f n i l':=by
 have g:=a3V hx hy
 have mx:=b4p o h.hp (by omega) hx
 have hlow:AllIn f (f+i) (fun z=>¬ c x z<0) ((l.set f y).set (f+i) x):=fun k z z1 z2 hz=>by
  rw [g,if_neg (by omega)] at hz
  by_cases e:k=f
  ·rw [if_pos e] at hz
   injection hz with hz
   subst hz
   exact mx i y (by omega) hy
  ·rw [if_neg e] at hz
   have:k=f+(k - f):=by omega
   rw [this] at hz
   exact mx (k - f) z (by omega) hz
 have hlow':=hlow.seg s
 have hi':l'[f+i]?=some x:=by rw [s.out _ (by omega),g,if_pos rfl]
 have hup:∀ q v,i<q→q<n→l'[f+q]?=some v→l[f+q]?=some v:=fun q v h1 h2 hv=>by
  rw [s.out _ (by omega),g,if_neg (by omega),if_neg (by omega)] at hv
  exact hv
 -- of what lies in front: each was in front
 have hfr:∀ q v,i<q→q<n→l[f+q]?=some v→AllIn f (f+i) (fun z=>¬ c v z<0) l':=fun q v h1 h2 hv=>AllIn.seg (fun k z z1 z2 hz=>by
  rw [g,if_neg (by omega)] at hz
  by_cases e:k=f
  ·rw [if_pos e] at hz
   injection hz with hz
   subst hz
   exact h.ab i q y v (by omega) (by omega) h2 hy hv
  ·rw [if_neg e] at hz
   have:k=f+(k - f):=by omega
   rw [this] at hz
   exact h.ab (k - f) q z v (by omega) (by omega) h2 hz hv) s
 refine ⟨hh fun j ch u v h1 h2 h3 hu hv=>?_,fun p q u v h1 h2 h3 hu hv=>?_,fun p q u v h1 h2 h3 hu hv=>?_⟩
 ·rw [g,if_neg (by omega),if_neg (by omega)] at hu
  rw [g,if_neg (by omega),if_neg (by omega)] at hv
  exact h.hp j ch u v (by omega) h2 (by omega) hu hv
 ·by_cases e:q=i
  ·subst e
   rw [hi'] at hv
   injection hv with hv
   subst hv
   exact hlow' (f+p) u (by omega) (by omega) hu
  ·exact hfr q v (by omega) h3 (hup q v (by omega) h3 hv) (f+p) u (by omega) (by omega) hu
 ·have eq:q=f+(q - f):=by omega
  rw [eq] at hv
  have hv':=hup (q - f) v (by omega) (by omega) hv
  by_cases e:p=f+i
  ·subst e
   rw [hi'] at hu
   injection hu with hu
   subst hu
   exact h.ab 0 (q - f) x v (by omega) (by omega) (by omega) (by simpa using hx) hv'
  ·have ep:p=f+(p - f):=by omega
   rw [ep] at hu
   have hu':=hup (p - f) u (by omega) (by omega) hu
   exact h.st (f+(p - f)) (f+(q - f)) u v (by omega) (by omega) (by omega) hu' hv'
theorem HS.fin {α:Type} {c:α→α→Int} {f n:Nat} {l:List α} (h:HS c f n 0 l):Srt c f (f+n) l:=by
 have:=h.st
 simpa using this
structure SrtX {α:Type} (c:α→α→Int) (a b j:Nat) (l:List α):Prop where
 ot:∀ p q x y,a≤p→p<q→q<b→p≠j→q≠j→l[p]?=some x→l[q]?=some y→¬ c y x<0
 up:∀ q x y,j<q→q<b→l[j]?=some x→l[q]?=some y→¬ c y x<0
theorem SrtX.step {α:Type} {c:α→α→Int} (o:CmO c) {a b j:Nat} {l:List α} (h:SrtX c a b (j+1) l) (hj:a≤j) (hb:j+1<b) {x y:α} (hx:l[j+1]?=some x) (hy:l[j]?=some y) (hc:c x y<0):SrtX c a b j ((l.set (j+1) y).set j x):=by
 have g:=a3V hx hy
 refine ⟨fun p q u v h1 h2 h3 h4 h5 hu hv=>?_,fun q u v h1 h2 hu hv=>?_⟩
 ·rw [g,if_neg h4] at hu
  rw [g,if_neg h5] at hv
  by_cases e:p=j+1
  ·subst e
   rw [if_pos rfl] at hu
   injection hu with hu
   subst hu
   rw [if_neg (by omega)] at hv
   exact h.ot j q y v hj (by omega) h3 (by omega) (by omega) hy hv
  ·rw [if_neg e] at hu
   by_cases e2:q=j+1
   ·subst e2
    rw [if_pos rfl] at hv
    injection hv with hv
    subst hv
    exact h.ot p j u y h1 (by omega) (by omega) e (by omega) hu hy
   ·rw [if_neg e2] at hv
    exact h.ot p q u v h1 h2 h3 e e2 hu hv
 ·rw [g,if_pos rfl] at hu
  injection hu with hu
  subst hu
  rw [g,if_neg (by omega)] at hv
  by_cases e:q=j+1
  ·rw [if_pos e] at hv
   injection hv with hv
   subst hv
   exact o.asm _ _ hc
  ·rw [if_neg e] at hv
   exact h.up q x v (by omega) h2 hx hv
theorem SrtX.stop {α:Type} {c:α→α→Int} (o:CmO c) {a b j:Nat} {l:List α} (h:SrtX c a b j l) (hs:a<j→∀ x y,l[j]?=some x→l[j - 1]?=some y→¬ c x y<0):Srt c a b l:=fun p q u v h1 h2 h3 hu hv=>by
 by_cases e:p=j
 ·subst e;exact h.up q u v h2 h3 hu hv
 ·by_cases e2:q=j
  ·subst e2
   have hlen:=(c9d.1 hv).1
   obtain ⟨w,hw⟩:∃ w,l[q - 1]?=some w:=⟨_,c9c (by omega)⟩
   have h4:=hs (by omega) v w hv hw
   by_cases e3:p=q - 1
   ·subst e3
    rw [hw] at hu
    injection hu with hu
    subst hu
    exact h4
   ·exact o.tr _ _ _ (h.ot p (q - 1) u w h1 (by omega) (by omega) e (by omega) hu hw) h4
  ·exact h.ot p q u v h1 h2 h3 e e2 hu hv
theorem Srt.more {α:Type} {c:α→α→Int} (o:CmO c) {a i:Nat} {l:List α} (h:Srt c a i l) (hi:a<i) (hl:i≤l.length) (hs:∀ x y,l[i]?=some x→l[i - 1]?=some y→¬ c x y<0):Srt c a (i+1) l:=fun p q u v h1 h2 h3 hu hv=>by
 by_cases e:q=i
 ·subst e
  obtain ⟨w,hw⟩:∃ w,l[q - 1]?=some w:=⟨_,c9c (by omega)⟩
  have h4:=hs v w hv hw
  by_cases e3:p=q - 1
  ·subst e3
   rw [hw] at hu
   injection hu with hu
   subst hu
   exact h4
  ·exact o.tr _ _ _ (h p (q - 1) u w h1 (by omega) (by omega) hu hw) h4
 ·exact h p q u v h1 h2 (by omega) hu hv
theorem Srt.one {α:Type} {c:α→α→Int} {a:Nat} {l:List α}:Srt c a (a+1) l:=fun p q u v h1 h2 h3=>by omega
theorem Srt.swX {α:Type} {c:α→α→Int} {a i:Nat} {l:List α} (h:Srt c a (i+1) l) {x y:α} (hx:l[i+1]?=some x) (hy:l[i]?=some y):SrtX c a (i+1) i ((l.set (i+1) y).set i x):=by
 have g:=a3V hx hy
 refine ⟨fun p q u v h1 h2 h3 h4 h5 hu hv=>?_,fun q u v h1 h2=>by omega⟩
 rw [g,if_neg h4,if_neg (by omega)] at hu
 rw [g,if_neg h5,if_neg (by omega)] at hv
 exact h p q u v h1 h2 h3 hu hv
structure PI {α:Type} (c:α→α→Int) (a b i j:Nat) (p:α) (l:List α):Prop where
 pv:l[a]?=some p
 i1:a<i
 ij:i≤j+1
 jb:j<b
 lt:∀ k x,a<k→k<i→l[k]?=some x→c x p<0
 ge:∀ k x,j<k→k<b→l[k]?=some x→¬ c x p<0
theorem PI.up {α:Type} {c:α→α→Int} {a b i j:Nat} {p:α} {l:List α} (h:PI c a b i j p l) (hij:i≤j) {x:α} (hx:l[i]?=some x) (hc:c x p<0):PI c a b (i+1) j p l :=
 ⟨h.pv,by have:=h.i1;omega,by omega,h.jb,fun k y h1 h2 hy=>by
  by_cases e:k=i
  ·subst e;rw [hx] at hy;injection hy with hy;subst hy;exact hc
  ·exact h.lt k y h1 (by omega) hy,h.ge⟩
theorem PI.down {α:Type} {c:α→α→Int} {a b i j:Nat} {p:α} {l:List α} (h:PI c a b i (j+1) p l) (hij:i≤j+1) {x:α} (hx:l[j+1]?=some x) (hc:¬ c x p<0):PI c a b i j p l :=
 ⟨h.pv,h.i1,by omega,by have:=h.jb;omega,h.lt,fun k y h1 h2 hy=>by
  by_cases e:k=j+1
  ·subst e;rw [hx] at hy;injection hy with hy;subst hy;exact hc
  ·exact h.ge k y (by omega) h2 hy⟩
theorem PI.swap {α:Type} {c:α→α→Int} {a b i j:Nat} {p:α} {l:List α} (h:PI c a b i j p l) (hij:i<j) {x y:α} (hx:l[i]?=some x) (hy:l[j]?=some y) (h1:¬ c x p<0) (h2:c y p<0):PI c a b (i+1) (j - 1) p ((l.set i y).set j x):=by
 have g:=a3V hx hy
 have:=h.i1
 refine ⟨by rw [g,if_neg (by omega),if_neg (by omega)];exact h.pv,by omega,by omega,by have:=h.jb;omega,fun k z z1 z2 hz=>?_,fun k z z1 z2 hz=>?_⟩
 ·rw [g,if_neg (by omega)] at hz
  by_cases e:k=i
  ·rw [if_pos e] at hz;injection hz with hz;subst hz;exact h2
  ·rw [if_neg e] at hz;exact h.lt k z z1 (by omega) hz
 ·rw [g] at hz
  by_cases e:k=j
  ·rw [if_pos e] at hz;injection hz with hz;subst hz;exact h1
  ·rw [if_neg e,if_neg (by omega)] at hz;exact h.ge k z (by omega) z2 hz
theorem PI.part {α:Type} {c:α→α→Int} {a b j:Nat} {p q:α} {l:List α} (h:PI c a b (j+1) j p l) (hq:l[j]?=some q):Part c a b j ((l.set j p).set a q)∧Seg a b l ((l.set j p).set a q):=by
 have g:=a3V hq h.pv
 have:=h.i1
 have hjb:=h.jb
 refine ⟨⟨by omega,h.jb,fun k x y h1 h2 hx hy=>?_,fun k x y h1 h2 hx hy=>?_⟩,a1O hq h.pv (by omega) (by omega) (by omega) (by omega)⟩
 ·rw [g] at hx
  rw [g,if_neg (by omega),if_pos rfl] at hy
  injection hy with hy
  subst hy
  by_cases e:k=a
  ·subst e
   rw [if_pos rfl] at hx
   injection hx with hx
   subst hx
   exact h.lt j q (by omega) (by omega) hq
  ·rw [if_neg e,if_neg (by omega)] at hx
   exact h.lt k x (by omega) (by omega) hx
 ·rw [g,if_neg (by omega),if_neg (by omega)] at hx
  have hyp:y=p:=by
   rw [g] at hy
   by_cases e:j=a
   ·rw [if_pos e] at hy
    injection hy with hy
    subst e
    have h3:=h.pv
    rw [hq] at h3
    injection h3 with h3
    rw [← hy,h3]
   ·rw [if_neg e,if_pos rfl] at hy
    injection hy with hy
    exact hy.symm
  subst hyp
  exact h.ge k x h1 h2 hx
structure Pr where
 l:Int
 r:Int
def prr (p:Pr):List D:=[.int .i64 p.l,.int .i64 p.r]
theorem a6T (p:Pr):(D.agg (prr p)).okv=true:=id rfl
theorem b7n (n:Nat) (p:Pr):∀ d∈prr p,Ok n d:=fun d hd=>by
 simp only [prr,c9i,List.not_mem_nil,or_false] at hd
 rcases hd with rfl | rfl
 ·exact .int _ _
 ·exact .int _ _
theorem b5A {h:Hp} {q k T z:Nat} {rows:List (List D)} {p:Pr} (hq:h[q]?=some (.row T z rows)) (hk:rows[k]?=some (prr p)):a0c tab h a0i (.ptr q k 0)=some (.agg (prr p)):=by
 rw [b2k,a1A hq,hk]
 rfl
theorem c3S (c:Pr→Pr→Int) (cmp:D) (hc:∀ x y g,a1B R cmp [.agg (prr x),.agg (prr y)] g=some (.int .i64 (c x y),g)) (ob N a:Nat) (hN:N≤1000000000) {β:Type} {K:Out→Option β} {Q:β→Prop}
  (l:List Pr) (hl:l.length=N) (j:Nat) (hj:j<N) (h:Hp) (ho:h[ob]?=some (.row a0i 2 (l.map prr))) (b:D)
  (k:∀ x y h',h'[ob]?=some (.row a0i 2 ((dn c a j l).map prr))→Same ob h h'→Wp (K (.ext 2,[x,y],h')) Q) :
  Wp ((a0z (a6c (.msl 2 ob 0 N) (.int .i64 a) cmp) [.int .i64 j,b] h).bind K) Q:=by
 generalize hV:dn c a j l=V at k
 refine Wp.loop (fun n ds g=>∃ b,∃ j:Nat,∃ l':List Pr,n=j∧ds=[.int .i64 j,b]∧l'.length=N∧j<N∧g[ob]?=some (.row a0i 2 (l'.map prr))∧Same ob h g∧dn c a j l'=V)
  (fun r=>r.1 = .ext 2∧(∃ x y,r.2.1=[x,y])∧r.2.2[ob]?=some (.row a0i 2 (V.map prr))∧Same ob h r.2.2) j ⟨b,j,l,rfl,rfl,hl,hj,ho,.refl _ _,hV⟩ ?_ ?_
 ·clear ho hl hj hV l j
  rintro n ds g ⟨b,j,l,rfl,rfl,hl,hj,ho,sm,hV⟩
  simp only [a6c,a0e,a0g,bs,c8N,a1e]
  cases n with
  | zero =>
   have hq:¬ (a:Int)<((0:Nat):Int):=by omega
   have hV:l=V:=hV
   subst hV
   simp only [hq,decide_false,a0x,a0F,c8O,if_false,reduceCtorEq,bs,a0n,a0d]
   exact .some (.inr ⟨by simp,rfl,⟨_,_,rfl⟩,ho,sm⟩)
  | succ j =>
   have g1:l[j+1]?=some l[j+1]:=c9c (by omega)
   have g0:l[j]?=some l[j]:=c9c (by omega)
   unfold dn at hV
   rw [g1,g0] at hV
   simp only at hV
   generalize l[j+1]=x at g1 hV
   generalize l[j]=y at g0 hV
   by_cases ha:a<j+1
   ·have ha':(a:Int)<((j+1:Nat):Int):=by omega
    have hw:IntKind.wrap .i64 (((j+1:Nat):Int) - 1)=(j:Int):=by
     rw [wrap_i64 (by omega) (by omega)];omega
    have i1:(0:Int)≤((j+1:Nat):Int)∧((j+1:Nat):Int)<(N:Int):=by omega
    have i0:(0:Int)≤(j:Int)∧(j:Int)<(N:Int):=by omega
    have m1:(l.map prr)[j+1]?=some (prr x):=by rw [c9a,g1];rfl
    have m0:(l.map prr)[j]?=some (prr y):=by rw [c9a,g0];rfl
    simp only [ha',decide_true,a0x,a0F,if_true,b2f,i1,i0,and_self,Nat.zero_add,c8W,a0t,hw,bs,b5A ho m1,b5A ho m0,hc,a0q,a0n]
    by_cases hlt:c x y<0
    ·rw [if_pos ⟨ha,hlt⟩] at hV
     simp only [hlt,decide_true,a0d,if_true]
     refine a7e ho m1 (by rfl) (by simp [-bind_some, prr]) (a6T _) fun g2 p2 s2=>?_
     rw [show spl (prr x) 0 (a0A (.agg (prr y)))=prr y from id rfl,a2L] at p2
     have m2:((l.set (j+1) y).map prr)[j]?=some (prr y):=by
      rw [c9a,c9m (by omega),g0];rfl
     try simp only [bs,i0,and_self,if_true,Nat.zero_add,c8W]
     refine a7e p2 m2 (by rfl) (by simp [-bind_some, prr]) (a6T _) fun g3 p3 s3=>?_
     rw [show spl (prr y) 0 (a0A (.agg (prr x)))=prr x from id rfl,a2L] at p3
     try simp only [bs]
     exact .some (.inl ⟨rfl,j,by omega,_,j,_,rfl,rfl,by simpa using hl,by omega,p3,(sm.trans s2).trans s3,hV⟩)
    ·rw [if_neg (fun hh=>hlt hh.2)] at hV
     subst hV
     simp only [hlt,decide_false,a0d,c8O,if_false]
     exact .some (.inr ⟨by simp,rfl,⟨_,_,rfl⟩,ho,sm⟩)
   ·rw [if_neg (fun hh=>ha hh.1)] at hV
    subst hV
    have ha':¬ (a:Int)<((j+1:Nat):Int):=by omega
    simp only [ha',decide_false,a0x,a0F,c8O,if_false,reduceCtorEq,bs,a0n,a0d]
    exact .some (.inr ⟨by simp,rfl,⟨_,_,rfl⟩,ho,sm⟩)
 ·rintro ⟨x,ds,g⟩ ⟨rfl,⟨u,v,rfl⟩,h1,h2⟩
  exact k u v g h1 h2
theorem c4q (c:Pr→Pr→Int) (cmp:D) (hc:∀ x y g,a1B R cmp [.agg (prr x),.agg (prr y)] g=some (.int .i64 (c x y),g)) (ob N a b:Nat) (hN:N≤1000000000) (hab:a<b∨(a=b∧b≤N)) (hb:b≤N)
  (l:List Pr) (hl:l.length=N) (h:Hp) (ho:h[ob]?=some (.row a0i 2 (l.map prr))) :
  ∃ d h',R a4W [.msl 2 ob 0 N,.int .i64 a,.int .i64 b,cmp] h=some (d,h')∧h'[ob]?=some (.row a0i 2 ((isr c a (a+1) (b - (a+1)) l).map prr))∧Same ob h h':=by
 suffices Wp (R a4W [.msl 2 ob 0 N,.int .i64 a,.int .i64 b,cmp] h) (fun p=>p.2[ob]?=some (.row a0i 2 ((isr c a (a+1) (b - (a+1)) l).map prr))∧Same ob h p.2) by
  obtain ⟨⟨x,h'⟩,h1,h2⟩:=this
  exact ⟨x,h',h1,h2⟩
 rw [b9A]
 have hw:=wi_ a (by omega)
 simp only [b6d,bs,c8N,a0k,hw]
 generalize hV:isr c a (a+1) (b - (a+1)) l=V
 refine Wp.loop (fun n ds g=>∃ u v w,∃ i:Nat,∃ l':List Pr,ds=[.int .i64 i,u,v,w]∧n=b - i∧l'.length=N∧g[ob]?=some (.row a0i 2 (l'.map prr))∧Same ob h g∧isr c a i (b - i) l'=V)
  (fun r=>r.1 = .ext 0∧r.2.2[ob]?=some (.row a0i 2 (V.map prr))∧Same ob h r.2.2) (b - (a+1)) ⟨_,_,_,a+1,l,rfl,rfl,hl,ho,.refl _ _,hV⟩ ?_ ?_
 ·rintro n ds g ⟨u,v,w,i,l',rfl,rfl,hl',ho',sm,hV⟩
  simp only [a6b,a0e,a0g,bs,c8N,a0q]
  refine Wp.dif ?_ ?_
  ·intro h0
   have h0:i<b:=by
    have:(i:Int)<(b:Int):=by simpa using h0
    omega
   have hb1:b - i=(b - (i+1))+1:=by omega
   rw [hb1] at hV
   unfold isr at hV
   have hw2:=wi_ i (by omega)
   refine c3S c cmp hc ob N a hN l' hl' i (by omega) g ho' _ fun x y g2 p2 s2=>?_
   simp only [a0o,a0L,a0j,bs,a0e,a0k,hw2]
   exact .some (.inl ⟨rfl,b - (i+1),by omega,_,_,_,i+1,_,rfl,rfl,by rw [b1j];exact hl',p2,sm.trans s2,hV⟩)
  ·intro h0
   have h0:¬ i<b:=by
    have:¬ (i:Int)<(b:Int):=by simpa using h0
    omega
   rw [show b - i=0 by omega] at hV
   have hV:l'=V:=hV
   subst hV
   exact .some (.inr ⟨by simp,rfl,ho',sm⟩)
 ·rintro ⟨x,ds,g⟩ ⟨rfl,h1,h2⟩
  simp only [a0o,a1M,bs]
  exact .some ⟨h1,h2⟩
theorem a1r {g:Hp} {o n:Nat} {rows:List Pr} {p:Pr} (ho:g[o]?=some (.row a0i 2 (rows.map prr))) (hp:rows[n]?=some p):a0c tab g a0i (.ptr o n 0)=some (.agg (prr p)):=by
 have hr:(rows.map prr)[n]?=some (prr p):=by rw [c9a,hp];rfl
 rw [b2k,a1A ho,hr]
 rfl
def CmpFP (cmp:D) (c:Pr→Pr→Int):Prop:=∀ x y g,a1B R cmp [.agg (prr x),.agg (prr y)] g=some (.int .i64 (c x y),g)
theorem b6M {c:Pr→Pr→Int} {S Pre:Pr→Pr→Prop} (od:SOrd c S Pre) {cmp:D} (hcmp:CmpFP cmp c) {o N:Nat} (hN:N≤1000000000) {g:Hp} {P A Q:List Pr} (hlen:(P++A++Q).length=N) (hA:A.Pairwise Pre)
  (ho:g[o]?=some (.row a0i 2 ((P++A++Q).map prr))) (a b:Int) (ha:a=P.length) (hb:b=(P.length+A.length:Nat)) :
  Wp (R a4W [.msl 2 o 0 N,.int .i64 a,.int .i64 b,cmp] g) fun p=>∃ C:List Pr,C.Perm A∧C.Pairwise S∧p.2[o]?=some (.row a0i 2 ((P++C++Q).map prr))∧Same o g p.2:=by
 subst ha hb
 have hl:=hlen
 simp only [c8S] at hl
 obtain ⟨d,h',e,p1,s1⟩:=c4q c cmp hcmp o N P.length (P.length+A.length) hN (by omega) (by omega) _ hlen g ho
 refine ⟨(d,h'),e,?_⟩
 cases A with
 | nil =>
  refine ⟨[],by simp,List.Pairwise.nil,?_,s1⟩
  rw [p1]
  simp [-bind_some, isr]
 | cons x A =>
  obtain ⟨C,q1,q2,q3⟩:=b2d od P Q A [x] (by simp) (fun u hu v hv=>by simp at hu;subst hu;exact (List.pairwise_cons.1 hA).1 v hv) (List.pairwise_cons.1 hA).2
  refine ⟨C,q2,q3,?_,s1⟩
  rw [p1]
  have e1:P.length+(x::A).length - (P.length+1)=A.length:=by simp;omega
  rw [e1]
  have e2:P++x::A++Q=P++[x]++A++Q:=by simp
  rw [e2]
  exact congrArg (fun z:List Pr=>some (Ob.row a0i 2 (z.map prr))) q1
theorem CmpFP.ap {cmp:D} {c:Pr→Pr→Int} (h:CmpFP cmp c) (x y:Pr) (g:Hp):a1B R cmp [.agg (prr x),.agg (prr y)] g=some (.int .i64 (c x y),g):=h x y g
theorem adP {N i:Nat} (h:i<N) (o:Nat):a0a tab a0v (.msl 2 o 0 N) (.int .i64 (i:Int))=some (.ptr o i 0):=by
 rw [b2f,if_pos (by omega)];simp [-bind_some]
theorem swP {g:Hp} {o i j:Nat} {l:List Pr} {x y:Pr} (ho:g[o]?=some (.row a0i 2 (l.map prr))) (hi:l[i]?=some x) (hj:l[j]?=some y) {β:Type} {f:Hp→Option β} {Q:β→Prop}
  (k:∀ g',g'[o]?=some (.row a0i 2 (((l.set i y).set j x).map prr))→Same o g g'→Wp (f g') Q) :
  Wp ((a0p tab g a0i (.ptr o i 0) (.agg (prr y))).bind fun h'=>(a0p tab h' a0i (.ptr o j 0) (.agg (prr x))).bind f) Q:=by
 have mi:(l.map prr)[i]?=some (prr x):=by rw [c9a,hi];rfl
 have sp:∀ a b:Pr,spl (prr a) 0 (a0A (.agg (prr b)))=prr b:=fun a b=>id rfl
 refine a7e (off:=0) ho mi (by rfl) (by simp [-bind_some, prr]) (a6T _) fun g2 p2 s2=>?_
 rw [sp,← List.map_set] at p2
 obtain ⟨z,hz⟩:∃ z,(l.set i y)[j]?=some z:=⟨_,c9c (by have:=(c9d.1 hj).1;simpa using this)⟩
 have mj:((l.set i y).map prr)[j]?=some (prr z):=by rw [c9a,hz];rfl
 refine a7e (off:=0) p2 mj (by rfl) (by simp [-bind_some, prr]) (a6T _) fun g3 p3 s3=>?_
 rw [sp,← List.map_set] at p3
 exact k g3 p3 (s2.trans s3)
theorem b7H {c:Pr→Pr→Int} {cmp:D} (hcmp:CmpFP cmp c) {o N:Nat} {g:Hp} {l:List Pr} (hl:l.length=N) (ho:g[o]?=some (.row a0i 2 (l.map prr))) (a b:Nat) (ha:a<N) (hb:b<N) (q:Nat) (s:Int) (hq:g[q]?=some (.row ty3 1 [[.int .i64 s]])) :
  ∃ (x y:Nat) (s':Int) (g':Hp),R a5J [.msl 2 o 0 N,.int .i64 (a:Int),.int .i64 (b:Int),.ptr q 0 0,cmp] g=some (.tup [.int .i64 (x:Int),.int .i64 (y:Int)],g')∧((x=a∧y=b)∨(x=b∧y=a))∧g'[q]?=some (.row ty3 1 [[.int .i64 s']])∧Same q g g':=by
 suffices Wp (R a5J [.msl 2 o 0 N,.int .i64 (a:Int),.int .i64 (b:Int),.ptr q 0 0,cmp] g) (fun p=>∃ (x y:Nat) (s':Int),p.1 = .tup [.int .i64 (x:Int),.int .i64 (y:Int)]∧((x=a∧y=b)∨(x=b∧y=a))∧p.2[q]?=some (.row ty3 1 [[.int .i64 s']])∧Same q g p.2) by
  obtain ⟨⟨d,g'⟩,h1,x,y,s',rfl,h2⟩:=this
  exact ⟨x,y,s',g',h1,h2⟩
 obtain ⟨u,hu⟩:∃ u,l[a]?=some u:=⟨_,c9c (by omega)⟩
 obtain ⟨v,hv⟩:∃ v,l[b]?=some v:=⟨_,c9c (by omega)⟩
 have lq:a0c tab g ty3 (.ptr q 0 0)=some (.int .i64 s):=by rw [c1O,a1A hq];rfl
 rw [c2Y]
 simp only [b8P,adP ha,adP hb,a1r ho hu,a1r ho hv,bs,hcmp.ap,a0q,c8N]
 by_cases hc:c v u<0
 ·simp only [hc,decide_true,a0d,if_true,a2W,bs,lq,a0k,c8N]
  refine b8f (kk:=0) (off:=0) hq (row:=[.int .i64 s]) (by rfl) (by rfl) (by simp) (by rfl) fun g2 p2 s2=>?_
  simp only [bs,a0G]
  exact .some ⟨b,a,_,rfl,.inr ⟨rfl,rfl⟩,p2,s2⟩
 ·simp only [hc,decide_false,a0d,c8O,if_false,a0G]
  exact .some ⟨a,b,s,rfl,.inl ⟨rfl,rfl⟩,hq,.refl _ _⟩
theorem c1o {c:Pr→Pr→Int} {cmp:D} (hcmp:CmpFP cmp c) {o N:Nat} {g:Hp} {l:List Pr} (hl:l.length=N) (ho:g[o]?=some (.row a0i 2 (l.map prr))) (a b d:Nat) (ha:a<N) (hb:b<N) (hd:d<N) (q:Nat) (s:Int) (hq:g[q]?=some (.row ty3 1 [[.int .i64 s]])) (hqo:o≠q) :
  ∃ (m:Nat) (s':Int) (g':Hp),R a9I [.msl 2 o 0 N,.int .i64 (a:Int),.int .i64 (b:Int),.int .i64 (d:Int),.ptr q 0 0,cmp] g=some (.int .i64 (m:Int),g')∧(m=a∨m=b∨m=d)∧g'[q]?=some (.row ty3 1 [[.int .i64 s']])∧Same q g g':=by
 obtain ⟨x1,y1,s1,g1,e1,h1,q1,m1⟩:=b7H hcmp hl ho a b ha hb q s hq
 have ho1:g1[o]?=some (.row a0i 2 (l.map prr)):=by rw [m1.2 o hqo];exact ho
 obtain ⟨x2,y2,s2,g2,e2,h2,q2,m2⟩:=b7H hcmp hl ho1 y1 d (by omega) hd q s1 q1
 have ho2:g2[o]?=some (.row a0i 2 (l.map prr)):=by rw [m2.2 o hqo];exact ho1
 obtain ⟨x3,y3,s3,g3,e3,h3,q3,m3⟩:=b7H hcmp hl ho2 x1 x2 (by omega) (by omega) q s2 q2
 refine ⟨y3,s3,g3,?_,by omega,q3,(m1.trans m2).trans m3⟩
 rw [c2U]
 simp only [b8L,e1,e2,e3,bs,a0H,c8Q,c8R,a0s]
theorem b7F {c:Pr→Pr→Int} {cmp:D} (hcmp:CmpFP cmp c) {o N:Nat} (hN:N≤1000000) {g:Hp} {l:List Pr} (hl:l.length=N) (ho:g[o]?=some (.row a0i 2 (l.map prr))) (a:Nat) (h0:1≤a) (ha:a+1<N) (q:Nat) (s:Int) (hq:g[q]?=some (.row ty3 1 [[.int .i64 s]])) (hqo:o≠q) :
  ∃ (m:Nat) (s':Int) (g':Hp),R a7D [.msl 2 o 0 N,.int .i64 (a:Int),.ptr q 0 0,cmp] g=some (.int .i64 (m:Int),g')∧(a≤m+1∧m≤a+1)∧g'[q]?=some (.row ty3 1 [[.int .i64 s']])∧Same q g g':=by
 obtain ⟨m,s',g',e,h1,h2⟩:=c1o hcmp hl ho (a - 1) a (a+1) (by omega) (by omega) ha q s hq hqo
 have w1:IntKind.wrap .i64 ((a:Int) - 1)=((a - 1:Nat):Int):=by rw [wrap_i64 (by omega) (by omega)];omega
 have w2:=wi_ a (by omega)
 refine ⟨m,s',g',?_,by omega,h2⟩
 rw [c2T]
 simp only [b8K,bs,a0t,a0k,w1,w2,e,a0s]
end Go.Proofs.YtkpnnfhodlanjaaGreatDoor
